/- Functions as predicate transformers, and that the machine does what they say, by program. -/
import Derived.Test.YtiajdaagamhbnaaZ0
import Derived.Lib.ConvBytes
import Derived.Laws.StructEq
import Derived.ChangeKeysEq
import Derived.Lib.AppendStr
import Derived.Laws.BytesArg
import Derived.Laws.OwnMore
import Derived.ChangeShapes
import Derived.Test.YtiajdaagamhbnaaRows
import Derived.Laws.Pointers
import Derived.Laws.Bits64b
import Derived.MapKept
import Derived.Maps.RangeRun
import Derived.Maps.AppendAt
import Derived.Laws.CopyRow
import Derived.Laws.IdiomCopy
import Derived.Lib.SliceRun
set_option linter.unusedVariables false
set_option linter.unusedSimpArgs false
set_option linter.unusedSectionVars false
set_option maxRecDepth 20000
set_option maxHeartbeats 4000000
namespace Go.Proofs.Ytiajdaagamhbnaa
open Sh
attribute [local irreducible] wpL anyG act jn lo gdB amb kp smr nc fa ld ldn st stn ad su mu qu re lt le gt ge eqi nei bws shl shr cat eqs nes lts gts eqb neb nt pk cv al bx ex fld fldn lnl lns ia iaa ixs sls sll sla mif mnm mxm mm asrt sm smu cl cc cf ci cnd gd gdu
def f20_b4 (j3 : Value → Value → Value → Value → Value → M) (self4 : Value → Value → Value → Value → Value → M) (t0_2 t1_2 t5_1 t6_1 t7 : Value) : M := dr <| idv t7 fun t16 => gt .i64 t16 (.int .i64 0) fun t17 => idv t17 fun t18 => gd t18 true (idv t5_1) fun t19 => gd t18 true (idv t7) fun t20 => gd t18 true (su .i64 t20 (.int .i64 1)) fun t21 => gd t18 true (ia 14 t19 t21) fun t22 => gd t18 true (fa 6 t22) fun t23 => gd t18 true (ld t23) fun t24 => gd t18 true (idv t0_2) fun t25 => gd t18 true (idv t6_1) fun t26 => gd t18 true (ia 14 t25 t26) fun t27 => gd t18 true (fa 6 t27) fun t28 => gd t18 true (ld t28) fun t29 => gd t18 true (lt .i64 t24 t29) fun t30 => gd t18 true (idv t30) fun t31 => gd t31 false (idv t5_1) fun t32 => gd t31 false (idv t7) fun t33 => gd t31 false (su .i64 t33 (.int .i64 1)) fun t34 => gd t31 false (ia 14 t32 t34) fun t35 => gd t31 false (fa 6 t35) fun t36 => gd t31 false (ld t36) fun t37 => gd t31 false (idv t0_2) fun t38 => gd t31 false (idv t6_1) fun t39 => gd t31 false (ia 14 t38 t39) fun t40 => gd t31 false (fa 6 t40) fun t41 => gd t31 false (ld t41) fun t42 => gd t31 false (eqi .i64 t37 t42) fun t43 => gd t31 false (idv t43) fun t44 => gd t44 true (idv t5_1) fun t45 => gd t44 true (idv t7) fun t46 => gd t44 true (su .i64 t46 (.int .i64 1)) fun t47 => gd t44 true (ia 14 t45 t47) fun t48 => gd t44 true (fa 0 t48) fun t49 => gd t44 true (ld t49) fun t50 => gd t44 true (idv t0_2) fun t51 => gd t44 true (idv t6_1) fun t52 => gd t44 true (ia 14 t51 t52) fun t53 => gd t44 true (fa 0 t53) fun t54 => gd t44 true (ld t54) fun t55 => gd t44 true (gt .i64 t50 t55) fun t56 => gd t31 false (pk t44 t56 (.bool false)) fun t57 => gd t18 true (pk t31 (.bool true) t57) fun t58 => pk t18 t58 (.bool false) fun t59 => cnd t59 ( su .i64 t7 (.int .i64 1) fun t61 => self4 t0_2 t1_2 t5_1 t6_1 t61 ) ( j3 t0_2 t1_2 t5_1 t6_1 t7 )
def f20_j5 (self2 : Value → Value → Value → Value → M) (t0_4 t1_4 t5_5 t6_3 : Value) : M := ad .i64 t6_3 (.int .i64 1) fun t13 => self2 t0_4 t1_4 t5_5 t13
def f20_j3 (self2 : Value → Value → Value → Value → M) (t0_3 t1_3 t5_2 t6_2 t7_1 : Value) : M := jn (fun (j5 : Value → Value → Value → Value → M) => dr <| idv t5_2 fun t62 => idv t7_1 fun t63 => sll 14 t62 none (some t63) fun t64 => idv t0_3 fun t66 => idv t6_2 fun t67 => ia 14 t66 t67 fun t68 => ldn 14 t68 fun t69 => idv t5_2 fun t72 => idv t7_1 fun t73 => sll 14 t72 (some t73) none fun t74 => amb ( sm Try.prog (Builtin.append_ #[22, 22] 22 #[(.slice none 0 0), t64]) fun t65 => kp (Kldn 14 t68 t69) <| sm Try.prog (Instr.buildSlice 22 1 #[(0, t69)]) fun t70_1 => sm Try.prog (Builtin.append_ #[22, 22] 22 #[t65, t70_1]) fun t71 => sm Try.prog (Builtin.append_ #[22, 22] 22 #[t71, t74]) fun t75 => idv t75 fun t5_3 => j5 t0_3 t1_3 t5_3 t6_2 ) ( sm Try.prog (Instr.buildSlice 22 1 #[(0, t69)]) fun t70 => sm Try.prog (Builtin.append_ #[22, 22] 22 #[(.slice none 0 0), t64]) fun t65_1 => kp (Kldn 14 t68 t69) <| sm Try.prog (Builtin.append_ #[22, 22] 22 #[t65_1, t70]) fun t71_1 => sm Try.prog (Builtin.append_ #[22, 22] 22 #[t71_1, t74]) fun t75_1 => idv t75_1 fun t5_4 => j5 t0_3 t1_3 t5_4 t6_2 ) ) (f20_j5 self2)
def f20_b2 (j1 : Value → Value → M) (self2 : Value → Value → Value → Value → M) (t0_1 t1_1 t5 t6 : Value) : M := lnl t0_1 fun t10 => lt .i64 t6 t10 fun t11 => cnd t11 ( lnl t5 fun t15 => jn (fun (j3 : Value → Value → Value → Value → Value → M) => lo (fun _ _ _ _ _ => bot) (f20_b4 j3) (fun l => l t0_1 t1_1 t5 t6 t15) ) (f20_j3 self2) ) ( j1 t1_1 t5 )
def f20_j1 (t1_5 t5_6 : Value) : M := mxm t1_5 (.int .i64 0) fun t78 => lnl t5_6 fun t80 => mnm t78 t80 fun t81 => sll 14 t5_6 none (some t81) fun t82 => rt t82
def f20 (t0 t1 : Value) : M := jn (fun (j1 : Value → Value → M) => lo (fun _ _ _ _ => bot) (f20_b2 j1) (fun l => l t0 t1 (.slice none 0 0) (.int .i64 0)) ) (f20_j1)
def f21_b2 (j1 : M) (self2 : Value → Value → Value → M) (t0_1 t1_1 t5 : Value) : M := lnl t0_1 fun t13 => lt .i64 t5 t13 fun t14 => cnd t14 ( dr <| idv t0_1 fun t17 => idv t5 fun t18 => ia 6 t17 t18 fun t19 => ldn 6 t19 fun t20 => idv t1_1 fun t21 => idv t5 fun t22 => ia 6 t21 t22 fun t23 => ldn 6 t23 fun t24 => smr Try.prog (do eqGuard .neq 57 (.tmp 20) (.tmp 24) t20 t24; binOp .neq 57 t20 t24) fun t25 => cnd t25 ( rt (.bool false) ) ( ad .i64 t5 (.int .i64 1) fun t16 => self2 t0_1 t1_1 t16 ) ) ( j1 )
def f21_j1 : M := rt (.bool true)
def f21 (t0 t1 : Value) : M := lnl t0 fun t7 => lnl t1 fun t9 => nei .i64 t7 t9 fun t10 => cnd t10 ( rt (.bool false) ) ( jn (fun (j1 : M) => lo (fun _ _ _ => bot) (f21_b2 j1) (fun l => l t0 t1 (.int .i64 0)) ) (f21_j1) )
def f52_b2 (j1 : M) (self2 : Value → Value → Value → Value → M) (t0_1 t1_1 t7_1 t8 : Value) : M := lt .i64 t8 t7_1 fun t9 => cnd t9 ( ia 6 t0_1 t8 fun t14 => ldn 6 t14 fun t15 => cf Try.prog t1_1 #[t15] fun t16 => cnd t16 ( rt t8 ) ( ad .i64 t8 (.int .i64 1) fun t18 => self2 t0_1 t1_1 t7_1 t18 ) ) ( j1 )
def f52_j1 : M := rt (.int .i64 (-1))
def f52 (t0 t1 : Value) : M := lnl t0 fun t7 => jn (fun (j1 : M) => lo (fun _ _ _ _ => bot) (f52_b2 j1) (fun l => l t0 t1 t7 (.int .i64 0)) ) (f52_j1)
theorem s52 (t0 t1 : Value) (w : World) (Q : Value → World → Prop) (h : f52 t0 t1 w Q) : Calls Try.prog 52 #[t0, t1] w (Rt Q) := by
  refine calls_of (l := [t0, t1]) Try.func52 rfl Try.ntmps52 (Nat.le_of_ble_eq_true rfl) ?_
  unfold f52 at h
  refine wp_seq ?_
  refine L_region ?_
  refine L_as ?_
  refine L_nil ?_
  refine E_n ?_
  refine wp_seq ?_
  refine wp_seq ?_
  refine L_region ?_
  refine L_mv ?_
  refine L_u (P_lnl is44 h) ?_
  intro v w h
  refine L_mv ?_
  refine L_nil ?_
  refine E_n ?_
  refine C_join (fun (k : M) (ρ : Nat → Value) => k) h (fun j1 J1 h => ?_) (fun ρ w h => ?_)
  · refine C_blk ?_
    refine C_lo (fun (l : Value → Value → Value → Value → M) (ρ : Nat → Value) => l (ρ 0) (ρ 1) (ρ 7) (ρ 8)) h (fun ρ w h => h) (fun nx self2 L2 ρ w h => ?_)
    unfold f52_b2 at h
    refine wp_seq ?_
    refine L_region ?_
    refine L_u (P_lt h) ?_
    intro v w h
    refine L_nil ?_
    refine E_n ?_
    refine wp_seq ?_
    refine C_cnd h (fun h => ?_) (fun h => ?_)
    · refine C_skip ?_
      refine E_n ?_
      refine wp_seq ?_
      refine C_blk ?_
      refine wp_seq ?_
      refine L_region ?_
      refine L_mv ?_
      refine L_as ?_
      refine L_nil ?_
      refine E_n ?_
      refine wp_seq ?_
      refine L_region ?_
      refine L_mv ?_
      refine L_mv ?_
      refine L_mv ?_
      refine L_u (P_ia se44 h) ?_
      intro v w h
      refine L_u (P_ldn ag57 h) ?_
      intro v w h
      refine L_u (N_cf h) ?_
      intro v w h
      refine L_nil ?_
      refine E_n ?_
      refine C_cnd h (fun h => ?_) (fun h => ?_)
      · refine wp_seq ?_
        refine L_region ?_
        refine L_mv ?_
        refine L_as ?_
        refine L_nil ?_
        refine E_n ?_
        refine C_ret ?_
        show bodyPost Try.prog Try.f52 (Rt Q) .ret _ _
        exact post_tmps (ts := [4]) (.inr rfl) rfl h
      · refine C_skip ?_
        refine B_n ?_
        refine E_n ?_
        refine L_region ?_
        refine L_u (P_ad h) ?_
        intro v w h
        refine L_mv ?_
        refine L_nil ?_
        refine E_n ?_
        exact L2 _ _ h
    · refine C_exit ?_
      refine E_x ?_
      refine E_x ?_
      refine B_x ?_
      exact J1 _ _ h
  · unfold f52_j1 at h
    refine E_n ?_
    refine wp_seq ?_
    refine L_region ?_
    refine L_as ?_
    refine L_nil ?_
    refine E_n ?_
    refine C_ret ?_
    show bodyPost Try.prog Try.f52 (Rt Q) .ret _ _
    exact post_tmps (ts := [4]) (.inr rfl) rfl h

def f39_j3 (self2 : Value → Value → Value → Value → M) (t0_2 t1_2 t5_1 t6_1 : Value) : M := ad .i64 t6_1 (.int .i64 1) fun t21 => self2 t0_2 t1_2 t5_1 t21
def f39_b2 (j1 : Value → Value → M) (self2 : Value → Value → Value → Value → M) (t0_1 t1_1 t5 t6 : Value) : M := lnl t0_1 fun t18 => lt .i64 t6 t18 fun t19 => cnd t19 ( ia 6 t0_1 t6 fun t24 => ldn 6 t24 fun t25 => al 57 #[(.int .i64 0), (.int .i64 0), (.int .i64 0), (.int .i64 0), (.int .i64 0), (.string ⟨#[]⟩)] fun t7 => stn 6 t7 t25 <| ldn 6 t7 fun t27 => cf Try.prog t1_1 #[t27] fun t28 => nt t28 fun t29 => jn (fun (j3 : Value → Value → Value → Value → M) => cnd t29 ( ldn 6 t7 fun t32 => ia 6 t0_1 t5 fun t33 => stn 6 t33 t32 <| ad .i64 t5 (.int .i64 1) fun t35 => j3 t0_1 t1_1 t35 t6 ) ( j3 t0_1 t1_1 t5 t6 ) ) (f39_j3 self2) ) ( j1 t0_1 t5 )
def f39_j1 (t0_3 t5_2 : Value) : M := sll 6 t0_3 (some t5_2) none fun t38 => sm Try.prog (Builtin.clear_ #[44] 0 #[t38]) fun _ => sll 6 t0_3 none (some t5_2) fun t41 => rt t41
def f39 (t0 t1 : Value) : M := cl (f52 t0 t1) fun t10 => eqi .i64 t10 (.int .i64 (-1)) fun t12 => cnd t12 ( rt t0 ) ( ad .i64 t10 (.int .i64 1) fun t15 => jn (fun (j1 : Value → Value → M) => lo (fun _ _ _ _ => bot) (f39_b2 j1) (fun l => l t0 t1 t10 t15) ) (f39_j1) )
theorem s39 (t0 t1 : Value) (w : World) (Q : Value → World → Prop) (h : f39 t0 t1 w Q) : Calls Try.prog 39 #[t0, t1] w (Rt Q) := by
  refine calls_of (l := [t0, t1]) Try.func39 rfl Try.ntmps39 (Nat.le_of_ble_eq_true rfl) ?_
  unfold f39 at h
  refine wp_seq ?_
  refine L_region ?_
  refine L_as ?_
  refine L_nil ?_
  refine E_n ?_
  refine wp_seq ?_
  refine L_region ?_
  refine L_mv ?_
  refine L_mv ?_
  refine L_u (N_cl Try.func52 rfl nn52 (fun w Q h => s52 _ _ w Q h) h) ?_
  intro v w h
  refine L_as ?_
  refine L_nil ?_
  refine E_n ?_
  refine wp_seq ?_
  refine wp_seq ?_
  refine L_region ?_
  refine L_mv ?_
  refine L_u (P_eqi h) ?_
  intro v w h
  refine L_nil ?_
  refine E_n ?_
  refine C_cnd h (fun h => ?_) (fun h => ?_)
  · refine wp_seq ?_
    refine L_region ?_
    refine L_mv ?_
    refine L_as ?_
    refine L_nil ?_
    refine E_n ?_
    refine C_ret ?_
    show bodyPost Try.prog Try.f39 (Rt Q) .ret _ _
    exact post_tmps (ts := [4]) (.inr rfl) rfl h
  · refine C_skip ?_
    refine E_n ?_
    refine wp_seq ?_
    refine wp_seq ?_
    refine L_region ?_
    refine L_mv ?_
    refine L_u (P_ad h) ?_
    intro v w h
    refine L_as ?_
    refine L_nil ?_
    refine E_n ?_
    refine C_join (fun (k : Value → Value → M) (ρ : Nat → Value) => k (ρ 0) (ρ 5)) h (fun j1 J1 h => ?_) (fun ρ w h => ?_)
    · refine C_blk ?_
      refine C_lo (fun (l : Value → Value → Value → Value → M) (ρ : Nat → Value) => l (ρ 0) (ρ 1) (ρ 5) (ρ 6)) h (fun ρ w h => h) (fun nx self2 L2 ρ w h => ?_)
      unfold f39_b2 at h
      refine wp_seq ?_
      refine wp_seq ?_
      refine L_region ?_
      refine L_mv ?_
      refine L_mv ?_
      refine L_u (P_lnl is44 h) ?_
      intro v w h
      refine L_u (P_lt h) ?_
      intro v w h
      refine L_nil ?_
      refine E_n ?_
      refine C_cnd h (fun h => ?_) (fun h => ?_)
      · refine C_skip ?_
        refine E_n ?_
        refine wp_seq ?_
        refine C_blk ?_
        refine wp_seq ?_
        refine L_region ?_
        refine L_mv ?_
        refine L_mv ?_
        refine L_u (P_ia se44 h) ?_
        intro v w h
        refine L_u (P_ldn ag57 h) ?_
        intro v w h
        refine L_u (P_al ze57 rfl h) ?_
        intro v w h
        refine L_u (P_stn ag57 h) ?_
        intro w h
        refine L_nil ?_
        refine E_n ?_
        refine wp_seq ?_
        refine L_region ?_
        refine L_mv ?_
        refine L_u (P_ldn ag57 h) ?_
        intro v w h
        refine L_u (N_cf h) ?_
        intro v w h
        refine L_u (P_nt h) ?_
        intro v w h
        refine L_nil ?_
        refine E_n ?_
        refine C_join (fun (k : Value → Value → Value → Value → M) (ρ : Nat → Value) => k (ρ 0) (ρ 1) (ρ 5) (ρ 6)) h (fun j3 J3 h => ?_) (fun ρ w h => ?_)
        · refine C_cnd h (fun h => ?_) (fun h => ?_)
          · refine wp_seq ?_
            refine L_region ?_
            refine L_mv ?_
            refine L_mv ?_
            refine L_u (P_ldn ag57 h) ?_
            intro v w h
            refine L_u (P_ia se44 h) ?_
            intro v w h
            refine L_u (P_stn ag57 h) ?_
            intro w h
            refine L_nil ?_
            refine E_n ?_
            refine L_region ?_
            refine L_mv ?_
            refine L_u (P_ad h) ?_
            intro v w h
            refine L_as ?_
            refine L_nil ?_
            exact J3 _ _ h
          · refine C_skip ?_
            exact J3 _ _ h
        · unfold f39_j3 at h
          refine B_n ?_
          refine E_n ?_
          refine L_region ?_
          refine L_mv ?_
          refine L_u (P_ad h) ?_
          intro v w h
          refine L_as ?_
          refine L_nil ?_
          refine E_n ?_
          exact L2 _ _ h
      · refine C_exit ?_
        refine E_x ?_
        refine E_x ?_
        refine B_x ?_
        exact J1 _ _ h
    · unfold f39_j1 at h
      refine E_n ?_
      refine wp_seq ?_
      refine L_region ?_
      refine L_mv ?_
      refine L_mv ?_
      refine L_u (P_sll se44 h) ?_
      intro v w h
      refine L_u (N_bin rfl h) ?_
      intro w h
      refine L_nil ?_
      refine E_n ?_
      refine wp_seq ?_
      refine L_region ?_
      refine L_mv ?_
      refine L_mv ?_
      refine L_u (P_sll se44 h) ?_
      intro v w h
      refine L_as ?_
      refine L_nil ?_
      refine E_n ?_
      refine C_ret ?_
      show bodyPost Try.prog Try.f39 (Rt Q) .ret _ _
      exact post_tmps (ts := [4]) (.inr rfl) rfl h

def f40 (t0 : Value) : M := smr Try.prog (do eqGuard .eql 44 (.tmp 3) (.const (.slice none 0 0)) t0 (.slice none 0 0); binOp .eql 44 t0 (.slice none 0 0)) fun t4 => cnd t4 ( rt (.slice none 0 0) ) ( sm Try.prog (Instr.buildSlice 44 0 #[]) fun t5 => sm Try.prog (Builtin.append_ #[44, 44] 44 #[t5, t0]) fun t7 => rt t7 )
theorem s40 (t0 : Value) (w : World) (Q : Value → World → Prop) (h : f40 t0 w Q) : Calls Try.prog 40 #[t0] w (Rt Q) := by
  refine calls_of (l := [t0]) Try.func40 rfl Try.ntmps40 (Nat.le_of_ble_eq_true rfl) ?_
  unfold f40 at h
  refine wp_seq ?_
  refine L_region ?_
  refine L_as ?_
  refine L_nil ?_
  refine E_n ?_
  refine wp_seq ?_
  refine wp_seq ?_
  refine L_region ?_
  refine L_mv ?_
  refine L_u (P_smr rfl h) ?_
  intro v w h
  refine L_nil ?_
  refine E_n ?_
  refine C_cnd h (fun h => ?_) (fun h => ?_)
  · refine wp_seq ?_
    refine L_region ?_
    refine L_as ?_
    refine L_nil ?_
    refine E_n ?_
    refine C_ret ?_
    show bodyPost Try.prog Try.f40 (Rt Q) .ret _ _
    exact post_tmps (ts := [2]) (.inr rfl) rfl h
  · refine C_skip ?_
    refine E_n ?_
    refine wp_seq ?_
    refine L_region ?_
    refine L_u (N_bsl h) ?_
    intro v w h
    refine L_mv ?_
    refine L_u (N_bi rfl h) ?_
    intro v w h
    refine L_as ?_
    refine L_nil ?_
    refine E_n ?_
    refine C_ret ?_
    show bodyPost Try.prog Try.f40 (Rt Q) .ret _ _
    exact post_tmps (ts := [2]) (.inr rfl) rfl h

def f41 (t0 t1 : Value) : M := bx 57 t0 fun t2 => fa 1 t2 fun t4 => ld t4 fun t5 => ld t1 fun t6 => nei .i64 t5 t6 fun t7 => rt t7
theorem s41 (t0 t1 : Value) (w : World) (Q : Value → World → Prop) (h : f41 t0 t1 w Q) : Calls Try.prog 41 #[t0, t1] w (Rt Q) := by
  refine calls_of (l := [t0, t1]) Try.func41 rfl Try.ntmps41 (Nat.le_of_ble_eq_true rfl) ?_
  unfold f41 at h
  refine wp_seq ?_
  refine L_region ?_
  refine L_u (P_bx h) ?_
  intro v w h
  refine L_as ?_
  refine L_nil ?_
  refine E_n ?_
  refine wp_seq ?_
  refine L_region ?_
  refine L_u (P_fa fo57_1 h) ?_
  intro v w h
  refine L_u (P_ld sc3 h) ?_
  intro v w h
  refine L_u (P_ld sc3 h) ?_
  intro v w h
  refine L_u (P_nei h) ?_
  intro v w h
  refine L_as ?_
  refine L_nil ?_
  refine E_n ?_
  refine C_ret ?_
  show bodyPost Try.prog Try.f41 (Rt Q) .ret _ _
  exact post_tmps (ts := [3]) (.inr rfl) rfl h

def f60_b3 (j2 : Value → Value → Value → Value → Value → M) (self3 : Value → Value → Value → Value → Value → Value → M) (t0_2 t1_2 t2_2 t3_2 t8_1 t9 : Value) : M := dr <| idv t9 fun t18 => idv t1_2 fun t19 => gt .i64 t18 t19 fun t20 => idv t20 fun t21 => gd t21 true (idv t3_2) fun t22 => gd t21 true (idv t0_2) fun t23 => gd t21 true (idv t9) fun t24 => gd t21 true (ia 6 t23 t24) fun t25 => gd t21 true (ldn 6 t25) fun t26 => gd t21 true (idv t0_2) fun t27 => gd t21 true (idv t9) fun t28 => gd t21 true (su .i64 t28 (.int .i64 1)) fun t29 => gd t21 true (ia 6 t27 t29) fun t30 => gd t21 true (ldn 6 t30) fun t31 => gd t21 true (cf Try.prog t22 #[t26, t31]) fun t32 => gd t21 true (lt .i64 t32 (.int .i64 0)) fun t33 => pk t21 t33 (.bool false) fun t34 => cnd t34 ( dr <| idv t0_2 fun t37 => idv t9 fun t38 => idv t0_2 fun t39 => idv t9 fun t40 => su .i64 t40 (.int .i64 1) fun t41 => idv t0_2 fun t42 => idv t9 fun t43 => su .i64 t43 (.int .i64 1) fun t44 => ia 6 t42 t44 fun t45 => ldn 6 t45 fun t46 => idv t0_2 fun t47 => idv t9 fun t48 => ia 6 t47 t48 fun t49 => ldn 6 t49 fun t50 => ia 6 t37 t38 fun t51 => stn 6 t51 t46 <| ia 6 t39 t41 fun t52 => stn 6 t52 t50 <| su .i64 t9 (.int .i64 1) fun t36 => self3 t0_2 t1_2 t2_2 t3_2 t8_1 t36 ) ( j2 t0_2 t1_2 t2_2 t3_2 t8_1 )
def f60_j2 (self1 : Value → Value → Value → Value → Value → M) (t0_3 t1_3 t2_3 t3_3 t8_2 : Value) : M := ad .i64 t8_2 (.int .i64 1) fun t16 => self1 t0_3 t1_3 t2_3 t3_3 t16
def f60_b1 (self1 : Value → Value → Value → Value → Value → M) (t0_1 t1_1 t2_1 t3_1 t8 : Value) : M := lt .i64 t8 t2_1 fun t14 => cnd t14 ( jn (fun (j2 : Value → Value → Value → Value → Value → M) => lo (fun _ _ _ _ _ _ => bot) (f60_b3 j2) (fun l => l t0_1 t1_1 t2_1 t3_1 t8 t8) ) (f60_j2 self1) ) ( rt (.tuple #[]) )
def f60 (t0 t1 t2 t3 : Value) : M := ad .i64 t1 (.int .i64 1) fun t11 => lo (fun _ _ _ _ _ => bot) (f60_b1) (fun l => l t0 t1 t2 t3 t11)
theorem s60 (t0 t1 t2 t3 : Value) (w : World) (Q : Value → World → Prop) (h : f60 t0 t1 t2 t3 w Q) : Calls Try.prog 60 #[t0, t1, t2, t3] w (Rt Q) := by
  refine calls_of (l := [t0, t1, t2, t3]) Try.func60 rfl Try.ntmps60 (Nat.le_of_ble_eq_true rfl) ?_
  unfold f60 at h
  refine wp_seq ?_
  refine L_region ?_
  refine L_mv ?_
  refine L_u (P_ad h) ?_
  intro v w h
  refine L_as ?_
  refine L_nil ?_
  refine E_n ?_
  refine C_blk ?_
  refine C_lo (fun (l : Value → Value → Value → Value → Value → M) (ρ : Nat → Value) => l (ρ 0) (ρ 1) (ρ 2) (ρ 3) (ρ 8)) h (fun ρ w h => h) (fun nx self1 L1 ρ w h => ?_)
  unfold f60_b1 at h
  refine wp_seq ?_
  refine wp_seq ?_
  refine L_region ?_
  refine L_mv ?_
  refine L_mv ?_
  refine L_u (P_lt h) ?_
  intro v w h
  refine L_nil ?_
  refine E_n ?_
  refine C_cnd h (fun h => ?_) (fun h => ?_)
  · refine C_skip ?_
    refine E_n ?_
    refine wp_seq ?_
    refine C_blk ?_
    refine wp_seq ?_
    refine L_region ?_
    refine L_mv ?_
    refine L_as ?_
    refine L_nil ?_
    refine E_n ?_
    refine C_join (fun (k : Value → Value → Value → Value → Value → M) (ρ : Nat → Value) => k (ρ 0) (ρ 1) (ρ 2) (ρ 3) (ρ 8)) h (fun j2 J2 h => ?_) (fun ρ w h => ?_)
    · refine C_blk ?_
      refine C_lo (fun (l : Value → Value → Value → Value → Value → Value → M) (ρ : Nat → Value) => l (ρ 0) (ρ 1) (ρ 2) (ρ 3) (ρ 8) (ρ 9)) h (fun ρ w h => h) (fun nx self3 L3 ρ w h => ?_)
      unfold f60_b3 at h
      refine wp_seq ?_
      refine wp_seq ?_
      refine D_region (by decide +kernel) 17 rfl ?_
      replace h := dr_e h
      refine G_p 0 rfl (by decide +kernel) (Y_mv h) ?_
      intro v h
      refine G_p 1 rfl (by decide +kernel) (Y_mv h) ?_
      intro v h
      refine G_p 2 rfl (by decide +kernel) (Y_gt h) ?_
      intro v h
      refine G_p 3 rfl (by decide +kernel) (Y_mv h) ?_
      intro v h
      refine G_pg (t := 21) 4 rfl (by decide +kernel) h rfl rfl (fun h => Y_mv h) ?_
      intro v h
      refine G_pg (t := 21) 5 rfl (by decide +kernel) h rfl rfl (fun h => Y_mv h) ?_
      intro v h
      refine G_pg (t := 21) 6 rfl (by decide +kernel) h rfl rfl (fun h => Y_mv h) ?_
      intro v h
      refine G_pg (t := 21) 7 rfl (by decide +kernel) h rfl rfl (fun h => Y_ia se44 h) ?_
      intro v h
      refine G_rg (t := 21) _ 8 rfl (by decide +kernel) h rfl rfl (fun h => R_ldn ag57 h) ?_
      intro v h
      refine G_pg (t := 21) 9 rfl (by decide +kernel) h rfl rfl (fun h => Y_mv h) ?_
      intro v h
      refine G_pg (t := 21) 10 rfl (by decide +kernel) h rfl rfl (fun h => Y_mv h) ?_
      intro v h
      refine G_pg (t := 21) 11 rfl (by decide +kernel) h rfl rfl (fun h => Y_su h) ?_
      intro v h
      refine G_pg (t := 21) 12 rfl (by decide +kernel) h rfl rfl (fun h => Y_ia se44 h) ?_
      intro v h
      refine G_rg (t := 21) _ 13 rfl (by decide +kernel) h rfl rfl (fun h => R_ldn ag57 h) ?_
      intro v h
      refine G_eg (t := 21) 14 rfl (by decide +kernel) h rfl rfl (fun c h => N_cf h c) ?_
      intro v w h
      refine ⟨keepF_dep [13] (by decide +kernel) rfl (keepF_dep [8] (by decide +kernel) rfl keepF_nil), ?_⟩
      refine G_pg (t := 21) 15 rfl (by decide +kernel) h rfl rfl (fun h => Y_lt h) ?_
      intro v h
      refine G_p 16 rfl (by decide +kernel) (Y_pk h) ?_
      intro v h
      refine G_done (by decide +kernel) ?_
      refine E_n ?_
      refine C_cnd h (fun h => ?_) (fun h => ?_)
      · refine C_skip ?_
        refine E_n ?_
        refine wp_seq ?_
        refine C_blk ?_
        refine D_region (by decide +kernel) 18 rfl ?_
        replace h := dr_e h
        refine G_p 0 rfl (by decide +kernel) (Y_mv h) ?_
        intro v h
        refine G_p 1 rfl (by decide +kernel) (Y_mv h) ?_
        intro v h
        refine G_p 2 rfl (by decide +kernel) (Y_mv h) ?_
        intro v h
        refine G_p 3 rfl (by decide +kernel) (Y_mv h) ?_
        intro v h
        refine G_p 4 rfl (by decide +kernel) (Y_su h) ?_
        intro v h
        refine G_p 5 rfl (by decide +kernel) (Y_mv h) ?_
        intro v h
        refine G_p 6 rfl (by decide +kernel) (Y_mv h) ?_
        intro v h
        refine G_p 7 rfl (by decide +kernel) (Y_su h) ?_
        intro v h
        refine G_p 8 rfl (by decide +kernel) (Y_ia se44 h) ?_
        intro v h
        refine G_r _ 9 rfl (by decide +kernel) (R_ldn ag57 h) ?_
        intro v h
        refine G_p 10 rfl (by decide +kernel) (Y_mv h) ?_
        intro v h
        refine G_p 11 rfl (by decide +kernel) (Y_mv h) ?_
        intro v h
        refine G_p 12 rfl (by decide +kernel) (Y_ia se44 h) ?_
        intro v h
        refine G_r _ 13 rfl (by decide +kernel) (R_ldn ag57 h) ?_
        intro v h
        refine G_p 14 rfl (by decide +kernel) (Y_ia se44 h) ?_
        intro v h
        refine G_e 15 rfl (by decide +kernel) (P_stn ag57 h ?_)
        intro w h
        refine ⟨keepF_dep [13] (by decide +kernel) rfl (keepF_dep [9] (by decide +kernel) rfl keepF_nil), ?_⟩
        refine G_p 16 rfl (by decide +kernel) (Y_ia se44 h) ?_
        intro v h
        refine G_e 17 rfl (by decide +kernel) (P_stn ag57 h ?_)
        intro w h
        refine ⟨keepF_dep [13] (by decide +kernel) rfl (keepF_dep [9] (by decide +kernel) rfl keepF_nil), ?_⟩
        refine G_done (by decide +kernel) ?_
        refine B_n ?_
        refine E_n ?_
        refine L_region ?_
        refine L_mv ?_
        refine L_u (P_su h) ?_
        intro v w h
        refine L_as ?_
        refine L_nil ?_
        refine E_n ?_
        exact L3 _ _ h
      · refine C_exit ?_
        refine E_x ?_
        refine E_x ?_
        refine B_x ?_
        exact J2 _ _ h
    · unfold f60_j2 at h
      refine B_n ?_
      refine E_n ?_
      refine L_region ?_
      refine L_mv ?_
      refine L_u (P_ad h) ?_
      intro v w h
      refine L_as ?_
      refine L_nil ?_
      refine E_n ?_
      exact L1 _ _ h
  · refine C_exit ?_
    refine E_x ?_
    refine E_x ?_
    refine B_x ?_
    show bodyPost Try.prog Try.f60 (Rt Q) .normal _ _
    exact post_tmps (ts := []) (.inl rfl) rfl h

def f81_b1 (self1 : Value → Value → Value → Value → Value → M) (t0_1 t1_1 t2_1 t3_1 t10 : Value) : M := lt .i64 t10 t3_1 fun t13 => cnd t13 ( dr <| idv t0_1 fun t16 => idv t1_1 fun t17 => idv t10 fun t18 => ad .i64 t17 t18 fun t19 => idv t0_1 fun t20 => idv t2_1 fun t21 => idv t10 fun t22 => ad .i64 t21 t22 fun t23 => idv t0_1 fun t24 => idv t2_1 fun t25 => idv t10 fun t26 => ad .i64 t25 t26 fun t27 => ia 6 t24 t27 fun t28 => ldn 6 t28 fun t29 => idv t0_1 fun t30 => idv t1_1 fun t31 => idv t10 fun t32 => ad .i64 t31 t32 fun t33 => ia 6 t30 t33 fun t34 => ldn 6 t34 fun t35 => ia 6 t16 t19 fun t36 => stn 6 t36 t29 <| ia 6 t20 t23 fun t37 => stn 6 t37 t35 <| ad .i64 t10 (.int .i64 1) fun t15 => self1 t0_1 t1_1 t2_1 t3_1 t15 ) ( rt (.tuple #[]) )
def f81 (t0 t1 t2 t3 t4 : Value) : M := lo (fun _ _ _ _ _ => bot) (f81_b1) (fun l => l t0 t1 t2 t3 (.int .i64 0))
theorem s81 (t0 t1 t2 t3 t4 : Value) (w : World) (Q : Value → World → Prop) (h : f81 t0 t1 t2 t3 t4 w Q) : Calls Try.prog 81 #[t0, t1, t2, t3, t4] w (Rt Q) := by
  refine calls_of (l := [t0, t1, t2, t3, t4]) Try.func81 rfl Try.ntmps81 (Nat.le_of_ble_eq_true rfl) ?_
  unfold f81 at h
  refine wp_seq ?_
  refine L_region ?_
  refine L_as ?_
  refine L_nil ?_
  refine E_n ?_
  refine C_blk ?_
  refine C_lo (fun (l : Value → Value → Value → Value → Value → M) (ρ : Nat → Value) => l (ρ 0) (ρ 1) (ρ 2) (ρ 3) (ρ 10)) h (fun ρ w h => h) (fun nx self1 L1 ρ w h => ?_)
  unfold f81_b1 at h
  refine wp_seq ?_
  refine wp_seq ?_
  refine L_region ?_
  refine L_mv ?_
  refine L_mv ?_
  refine L_u (P_lt h) ?_
  intro v w h
  refine L_nil ?_
  refine E_n ?_
  refine C_cnd h (fun h => ?_) (fun h => ?_)
  · refine C_skip ?_
    refine E_n ?_
    refine wp_seq ?_
    refine C_blk ?_
    refine D_region (by decide +kernel) 24 rfl ?_
    replace h := dr_e h
    refine G_p 0 rfl (by decide +kernel) (Y_mv h) ?_
    intro v h
    refine G_p 1 rfl (by decide +kernel) (Y_mv h) ?_
    intro v h
    refine G_p 2 rfl (by decide +kernel) (Y_mv h) ?_
    intro v h
    refine G_p 3 rfl (by decide +kernel) (Y_ad h) ?_
    intro v h
    refine G_p 4 rfl (by decide +kernel) (Y_mv h) ?_
    intro v h
    refine G_p 5 rfl (by decide +kernel) (Y_mv h) ?_
    intro v h
    refine G_p 6 rfl (by decide +kernel) (Y_mv h) ?_
    intro v h
    refine G_p 7 rfl (by decide +kernel) (Y_ad h) ?_
    intro v h
    refine G_p 8 rfl (by decide +kernel) (Y_mv h) ?_
    intro v h
    refine G_p 9 rfl (by decide +kernel) (Y_mv h) ?_
    intro v h
    refine G_p 10 rfl (by decide +kernel) (Y_mv h) ?_
    intro v h
    refine G_p 11 rfl (by decide +kernel) (Y_ad h) ?_
    intro v h
    refine G_p 12 rfl (by decide +kernel) (Y_ia se44 h) ?_
    intro v h
    refine G_r _ 13 rfl (by decide +kernel) (R_ldn ag57 h) ?_
    intro v h
    refine G_p 14 rfl (by decide +kernel) (Y_mv h) ?_
    intro v h
    refine G_p 15 rfl (by decide +kernel) (Y_mv h) ?_
    intro v h
    refine G_p 16 rfl (by decide +kernel) (Y_mv h) ?_
    intro v h
    refine G_p 17 rfl (by decide +kernel) (Y_ad h) ?_
    intro v h
    refine G_p 18 rfl (by decide +kernel) (Y_ia se44 h) ?_
    intro v h
    refine G_r _ 19 rfl (by decide +kernel) (R_ldn ag57 h) ?_
    intro v h
    refine G_p 20 rfl (by decide +kernel) (Y_ia se44 h) ?_
    intro v h
    refine G_e 21 rfl (by decide +kernel) (P_stn ag57 h ?_)
    intro w h
    refine ⟨keepF_dep [19] (by decide +kernel) rfl (keepF_dep [13] (by decide +kernel) rfl keepF_nil), ?_⟩
    refine G_p 22 rfl (by decide +kernel) (Y_ia se44 h) ?_
    intro v h
    refine G_e 23 rfl (by decide +kernel) (P_stn ag57 h ?_)
    intro w h
    refine ⟨keepF_dep [19] (by decide +kernel) rfl (keepF_dep [13] (by decide +kernel) rfl keepF_nil), ?_⟩
    refine G_done (by decide +kernel) ?_
    refine B_n ?_
    refine E_n ?_
    refine L_region ?_
    refine L_mv ?_
    refine L_u (P_ad h) ?_
    intro v w h
    refine L_as ?_
    refine L_nil ?_
    refine E_n ?_
    exact L1 _ _ h
  · refine C_exit ?_
    refine E_x ?_
    refine E_x ?_
    refine B_x ?_
    show bodyPost Try.prog Try.f81 (Rt Q) .normal _ _
    exact post_tmps (ts := []) (.inl rfl) rfl h

def f74_b2 (j1 : Value → Value → Value → Value → M) (self2 : Value → Value → Value → Value → Value → M) (t0_1 t2_1 t4_1 t10 t11 : Value) : M := nei .i64 t10 t11 fun t20 => cnd t20 ( gt .i64 t10 t11 fun t23 => cnd t23 ( su .i64 t2_1 t10 fun t27 => cl (f81 t0_1 t27 t2_1 t11 t4_1) fun t31 => su .i64 t10 t11 fun t34 => self2 t0_1 t2_1 t4_1 t34 t11 ) ( su .i64 t2_1 t10 fun t38 => ad .i64 t2_1 t11 fun t41 => su .i64 t41 t10 fun t43 => cl (f81 t0_1 t38 t43 t10 t4_1) fun t46 => su .i64 t11 t10 fun t49 => self2 t0_1 t2_1 t4_1 t10 t49 ) ) ( j1 t0_1 t2_1 t4_1 t10 )
def f74_j1 (t0_2 t2_2 t4_2 t10_1 : Value) : M := su .i64 t2_2 t10_1 fun t53 => cl (f81 t0_2 t53 t2_2 t10_1 t4_2) fun t57 => rt (.tuple #[])
def f74 (t0 t1 t2 t3 t4 : Value) : M := su .i64 t2 t1 fun t14 => su .i64 t3 t2 fun t17 => jn (fun (j1 : Value → Value → Value → Value → M) => lo (fun _ _ _ _ _ => bot) (f74_b2 j1) (fun l => l t0 t2 t4 t14 t17) ) (f74_j1)
theorem s74 (t0 t1 t2 t3 t4 : Value) (w : World) (Q : Value → World → Prop) (h : f74 t0 t1 t2 t3 t4 w Q) : Calls Try.prog 74 #[t0, t1, t2, t3, t4] w (Rt Q) := by
  refine calls_of (l := [t0, t1, t2, t3, t4]) Try.func74 rfl Try.ntmps74 (Nat.le_of_ble_eq_true rfl) ?_
  unfold f74 at h
  refine wp_seq ?_
  refine L_region ?_
  refine L_mv ?_
  refine L_mv ?_
  refine L_u (P_su h) ?_
  intro v w h
  refine L_as ?_
  refine L_nil ?_
  refine E_n ?_
  refine wp_seq ?_
  refine L_region ?_
  refine L_mv ?_
  refine L_mv ?_
  refine L_u (P_su h) ?_
  intro v w h
  refine L_as ?_
  refine L_nil ?_
  refine E_n ?_
  refine wp_seq ?_
  refine C_join (fun (k : Value → Value → Value → Value → M) (ρ : Nat → Value) => k (ρ 0) (ρ 2) (ρ 4) (ρ 10)) h (fun j1 J1 h => ?_) (fun ρ w h => ?_)
  · refine C_blk ?_
    refine C_lo (fun (l : Value → Value → Value → Value → Value → M) (ρ : Nat → Value) => l (ρ 0) (ρ 2) (ρ 4) (ρ 10) (ρ 11)) h (fun ρ w h => h) (fun nx self2 L2 ρ w h => ?_)
    unfold f74_b2 at h
    refine wp_seq ?_
    refine wp_seq ?_
    refine L_region ?_
    refine L_mv ?_
    refine L_mv ?_
    refine L_u (P_nei h) ?_
    intro v w h
    refine L_nil ?_
    refine E_n ?_
    refine C_cnd h (fun h => ?_) (fun h => ?_)
    · refine C_skip ?_
      refine E_n ?_
      refine C_blk ?_
      refine wp_seq ?_
      refine L_region ?_
      refine L_mv ?_
      refine L_mv ?_
      refine L_u (P_gt h) ?_
      intro v w h
      refine L_nil ?_
      refine E_n ?_
      refine C_cnd h (fun h => ?_) (fun h => ?_)
      · refine wp_seq ?_
        refine L_region ?_
        refine L_mv ?_
        refine L_mv ?_
        refine L_mv ?_
        refine L_u (P_su h) ?_
        intro v w h
        refine L_mv ?_
        refine L_mv ?_
        refine L_mv ?_
        refine L_u (N_cl Try.func81 rfl nn81 (fun w Q h => s81 _ _ _ _ _ w Q h) h) ?_
        intro v w h
        refine L_nil ?_
        refine E_n ?_
        refine L_region ?_
        refine L_mv ?_
        refine L_mv ?_
        refine L_u (P_su h) ?_
        intro v w h
        refine L_as ?_
        refine L_nil ?_
        refine B_n ?_
        refine E_n ?_
        exact L2 _ _ h
      · refine wp_seq ?_
        refine L_region ?_
        refine L_mv ?_
        refine L_mv ?_
        refine L_mv ?_
        refine L_u (P_su h) ?_
        intro v w h
        refine L_mv ?_
        refine L_mv ?_
        refine L_u (P_ad h) ?_
        intro v w h
        refine L_mv ?_
        refine L_u (P_su h) ?_
        intro v w h
        refine L_mv ?_
        refine L_mv ?_
        refine L_u (N_cl Try.func81 rfl nn81 (fun w Q h => s81 _ _ _ _ _ w Q h) h) ?_
        intro v w h
        refine L_nil ?_
        refine E_n ?_
        refine L_region ?_
        refine L_mv ?_
        refine L_mv ?_
        refine L_u (P_su h) ?_
        intro v w h
        refine L_as ?_
        refine L_nil ?_
        refine B_n ?_
        refine E_n ?_
        exact L2 _ _ h
    · refine C_exit ?_
      refine E_x ?_
      refine E_x ?_
      refine B_x ?_
      exact J1 _ _ h
  · unfold f74_j1 at h
    refine E_n ?_
    refine L_region ?_
    refine L_mv ?_
    refine L_mv ?_
    refine L_mv ?_
    refine L_u (P_su h) ?_
    intro v w h
    refine L_mv ?_
    refine L_mv ?_
    refine L_mv ?_
    refine L_u (N_cl Try.func81 rfl nn81 (fun w Q h => s81 _ _ _ _ _ w Q h) h) ?_
    intro v w h
    refine L_nil ?_
    show bodyPost Try.prog Try.f74 (Rt Q) .normal _ _
    exact post_tmps (ts := []) (.inl rfl) rfl h

def f61_b2 (j1 : Value → Value → Value → M) (self2 : Value → Value → Value → Value → Value → M) (t0_1 t1_1 t4_1 t10 t11 : Value) : M := lt .i64 t10 t11 fun t33 => cnd t33 ( ad .i64 t10 t11 fun t36 => cv .u64 t36 fun t37 => shr .u64 .u64 t37 (.int .u64 1) fun t38 => cv .i64 t38 fun t39 => dr <| idv t4_1 fun t40 => idv t0_1 fun t41 => idv t39 fun t42 => ia 6 t41 t42 fun t43 => ldn 6 t43 fun t44 => idv t0_1 fun t45 => idv t1_1 fun t46 => ia 6 t45 t46 fun t47 => ldn 6 t47 fun t48 => cf Try.prog t40 #[t44, t48] fun t49 => lt .i64 t49 (.int .i64 0) fun t50 => cnd t50 ( ad .i64 t39 (.int .i64 1) fun t52 => self2 t0_1 t1_1 t4_1 t52 t11 ) ( self2 t0_1 t1_1 t4_1 t10 t39 ) ) ( j1 t0_1 t1_1 t10 )
def f61_b3 (self3 : Value → Value → Value → M) (t0_3 t10_2 t13 : Value) : M := su .i64 t10_2 (.int .i64 1) fun t57 => lt .i64 t13 t57 fun t58 => cnd t58 ( dr <| idv t0_3 fun t61 => idv t13 fun t62 => idv t0_3 fun t63 => idv t13 fun t64 => ad .i64 t64 (.int .i64 1) fun t65 => idv t0_3 fun t66 => idv t13 fun t67 => ad .i64 t67 (.int .i64 1) fun t68 => ia 6 t66 t68 fun t69 => ldn 6 t69 fun t70 => idv t0_3 fun t71 => idv t13 fun t72 => ia 6 t71 t72 fun t73 => ldn 6 t73 fun t74 => ia 6 t61 t62 fun t75 => stn 6 t75 t70 <| ia 6 t63 t65 fun t76 => stn 6 t76 t74 <| ad .i64 t13 (.int .i64 1) fun t60 => self3 t0_3 t10_2 t60 ) ( rt (.tuple #[]) )
def f61_j1 (t0_2 t1_2 t10_1 : Value) : M := lo (fun _ _ _ => bot) (f61_b3) (fun l => l t0_2 t10_1 t1_2)
def f61_b5 (j4 : Value → Value → Value → M) (self5 : Value → Value → Value → Value → Value → M) (t0_4 t2_1 t4_2 t14 t15 : Value) : M := lt .i64 t14 t15 fun t85 => cnd t85 ( ad .i64 t14 t15 fun t88 => cv .u64 t88 fun t89 => shr .u64 .u64 t89 (.int .u64 1) fun t90 => cv .i64 t90 fun t91 => dr <| idv t4_2 fun t92 => idv t0_4 fun t93 => idv t2_1 fun t94 => ia 6 t93 t94 fun t95 => ldn 6 t95 fun t96 => idv t0_4 fun t97 => idv t91 fun t98 => ia 6 t97 t98 fun t99 => ldn 6 t99 fun t100 => cf Try.prog t92 #[t96, t100] fun t101 => lt .i64 t101 (.int .i64 0) fun t102 => nt t102 fun t103 => cnd t103 ( ad .i64 t91 (.int .i64 1) fun t105 => self5 t0_4 t2_1 t4_2 t105 t15 ) ( self5 t0_4 t2_1 t4_2 t14 t91 ) ) ( j4 t0_4 t2_1 t14 )
def f61_b6 (self6 : Value → Value → Value → M) (t0_6 t14_2 t17 : Value) : M := gt .i64 t17 t14_2 fun t110 => cnd t110 ( dr <| idv t0_6 fun t113 => idv t17 fun t114 => idv t0_6 fun t115 => idv t17 fun t116 => su .i64 t116 (.int .i64 1) fun t117 => idv t0_6 fun t118 => idv t17 fun t119 => su .i64 t119 (.int .i64 1) fun t120 => ia 6 t118 t120 fun t121 => ldn 6 t121 fun t122 => idv t0_6 fun t123 => idv t17 fun t124 => ia 6 t123 t124 fun t125 => ldn 6 t125 fun t126 => ia 6 t113 t114 fun t127 => stn 6 t127 t122 <| ia 6 t115 t117 fun t128 => stn 6 t128 t126 <| su .i64 t17 (.int .i64 1) fun t112 => self6 t0_6 t14_2 t112 ) ( rt (.tuple #[]) )
def f61_j4 (t0_5 t2_2 t14_1 : Value) : M := lo (fun _ _ _ => bot) (f61_b6) (fun l => l t0_5 t14_1 t2_2)
def f61_b9 (j8 : Value → Value → Value → Value → Value → Value → Value → Value → M) (self9 : Value → Value → Value → Value → Value → Value → Value → Value → Value → Value → M) (t0_8 t1_4 t2_4 t3_2 t4_4 t18_1 t19_1 t20_1 t21_1 t22 : Value) : M := lt .i64 t20_1 t21_1 fun t151 => cnd t151 ( ad .i64 t20_1 t21_1 fun t154 => cv .u64 t154 fun t155 => shr .u64 .u64 t155 (.int .u64 1) fun t156 => cv .i64 t156 fun t157 => dr <| idv t4_4 fun t158 => idv t0_8 fun t159 => idv t22 fun t160 => idv t157 fun t161 => su .i64 t160 t161 fun t162 => ia 6 t159 t162 fun t163 => ldn 6 t163 fun t164 => idv t0_8 fun t165 => idv t157 fun t166 => ia 6 t165 t166 fun t167 => ldn 6 t167 fun t168 => cf Try.prog t158 #[t164, t168] fun t169 => lt .i64 t169 (.int .i64 0) fun t170 => nt t170 fun t171 => cnd t171 ( ad .i64 t157 (.int .i64 1) fun t173 => self9 t0_8 t1_4 t2_4 t3_2 t4_4 t18_1 t19_1 t173 t21_1 t22 ) ( self9 t0_8 t1_4 t2_4 t3_2 t4_4 t18_1 t19_1 t20_1 t157 t22 ) ) ( j8 t0_8 t1_4 t2_4 t3_2 t4_4 t18_1 t19_1 t20_1 )
def f61_j11 (t0_11 t3_5 t4_7 t18_4 t24_1 : Value) : M := lt .i64 t18_4 t24_1 fun t208 => gd t208 true (idv t24_1) fun t210 => gd t208 true (idv t3_5) fun t211 => gd t208 true (lt .i64 t210 t211) fun t212 => pk t208 t212 (.bool false) fun t213 => cnd t213 ( cc Try.prog 61 #[t0_11, t18_4, t24_1, t3_5, t4_7] fun t219 => rt (.tuple #[]) ) ( rt (.tuple #[]) )
def f61_j10 (t0_10 t1_6 t3_4 t4_6 t18_3 t20_3 t24 : Value) : M := lt .i64 t1_6 t20_3 fun t194 => gd t194 true (idv t20_3) fun t196 => gd t194 true (idv t18_3) fun t197 => gd t194 true (lt .i64 t196 t197) fun t198 => pk t194 t198 (.bool false) fun t199 => jn (fun (j11 : Value → Value → Value → Value → Value → M) => cnd t199 ( cc Try.prog 61 #[t0_10, t1_6, t20_3, t18_3, t4_6] fun t205 => j11 t0_10 t3_4 t4_6 t18_3 t24 ) ( j11 t0_10 t3_4 t4_6 t18_3 t24 ) ) (f61_j11)
def f61_j8 (t0_9 t1_5 t2_5 t3_3 t4_5 t18_2 t19_2 t20_2 : Value) : M := su .i64 t19_2 t20_2 fun t177 => lt .i64 t20_2 t2_5 fun t180 => gd t180 true (idv t2_5) fun t182 => gd t180 true (idv t177) fun t183 => gd t180 true (lt .i64 t182 t183) fun t184 => pk t180 t184 (.bool false) fun t185 => jn (fun (j10 : Value → Value → Value → Value → Value → Value → Value → M) => cnd t185 ( cl (f74 t0_9 t20_2 t2_5 t177 t4_5) fun t191 => j10 t0_9 t1_5 t3_3 t4_5 t18_2 t20_2 t177 ) ( j10 t0_9 t1_5 t3_3 t4_5 t18_2 t20_2 t177 ) ) (f61_j10)
def f61_j7 (t0_7 t1_3 t2_3 t3_1 t4_3 t18 t19 t20 t21 : Value) : M := su .i64 t19 (.int .i64 1) fun t148 => jn (fun (j8 : Value → Value → Value → Value → Value → Value → Value → Value → M) => lo (fun _ _ _ _ _ _ _ _ _ _ => bot) (f61_b9 j8) (fun l => l t0_7 t1_3 t2_3 t3_1 t4_3 t18 t19 t20 t21 t148) ) (f61_j8)
def f61 (t0 t1 t2 t3 t4 : Value) : M := su .i64 t2 t1 fun t27 => eqi .i64 t27 (.int .i64 1) fun t28 => cnd t28 ( jn (fun (j1 : Value → Value → Value → M) => lo (fun _ _ _ _ _ => bot) (f61_b2 j1) (fun l => l t0 t1 t4 t2 t3) ) (f61_j1) ) ( su .i64 t3 t2 fun t79 => eqi .i64 t79 (.int .i64 1) fun t80 => cnd t80 ( jn (fun (j4 : Value → Value → Value → M) => lo (fun _ _ _ _ _ => bot) (f61_b5 j4) (fun l => l t0 t2 t4 t1 t2) ) (f61_j4) ) ( ad .i64 t1 t3 fun t131 => cv .u64 t131 fun t132 => shr .u64 .u64 t132 (.int .u64 1) fun t133 => cv .i64 t133 fun t134 => ad .i64 t134 t2 fun t137 => gt .i64 t2 t134 fun t140 => jn (fun (j7 : Value → Value → Value → Value → Value → Value → Value → Value → Value → M) => cnd t140 ( su .i64 t137 t3 fun t143 => j7 t0 t1 t2 t3 t4 t134 t137 t143 t134 ) ( j7 t0 t1 t2 t3 t4 t134 t137 t1 t2 ) ) (f61_j7) ) )
theorem s61 (t0 t1 t2 t3 t4 : Value) (w : World) (Q : Value → World → Prop) (h : f61 t0 t1 t2 t3 t4 w Q) : Calls Try.prog 61 #[t0, t1, t2, t3, t4] w (Rt Q) := by
  refine calls_of (l := [t0, t1, t2, t3, t4]) Try.func61 rfl Try.ntmps61 (Nat.le_of_ble_eq_true rfl) ?_
  unfold f61 at h
  refine wp_seq ?_
  refine wp_seq ?_
  refine L_region ?_
  refine L_mv ?_
  refine L_mv ?_
  refine L_u (P_su h) ?_
  intro v w h
  refine L_u (P_eqi h) ?_
  intro v w h
  refine L_nil ?_
  refine E_n ?_
  refine C_cnd h (fun h => ?_) (fun h => ?_)
  · refine wp_seq ?_
    refine L_region ?_
    refine L_mv ?_
    refine L_as ?_
    refine L_nil ?_
    refine E_n ?_
    refine wp_seq ?_
    refine L_region ?_
    refine L_mv ?_
    refine L_as ?_
    refine L_nil ?_
    refine E_n ?_
    refine wp_seq ?_
    refine C_join (fun (k : Value → Value → Value → M) (ρ : Nat → Value) => k (ρ 0) (ρ 1) (ρ 10)) h (fun j1 J1 h => ?_) (fun ρ w h => ?_)
    · refine C_blk ?_
      refine C_lo (fun (l : Value → Value → Value → Value → Value → M) (ρ : Nat → Value) => l (ρ 0) (ρ 1) (ρ 4) (ρ 10) (ρ 11)) h (fun ρ w h => h) (fun nx self2 L2 ρ w h => ?_)
      unfold f61_b2 at h
      refine wp_seq ?_
      refine wp_seq ?_
      refine L_region ?_
      refine L_mv ?_
      refine L_mv ?_
      refine L_u (P_lt h) ?_
      intro v w h
      refine L_nil ?_
      refine E_n ?_
      refine C_cnd h (fun h => ?_) (fun h => ?_)
      · refine C_skip ?_
        refine E_n ?_
        refine C_blk ?_
        refine wp_seq ?_
        refine L_region ?_
        refine L_mv ?_
        refine L_mv ?_
        refine L_u (P_ad h) ?_
        intro v w h
        refine L_u (P_cv ai3 in92 h) ?_
        intro v w h
        refine L_u (P_shr h) ?_
        intro v w h
        refine L_u (P_cv ai92 in3 h) ?_
        intro v w h
        refine L_as ?_
        refine L_nil ?_
        refine E_n ?_
        refine wp_seq ?_
        refine D_region (by decide +kernel) 11 rfl ?_
        replace h := dr_e h
        refine G_p 0 rfl (by decide +kernel) (Y_mv h) ?_
        intro v h
        refine G_p 1 rfl (by decide +kernel) (Y_mv h) ?_
        intro v h
        refine G_p 2 rfl (by decide +kernel) (Y_mv h) ?_
        intro v h
        refine G_p 3 rfl (by decide +kernel) (Y_ia se44 h) ?_
        intro v h
        refine G_r _ 4 rfl (by decide +kernel) (R_ldn ag57 h) ?_
        intro v h
        refine G_p 5 rfl (by decide +kernel) (Y_mv h) ?_
        intro v h
        refine G_p 6 rfl (by decide +kernel) (Y_mv h) ?_
        intro v h
        refine G_p 7 rfl (by decide +kernel) (Y_ia se44 h) ?_
        intro v h
        refine G_r _ 8 rfl (by decide +kernel) (R_ldn ag57 h) ?_
        intro v h
        refine G_e 9 rfl (by decide +kernel) (N_cf h ?_)
        intro v w h
        refine ⟨keepF_dep [8] (by decide +kernel) rfl (keepF_dep [4] (by decide +kernel) rfl keepF_nil), ?_⟩
        refine G_p 10 rfl (by decide +kernel) (Y_lt h) ?_
        intro v h
        refine G_done (by decide +kernel) ?_
        refine E_n ?_
        refine C_cnd h (fun h => ?_) (fun h => ?_)
        · refine L_region ?_
          refine L_mv ?_
          refine L_u (P_ad h) ?_
          intro v w h
          refine L_as ?_
          refine L_nil ?_
          refine B_n ?_
          refine E_n ?_
          exact L2 _ _ h
        · refine L_region ?_
          refine L_mv ?_
          refine L_as ?_
          refine L_nil ?_
          refine B_n ?_
          refine E_n ?_
          exact L2 _ _ h
      · refine C_exit ?_
        refine E_x ?_
        refine E_x ?_
        refine B_x ?_
        exact J1 _ _ h
    · unfold f61_j1 at h
      refine E_n ?_
      refine wp_seq ?_
      refine wp_seq ?_
      refine L_region ?_
      refine L_mv ?_
      refine L_as ?_
      refine L_nil ?_
      refine E_n ?_
      refine C_blk ?_
      refine C_lo (fun (l : Value → Value → Value → M) (ρ : Nat → Value) => l (ρ 0) (ρ 10) (ρ 13)) h (fun ρ w h => h) (fun nx self3 L3 ρ w h => ?_)
      unfold f61_b3 at h
      refine wp_seq ?_
      refine wp_seq ?_
      refine L_region ?_
      refine L_mv ?_
      refine L_mv ?_
      refine L_u (P_su h) ?_
      intro v w h
      refine L_u (P_lt h) ?_
      intro v w h
      refine L_nil ?_
      refine E_n ?_
      refine C_cnd h (fun h => ?_) (fun h => ?_)
      · refine C_skip ?_
        refine E_n ?_
        refine wp_seq ?_
        refine C_blk ?_
        refine D_region (by decide +kernel) 18 rfl ?_
        replace h := dr_e h
        refine G_p 0 rfl (by decide +kernel) (Y_mv h) ?_
        intro v h
        refine G_p 1 rfl (by decide +kernel) (Y_mv h) ?_
        intro v h
        refine G_p 2 rfl (by decide +kernel) (Y_mv h) ?_
        intro v h
        refine G_p 3 rfl (by decide +kernel) (Y_mv h) ?_
        intro v h
        refine G_p 4 rfl (by decide +kernel) (Y_ad h) ?_
        intro v h
        refine G_p 5 rfl (by decide +kernel) (Y_mv h) ?_
        intro v h
        refine G_p 6 rfl (by decide +kernel) (Y_mv h) ?_
        intro v h
        refine G_p 7 rfl (by decide +kernel) (Y_ad h) ?_
        intro v h
        refine G_p 8 rfl (by decide +kernel) (Y_ia se44 h) ?_
        intro v h
        refine G_r _ 9 rfl (by decide +kernel) (R_ldn ag57 h) ?_
        intro v h
        refine G_p 10 rfl (by decide +kernel) (Y_mv h) ?_
        intro v h
        refine G_p 11 rfl (by decide +kernel) (Y_mv h) ?_
        intro v h
        refine G_p 12 rfl (by decide +kernel) (Y_ia se44 h) ?_
        intro v h
        refine G_r _ 13 rfl (by decide +kernel) (R_ldn ag57 h) ?_
        intro v h
        refine G_p 14 rfl (by decide +kernel) (Y_ia se44 h) ?_
        intro v h
        refine G_e 15 rfl (by decide +kernel) (P_stn ag57 h ?_)
        intro w h
        refine ⟨keepF_dep [13] (by decide +kernel) rfl (keepF_dep [9] (by decide +kernel) rfl keepF_nil), ?_⟩
        refine G_p 16 rfl (by decide +kernel) (Y_ia se44 h) ?_
        intro v h
        refine G_e 17 rfl (by decide +kernel) (P_stn ag57 h ?_)
        intro w h
        refine ⟨keepF_dep [13] (by decide +kernel) rfl (keepF_dep [9] (by decide +kernel) rfl keepF_nil), ?_⟩
        refine G_done (by decide +kernel) ?_
        refine B_n ?_
        refine E_n ?_
        refine L_region ?_
        refine L_mv ?_
        refine L_u (P_ad h) ?_
        intro v w h
        refine L_as ?_
        refine L_nil ?_
        refine E_n ?_
        exact L3 _ _ h
      · refine C_exit ?_
        refine E_x ?_
        refine E_x ?_
        refine B_x ?_
        refine E_n ?_
        refine C_ret ?_
        show bodyPost Try.prog Try.f61 (Rt Q) .ret _ _
        exact post_tmps (ts := []) (.inr rfl) rfl h
  · refine C_skip ?_
    refine E_n ?_
    refine wp_seq ?_
    refine wp_seq ?_
    refine L_region ?_
    refine L_mv ?_
    refine L_mv ?_
    refine L_u (P_su h) ?_
    intro v w h
    refine L_u (P_eqi h) ?_
    intro v w h
    refine L_nil ?_
    refine E_n ?_
    refine C_cnd h (fun h => ?_) (fun h => ?_)
    · refine wp_seq ?_
      refine L_region ?_
      refine L_mv ?_
      refine L_as ?_
      refine L_nil ?_
      refine E_n ?_
      refine wp_seq ?_
      refine L_region ?_
      refine L_mv ?_
      refine L_as ?_
      refine L_nil ?_
      refine E_n ?_
      refine wp_seq ?_
      refine C_join (fun (k : Value → Value → Value → M) (ρ : Nat → Value) => k (ρ 0) (ρ 2) (ρ 14)) h (fun j4 J4 h => ?_) (fun ρ w h => ?_)
      · refine C_blk ?_
        refine C_lo (fun (l : Value → Value → Value → Value → Value → M) (ρ : Nat → Value) => l (ρ 0) (ρ 2) (ρ 4) (ρ 14) (ρ 15)) h (fun ρ w h => h) (fun nx self5 L5 ρ w h => ?_)
        unfold f61_b5 at h
        refine wp_seq ?_
        refine wp_seq ?_
        refine L_region ?_
        refine L_mv ?_
        refine L_mv ?_
        refine L_u (P_lt h) ?_
        intro v w h
        refine L_nil ?_
        refine E_n ?_
        refine C_cnd h (fun h => ?_) (fun h => ?_)
        · refine C_skip ?_
          refine E_n ?_
          refine C_blk ?_
          refine wp_seq ?_
          refine L_region ?_
          refine L_mv ?_
          refine L_mv ?_
          refine L_u (P_ad h) ?_
          intro v w h
          refine L_u (P_cv ai3 in92 h) ?_
          intro v w h
          refine L_u (P_shr h) ?_
          intro v w h
          refine L_u (P_cv ai92 in3 h) ?_
          intro v w h
          refine L_as ?_
          refine L_nil ?_
          refine E_n ?_
          refine wp_seq ?_
          refine D_region (by decide +kernel) 12 rfl ?_
          replace h := dr_e h
          refine G_p 0 rfl (by decide +kernel) (Y_mv h) ?_
          intro v h
          refine G_p 1 rfl (by decide +kernel) (Y_mv h) ?_
          intro v h
          refine G_p 2 rfl (by decide +kernel) (Y_mv h) ?_
          intro v h
          refine G_p 3 rfl (by decide +kernel) (Y_ia se44 h) ?_
          intro v h
          refine G_r _ 4 rfl (by decide +kernel) (R_ldn ag57 h) ?_
          intro v h
          refine G_p 5 rfl (by decide +kernel) (Y_mv h) ?_
          intro v h
          refine G_p 6 rfl (by decide +kernel) (Y_mv h) ?_
          intro v h
          refine G_p 7 rfl (by decide +kernel) (Y_ia se44 h) ?_
          intro v h
          refine G_r _ 8 rfl (by decide +kernel) (R_ldn ag57 h) ?_
          intro v h
          refine G_e 9 rfl (by decide +kernel) (N_cf h ?_)
          intro v w h
          refine ⟨keepF_dep [8] (by decide +kernel) rfl (keepF_dep [4] (by decide +kernel) rfl keepF_nil), ?_⟩
          refine G_p 10 rfl (by decide +kernel) (Y_lt h) ?_
          intro v h
          refine G_p 11 rfl (by decide +kernel) (Y_nt h) ?_
          intro v h
          refine G_done (by decide +kernel) ?_
          refine E_n ?_
          refine C_cnd h (fun h => ?_) (fun h => ?_)
          · refine L_region ?_
            refine L_mv ?_
            refine L_u (P_ad h) ?_
            intro v w h
            refine L_as ?_
            refine L_nil ?_
            refine B_n ?_
            refine E_n ?_
            exact L5 _ _ h
          · refine L_region ?_
            refine L_mv ?_
            refine L_as ?_
            refine L_nil ?_
            refine B_n ?_
            refine E_n ?_
            exact L5 _ _ h
        · refine C_exit ?_
          refine E_x ?_
          refine E_x ?_
          refine B_x ?_
          exact J4 _ _ h
      · unfold f61_j4 at h
        refine E_n ?_
        refine wp_seq ?_
        refine wp_seq ?_
        refine L_region ?_
        refine L_mv ?_
        refine L_as ?_
        refine L_nil ?_
        refine E_n ?_
        refine C_blk ?_
        refine C_lo (fun (l : Value → Value → Value → M) (ρ : Nat → Value) => l (ρ 0) (ρ 14) (ρ 17)) h (fun ρ w h => h) (fun nx self6 L6 ρ w h => ?_)
        unfold f61_b6 at h
        refine wp_seq ?_
        refine wp_seq ?_
        refine L_region ?_
        refine L_mv ?_
        refine L_mv ?_
        refine L_u (P_gt h) ?_
        intro v w h
        refine L_nil ?_
        refine E_n ?_
        refine C_cnd h (fun h => ?_) (fun h => ?_)
        · refine C_skip ?_
          refine E_n ?_
          refine wp_seq ?_
          refine C_blk ?_
          refine D_region (by decide +kernel) 18 rfl ?_
          replace h := dr_e h
          refine G_p 0 rfl (by decide +kernel) (Y_mv h) ?_
          intro v h
          refine G_p 1 rfl (by decide +kernel) (Y_mv h) ?_
          intro v h
          refine G_p 2 rfl (by decide +kernel) (Y_mv h) ?_
          intro v h
          refine G_p 3 rfl (by decide +kernel) (Y_mv h) ?_
          intro v h
          refine G_p 4 rfl (by decide +kernel) (Y_su h) ?_
          intro v h
          refine G_p 5 rfl (by decide +kernel) (Y_mv h) ?_
          intro v h
          refine G_p 6 rfl (by decide +kernel) (Y_mv h) ?_
          intro v h
          refine G_p 7 rfl (by decide +kernel) (Y_su h) ?_
          intro v h
          refine G_p 8 rfl (by decide +kernel) (Y_ia se44 h) ?_
          intro v h
          refine G_r _ 9 rfl (by decide +kernel) (R_ldn ag57 h) ?_
          intro v h
          refine G_p 10 rfl (by decide +kernel) (Y_mv h) ?_
          intro v h
          refine G_p 11 rfl (by decide +kernel) (Y_mv h) ?_
          intro v h
          refine G_p 12 rfl (by decide +kernel) (Y_ia se44 h) ?_
          intro v h
          refine G_r _ 13 rfl (by decide +kernel) (R_ldn ag57 h) ?_
          intro v h
          refine G_p 14 rfl (by decide +kernel) (Y_ia se44 h) ?_
          intro v h
          refine G_e 15 rfl (by decide +kernel) (P_stn ag57 h ?_)
          intro w h
          refine ⟨keepF_dep [13] (by decide +kernel) rfl (keepF_dep [9] (by decide +kernel) rfl keepF_nil), ?_⟩
          refine G_p 16 rfl (by decide +kernel) (Y_ia se44 h) ?_
          intro v h
          refine G_e 17 rfl (by decide +kernel) (P_stn ag57 h ?_)
          intro w h
          refine ⟨keepF_dep [13] (by decide +kernel) rfl (keepF_dep [9] (by decide +kernel) rfl keepF_nil), ?_⟩
          refine G_done (by decide +kernel) ?_
          refine B_n ?_
          refine E_n ?_
          refine L_region ?_
          refine L_mv ?_
          refine L_u (P_su h) ?_
          intro v w h
          refine L_as ?_
          refine L_nil ?_
          refine E_n ?_
          exact L6 _ _ h
        · refine C_exit ?_
          refine E_x ?_
          refine E_x ?_
          refine B_x ?_
          refine E_n ?_
          refine C_ret ?_
          show bodyPost Try.prog Try.f61 (Rt Q) .ret _ _
          exact post_tmps (ts := []) (.inr rfl) rfl h
    · refine C_skip ?_
      refine E_n ?_
      refine wp_seq ?_
      refine L_region ?_
      refine L_mv ?_
      refine L_mv ?_
      refine L_u (P_ad h) ?_
      intro v w h
      refine L_u (P_cv ai3 in92 h) ?_
      intro v w h
      refine L_u (P_shr h) ?_
      intro v w h
      refine L_u (P_cv ai92 in3 h) ?_
      intro v w h
      refine L_as ?_
      refine L_nil ?_
      refine E_n ?_
      refine wp_seq ?_
      refine L_region ?_
      refine L_mv ?_
      refine L_mv ?_
      refine L_u (P_ad h) ?_
      intro v w h
      refine L_as ?_
      refine L_nil ?_
      refine E_n ?_
      refine wp_seq ?_
      refine L_region ?_
      refine L_as ?_
      refine L_as ?_
      refine L_nil ?_
      refine E_n ?_
      refine wp_seq ?_
      refine wp_seq ?_
      refine L_region ?_
      refine L_mv ?_
      refine L_mv ?_
      refine L_u (P_gt h) ?_
      intro v w h
      refine L_nil ?_
      refine E_n ?_
      refine C_join (fun (k : Value → Value → Value → Value → Value → Value → Value → Value → Value → M) (ρ : Nat → Value) => k (ρ 0) (ρ 1) (ρ 2) (ρ 3) (ρ 4) (ρ 18) (ρ 19) (ρ 20) (ρ 21)) h (fun j7 J7 h => ?_) (fun ρ w h => ?_)
      · refine C_cnd h (fun h => ?_) (fun h => ?_)
        · refine wp_seq ?_
          refine L_region ?_
          refine L_mv ?_
          refine L_mv ?_
          refine L_u (P_su h) ?_
          intro v w h
          refine L_as ?_
          refine L_nil ?_
          refine E_n ?_
          refine L_region ?_
          refine L_mv ?_
          refine L_as ?_
          refine L_nil ?_
          exact J7 _ _ h
        · refine wp_seq ?_
          refine L_region ?_
          refine L_mv ?_
          refine L_as ?_
          refine L_nil ?_
          refine E_n ?_
          refine L_region ?_
          refine L_mv ?_
          refine L_as ?_
          refine L_nil ?_
          exact J7 _ _ h
      · unfold f61_j7 at h
        refine E_n ?_
        refine wp_seq ?_
        refine L_region ?_
        refine L_mv ?_
        refine L_u (P_su h) ?_
        intro v w h
        refine L_as ?_
        refine L_nil ?_
        refine E_n ?_
        refine wp_seq ?_
        refine C_join (fun (k : Value → Value → Value → Value → Value → Value → Value → Value → M) (ρ : Nat → Value) => k (ρ 0) (ρ 1) (ρ 2) (ρ 3) (ρ 4) (ρ 18) (ρ 19) (ρ 20)) h (fun j8 J8 h => ?_) (fun ρ w h => ?_)
        · refine C_blk ?_
          refine C_lo (fun (l : Value → Value → Value → Value → Value → Value → Value → Value → Value → Value → M) (ρ : Nat → Value) => l (ρ 0) (ρ 1) (ρ 2) (ρ 3) (ρ 4) (ρ 18) (ρ 19) (ρ 20) (ρ 21) (ρ 22)) h (fun ρ w h => h) (fun nx self9 L9 ρ w h => ?_)
          unfold f61_b9 at h
          refine wp_seq ?_
          refine wp_seq ?_
          refine L_region ?_
          refine L_mv ?_
          refine L_mv ?_
          refine L_u (P_lt h) ?_
          intro v w h
          refine L_nil ?_
          refine E_n ?_
          refine C_cnd h (fun h => ?_) (fun h => ?_)
          · refine C_skip ?_
            refine E_n ?_
            refine C_blk ?_
            refine wp_seq ?_
            refine L_region ?_
            refine L_mv ?_
            refine L_mv ?_
            refine L_u (P_ad h) ?_
            intro v w h
            refine L_u (P_cv ai3 in92 h) ?_
            intro v w h
            refine L_u (P_shr h) ?_
            intro v w h
            refine L_u (P_cv ai92 in3 h) ?_
            intro v w h
            refine L_as ?_
            refine L_nil ?_
            refine E_n ?_
            refine wp_seq ?_
            refine D_region (by decide +kernel) 14 rfl ?_
            replace h := dr_e h
            refine G_p 0 rfl (by decide +kernel) (Y_mv h) ?_
            intro v h
            refine G_p 1 rfl (by decide +kernel) (Y_mv h) ?_
            intro v h
            refine G_p 2 rfl (by decide +kernel) (Y_mv h) ?_
            intro v h
            refine G_p 3 rfl (by decide +kernel) (Y_mv h) ?_
            intro v h
            refine G_p 4 rfl (by decide +kernel) (Y_su h) ?_
            intro v h
            refine G_p 5 rfl (by decide +kernel) (Y_ia se44 h) ?_
            intro v h
            refine G_r _ 6 rfl (by decide +kernel) (R_ldn ag57 h) ?_
            intro v h
            refine G_p 7 rfl (by decide +kernel) (Y_mv h) ?_
            intro v h
            refine G_p 8 rfl (by decide +kernel) (Y_mv h) ?_
            intro v h
            refine G_p 9 rfl (by decide +kernel) (Y_ia se44 h) ?_
            intro v h
            refine G_r _ 10 rfl (by decide +kernel) (R_ldn ag57 h) ?_
            intro v h
            refine G_e 11 rfl (by decide +kernel) (N_cf h ?_)
            intro v w h
            refine ⟨keepF_dep [10] (by decide +kernel) rfl (keepF_dep [6] (by decide +kernel) rfl keepF_nil), ?_⟩
            refine G_p 12 rfl (by decide +kernel) (Y_lt h) ?_
            intro v h
            refine G_p 13 rfl (by decide +kernel) (Y_nt h) ?_
            intro v h
            refine G_done (by decide +kernel) ?_
            refine E_n ?_
            refine C_cnd h (fun h => ?_) (fun h => ?_)
            · refine L_region ?_
              refine L_mv ?_
              refine L_u (P_ad h) ?_
              intro v w h
              refine L_as ?_
              refine L_nil ?_
              refine B_n ?_
              refine E_n ?_
              exact L9 _ _ h
            · refine L_region ?_
              refine L_mv ?_
              refine L_as ?_
              refine L_nil ?_
              refine B_n ?_
              refine E_n ?_
              exact L9 _ _ h
          · refine C_exit ?_
            refine E_x ?_
            refine E_x ?_
            refine B_x ?_
            exact J8 _ _ h
        · unfold f61_j8 at h
          refine E_n ?_
          refine wp_seq ?_
          refine L_region ?_
          refine L_mv ?_
          refine L_mv ?_
          refine L_u (P_su h) ?_
          intro v w h
          refine L_as ?_
          refine L_nil ?_
          refine E_n ?_
          refine wp_seq ?_
          refine wp_seq ?_
          refine L_region ?_
          refine L_mv ?_
          refine L_mv ?_
          refine L_u (P_lt h) ?_
          intro v w h
          refine L_mv ?_
          refine L_g (t := 181) h rfl rfl (fun c h => P_mv h c) ?_
          intro v w h
          refine L_g (t := 181) h rfl rfl (fun c h => P_mv h c) ?_
          intro v w h
          refine L_g (t := 181) h rfl rfl (fun c h => P_lt h c) ?_
          intro v w h
          refine L_u (P_pk h) ?_
          intro v w h
          refine L_nil ?_
          refine E_n ?_
          refine C_join (fun (k : Value → Value → Value → Value → Value → Value → Value → M) (ρ : Nat → Value) => k (ρ 0) (ρ 1) (ρ 3) (ρ 4) (ρ 18) (ρ 20) (ρ 24)) h (fun j10 J10 h => ?_) (fun ρ w h => ?_)
          · refine C_cnd h (fun h => ?_) (fun h => ?_)
            · refine L_region ?_
              refine L_mv ?_
              refine L_mv ?_
              refine L_mv ?_
              refine L_mv ?_
              refine L_mv ?_
              refine L_u (N_cl Try.func74 rfl nn74 (fun w Q h => s74 _ _ _ _ _ w Q h) h) ?_
              intro v w h
              refine L_nil ?_
              exact J10 _ _ h
            · refine C_skip ?_
              exact J10 _ _ h
          · unfold f61_j10 at h
            refine E_n ?_
            refine wp_seq ?_
            refine wp_seq ?_
            refine L_region ?_
            refine L_mv ?_
            refine L_mv ?_
            refine L_u (P_lt h) ?_
            intro v w h
            refine L_mv ?_
            refine L_g (t := 195) h rfl rfl (fun c h => P_mv h c) ?_
            intro v w h
            refine L_g (t := 195) h rfl rfl (fun c h => P_mv h c) ?_
            intro v w h
            refine L_g (t := 195) h rfl rfl (fun c h => P_lt h c) ?_
            intro v w h
            refine L_u (P_pk h) ?_
            intro v w h
            refine L_nil ?_
            refine E_n ?_
            refine C_join (fun (k : Value → Value → Value → Value → Value → M) (ρ : Nat → Value) => k (ρ 0) (ρ 3) (ρ 4) (ρ 18) (ρ 24)) h (fun j11 J11 h => ?_) (fun ρ w h => ?_)
            · refine C_cnd h (fun h => ?_) (fun h => ?_)
              · refine L_region ?_
                refine L_mv ?_
                refine L_mv ?_
                refine L_mv ?_
                refine L_mv ?_
                refine L_mv ?_
                refine L_u (N_cc Try.func61 rfl nn61 h) ?_
                intro v w h
                refine L_nil ?_
                exact J11 _ _ h
              · refine C_skip ?_
                exact J11 _ _ h
            · unfold f61_j11 at h
              refine E_n ?_
              refine wp_seq ?_
              refine L_region ?_
              refine L_mv ?_
              refine L_mv ?_
              refine L_u (P_lt h) ?_
              intro v w h
              refine L_mv ?_
              refine L_g (t := 209) h rfl rfl (fun c h => P_mv h c) ?_
              intro v w h
              refine L_g (t := 209) h rfl rfl (fun c h => P_mv h c) ?_
              intro v w h
              refine L_g (t := 209) h rfl rfl (fun c h => P_lt h c) ?_
              intro v w h
              refine L_u (P_pk h) ?_
              intro v w h
              refine L_nil ?_
              refine E_n ?_
              refine C_cnd h (fun h => ?_) (fun h => ?_)
              · refine L_region ?_
                refine L_mv ?_
                refine L_mv ?_
                refine L_mv ?_
                refine L_mv ?_
                refine L_mv ?_
                refine L_u (N_cc Try.func61 rfl nn61 h) ?_
                intro v w h
                refine L_nil ?_
                show bodyPost Try.prog Try.f61 (Rt Q) .normal _ _
                exact post_tmps (ts := []) (.inl rfl) rfl h
              · refine C_skip ?_
                show bodyPost Try.prog Try.f61 (Rt Q) .normal _ _
                exact post_tmps (ts := []) (.inl rfl) rfl h

def f53_b2 (j1 : Value → Value → Value → Value → Value → M) (self2 : Value → Value → Value → Value → Value → Value → M) (t0_1 t1_1 t2_1 t6 t7 t8 : Value) : M := le .i64 t8 t1_1 fun t13 => cnd t13 ( cl (f60 t0_1 t7 t8 t2_1) fun t18 => ad .i64 t8 t6 fun t22 => self2 t0_1 t1_1 t2_1 t6 t8 t22 ) ( j1 t0_1 t1_1 t2_1 t6 t7 )
def f53_b5 (j4 : Value → Value → Value → Value → Value → M) (self5 : Value → Value → Value → Value → Value → Value → M) (t0_4 t1_4 t2_4 t6_3 t7_2 t8_1 : Value) : M := le .i64 t8_1 t1_4 fun t35 => cnd t35 ( ad .i64 t7_2 t6_3 fun t40 => cl (f61 t0_4 t7_2 t40 t8_1 t2_4) fun t43 => mu .i64 (.int .i64 2) t6_3 fun t47 => ad .i64 t8_1 t47 fun t48 => self5 t0_4 t1_4 t2_4 t6_3 t8_1 t48 ) ( j4 t0_4 t1_4 t2_4 t6_3 t7_2 )
def f53_j6 (self3 : Value → Value → Value → Value → M) (t0_6 t1_6 t2_6 t6_5 : Value) : M := mu .i64 t6_5 (.int .i64 2) fun t62 => self3 t0_6 t1_6 t2_6 t62
def f53_j4 (self3 : Value → Value → Value → Value → M) (t0_5 t1_5 t2_5 t6_4 t7_3 : Value) : M := ad .i64 t7_3 t6_4 fun t51 => lt .i64 t51 t1_5 fun t54 => jn (fun (j6 : Value → Value → Value → Value → M) => cnd t54 ( cl (f61 t0_5 t7_3 t51 t1_5 t2_5) fun t60 => j6 t0_5 t1_5 t2_5 t6_4 ) ( j6 t0_5 t1_5 t2_5 t6_4 ) ) (f53_j6 self3)
def f53_b3 (self3 : Value → Value → Value → Value → M) (t0_3 t1_3 t2_3 t6_2 : Value) : M := lt .i64 t6_2 t1_3 fun t30 => cnd t30 ( mu .i64 (.int .i64 2) t6_2 fun t32 => jn (fun (j4 : Value → Value → Value → Value → Value → M) => lo (fun _ _ _ _ _ _ => bot) (f53_b5 j4) (fun l => l t0_3 t1_3 t2_3 t6_2 (.int .i64 0) t32) ) (f53_j4 self3) ) ( rt (.tuple #[]) )
def f53_j1 (t0_2 t1_2 t2_2 t6_1 t7_1 : Value) : M := cl (f60 t0_2 t7_1 t1_2 t2_2) fun t27 => lo (fun _ _ _ _ => bot) (f53_b3) (fun l => l t0_2 t1_2 t2_2 t6_1)
def f53 (t0 t1 t2 : Value) : M := jn (fun (j1 : Value → Value → Value → Value → Value → M) => lo (fun _ _ _ _ _ _ => bot) (f53_b2 j1) (fun l => l t0 t1 t2 (.int .i64 20) (.int .i64 0) (.int .i64 20)) ) (f53_j1)
theorem s53 (t0 t1 t2 : Value) (w : World) (Q : Value → World → Prop) (h : f53 t0 t1 t2 w Q) : Calls Try.prog 53 #[t0, t1, t2] w (Rt Q) := by
  refine calls_of (l := [t0, t1, t2]) Try.func53 rfl Try.ntmps53 (Nat.le_of_ble_eq_true rfl) ?_
  unfold f53 at h
  refine wp_seq ?_
  refine L_region ?_
  refine L_as ?_
  refine L_nil ?_
  refine E_n ?_
  refine wp_seq ?_
  refine L_region ?_
  refine L_mv ?_
  refine L_as ?_
  refine L_as ?_
  refine L_nil ?_
  refine E_n ?_
  refine wp_seq ?_
  refine C_join (fun (k : Value → Value → Value → Value → Value → M) (ρ : Nat → Value) => k (ρ 0) (ρ 1) (ρ 2) (ρ 6) (ρ 7)) h (fun j1 J1 h => ?_) (fun ρ w h => ?_)
  · refine C_blk ?_
    refine C_lo (fun (l : Value → Value → Value → Value → Value → Value → M) (ρ : Nat → Value) => l (ρ 0) (ρ 1) (ρ 2) (ρ 6) (ρ 7) (ρ 8)) h (fun ρ w h => h) (fun nx self2 L2 ρ w h => ?_)
    unfold f53_b2 at h
    refine wp_seq ?_
    refine wp_seq ?_
    refine L_region ?_
    refine L_mv ?_
    refine L_mv ?_
    refine L_u (P_le h) ?_
    intro v w h
    refine L_nil ?_
    refine E_n ?_
    refine C_cnd h (fun h => ?_) (fun h => ?_)
    · refine C_skip ?_
      refine E_n ?_
      refine C_blk ?_
      refine wp_seq ?_
      refine L_region ?_
      refine L_mv ?_
      refine L_mv ?_
      refine L_mv ?_
      refine L_mv ?_
      refine L_u (N_cl Try.func60 rfl nn60 (fun w Q h => s60 _ _ _ _ w Q h) h) ?_
      intro v w h
      refine L_nil ?_
      refine E_n ?_
      refine wp_seq ?_
      refine L_region ?_
      refine L_mv ?_
      refine L_as ?_
      refine L_nil ?_
      refine E_n ?_
      refine L_region ?_
      refine L_mv ?_
      refine L_mv ?_
      refine L_u (P_ad h) ?_
      intro v w h
      refine L_as ?_
      refine L_nil ?_
      refine B_n ?_
      refine E_n ?_
      exact L2 _ _ h
    · refine C_exit ?_
      refine E_x ?_
      refine E_x ?_
      refine B_x ?_
      exact J1 _ _ h
  · unfold f53_j1 at h
    refine E_n ?_
    refine wp_seq ?_
    refine L_region ?_
    refine L_mv ?_
    refine L_mv ?_
    refine L_mv ?_
    refine L_mv ?_
    refine L_u (N_cl Try.func60 rfl nn60 (fun w Q h => s60 _ _ _ _ w Q h) h) ?_
    intro v w h
    refine L_nil ?_
    refine E_n ?_
    refine C_blk ?_
    refine C_lo (fun (l : Value → Value → Value → Value → M) (ρ : Nat → Value) => l (ρ 0) (ρ 1) (ρ 2) (ρ 6)) h (fun ρ w h => h) (fun nx self3 L3 ρ w h => ?_)
    unfold f53_b3 at h
    refine wp_seq ?_
    refine wp_seq ?_
    refine L_region ?_
    refine L_mv ?_
    refine L_mv ?_
    refine L_u (P_lt h) ?_
    intro v w h
    refine L_nil ?_
    refine E_n ?_
    refine C_cnd h (fun h => ?_) (fun h => ?_)
    · refine C_skip ?_
      refine E_n ?_
      refine C_blk ?_
      refine wp_seq ?_
      refine L_region ?_
      refine L_mv ?_
      refine L_u (P_mu h) ?_
      intro v w h
      refine L_as ?_
      refine L_as ?_
      refine L_nil ?_
      refine E_n ?_
      refine wp_seq ?_
      refine C_join (fun (k : Value → Value → Value → Value → Value → M) (ρ : Nat → Value) => k (ρ 0) (ρ 1) (ρ 2) (ρ 6) (ρ 7)) h (fun j4 J4 h => ?_) (fun ρ w h => ?_)
      · refine C_blk ?_
        refine C_lo (fun (l : Value → Value → Value → Value → Value → Value → M) (ρ : Nat → Value) => l (ρ 0) (ρ 1) (ρ 2) (ρ 6) (ρ 7) (ρ 8)) h (fun ρ w h => h) (fun nx self5 L5 ρ w h => ?_)
        unfold f53_b5 at h
        refine wp_seq ?_
        refine wp_seq ?_
        refine L_region ?_
        refine L_mv ?_
        refine L_mv ?_
        refine L_u (P_le h) ?_
        intro v w h
        refine L_nil ?_
        refine E_n ?_
        refine C_cnd h (fun h => ?_) (fun h => ?_)
        · refine C_skip ?_
          refine E_n ?_
          refine C_blk ?_
          refine wp_seq ?_
          refine L_region ?_
          refine L_mv ?_
          refine L_mv ?_
          refine L_mv ?_
          refine L_mv ?_
          refine L_u (P_ad h) ?_
          intro v w h
          refine L_mv ?_
          refine L_mv ?_
          refine L_u (N_cl Try.func61 rfl nn61 (fun w Q h => s61 _ _ _ _ _ w Q h) h) ?_
          intro v w h
          refine L_nil ?_
          refine E_n ?_
          refine wp_seq ?_
          refine L_region ?_
          refine L_mv ?_
          refine L_as ?_
          refine L_nil ?_
          refine E_n ?_
          refine L_region ?_
          refine L_mv ?_
          refine L_mv ?_
          refine L_u (P_mu h) ?_
          intro v w h
          refine L_u (P_ad h) ?_
          intro v w h
          refine L_as ?_
          refine L_nil ?_
          refine B_n ?_
          refine E_n ?_
          exact L5 _ _ h
        · refine C_exit ?_
          refine E_x ?_
          refine E_x ?_
          refine B_x ?_
          exact J4 _ _ h
      · unfold f53_j4 at h
        refine E_n ?_
        refine wp_seq ?_
        refine wp_seq ?_
        refine L_region ?_
        refine L_mv ?_
        refine L_mv ?_
        refine L_u (P_ad h) ?_
        intro v w h
        refine L_as ?_
        refine L_nil ?_
        refine E_n ?_
        refine wp_seq ?_
        refine L_region ?_
        refine L_mv ?_
        refine L_mv ?_
        refine L_u (P_lt h) ?_
        intro v w h
        refine L_nil ?_
        refine E_n ?_
        refine C_join (fun (k : Value → Value → Value → Value → M) (ρ : Nat → Value) => k (ρ 0) (ρ 1) (ρ 2) (ρ 6)) h (fun j6 J6 h => ?_) (fun ρ w h => ?_)
        · refine C_cnd h (fun h => ?_) (fun h => ?_)
          · refine L_region ?_
            refine L_mv ?_
            refine L_mv ?_
            refine L_mv ?_
            refine L_mv ?_
            refine L_mv ?_
            refine L_u (N_cl Try.func61 rfl nn61 (fun w Q h => s61 _ _ _ _ _ w Q h) h) ?_
            intro v w h
            refine L_nil ?_
            exact J6 _ _ h
          · refine C_skip ?_
            exact J6 _ _ h
        · unfold f53_j6 at h
          refine E_n ?_
          refine L_region ?_
          refine L_mv ?_
          refine L_u (P_mu h) ?_
          intro v w h
          refine L_as ?_
          refine L_nil ?_
          refine B_n ?_
          refine E_n ?_
          exact L3 _ _ h
    · refine C_exit ?_
      refine E_x ?_
      refine E_x ?_
      refine B_x ?_
      show bodyPost Try.prog Try.f53 (Rt Q) .normal _ _
      exact post_tmps (ts := []) (.inl rfl) rfl h

def f42 (t0 t1 : Value) : M := lnl t0 fun t6 => cl (f53 t0 t6 t1) fun t8 => rt (.tuple #[])
theorem s42 (t0 t1 : Value) (w : World) (Q : Value → World → Prop) (h : f42 t0 t1 w Q) : Calls Try.prog 42 #[t0, t1] w (Rt Q) := by
  refine calls_of (l := [t0, t1]) Try.func42 rfl Try.ntmps42 (Nat.le_of_ble_eq_true rfl) ?_
  unfold f42 at h
  refine L_region ?_
  refine L_mv ?_
  refine L_mv ?_
  refine L_u (P_lnl is44 h) ?_
  intro v w h
  refine L_mv ?_
  refine L_u (N_cl Try.func53 rfl nn53 (fun w Q h => s53 _ _ _ w Q h) h) ?_
  intro v w h
  refine L_nil ?_
  show bodyPost Try.prog Try.f42 (Rt Q) .normal _ _
  exact post_tmps (ts := []) (.inl rfl) rfl h

def f43 (t0 t1 : Value) : M := bx 57 t0 fun t2 => bx 57 t1 fun t3 => fa 0 t2 fun t5 => ld t5 fun t6 => fa 0 t3 fun t7 => ld t7 fun t8 => cl (f38 t6 t8) fun t9 => rt t9
theorem s43 (t0 t1 : Value) (w : World) (Q : Value → World → Prop) (h : f43 t0 t1 w Q) : Calls Try.prog 43 #[t0, t1] w (Rt Q) := by
  refine calls_of (l := [t0, t1]) Try.func43 rfl Try.ntmps43 (Nat.le_of_ble_eq_true rfl) ?_
  unfold f43 at h
  refine wp_seq ?_
  refine L_region ?_
  refine L_u (P_bx h) ?_
  intro v w h
  refine L_u (P_bx h) ?_
  intro v w h
  refine L_as ?_
  refine L_nil ?_
  refine E_n ?_
  refine wp_seq ?_
  refine L_region ?_
  refine L_u (P_fa fo57_0 h) ?_
  intro v w h
  refine L_u (P_ld sc3 h) ?_
  intro v w h
  refine L_u (P_fa fo57_0 h) ?_
  intro v w h
  refine L_u (P_ld sc3 h) ?_
  intro v w h
  refine L_u (N_cl Try.func38 rfl nn38 (fun w Q h => s38 _ _ w Q h) h) ?_
  intro v w h
  refine L_as ?_
  refine L_nil ?_
  refine E_n ?_
  refine C_ret ?_
  show bodyPost Try.prog Try.f43 (Rt Q) .ret _ _
  exact post_tmps (ts := [4]) (.inr rfl) rfl h

def f22 (t0 t1 : Value) : M := bx 3 t1 fun t3 => cl (f40 t0) fun t6 => idv (.func (.func 41) #[] #[t3]) fun t7 => cl (f39 t6 t7) fun t8 => cl (f42 t8 (.func (.func 43) #[] #[])) fun t10 => rt t8
theorem s22 (t0 t1 : Value) (w : World) (Q : Value → World → Prop) (h : f22 t0 t1 w Q) : Calls Try.prog 22 #[t0, t1] w (Rt Q) := by
  refine calls_of (l := [t0, t1]) Try.func22 rfl Try.ntmps22 (Nat.le_of_ble_eq_true rfl) ?_
  unfold f22 at h
  refine wp_seq ?_
  refine L_region ?_
  refine L_u (P_bx h) ?_
  intro v w h
  refine L_as ?_
  refine L_nil ?_
  refine E_n ?_
  refine wp_seq ?_
  refine L_region ?_
  refine L_mv ?_
  refine L_u (N_cl Try.func40 rfl nn40 (fun w Q h => s40 _ w Q h) h) ?_
  intro v w h
  refine L_u (N_mf h) ?_
  intro v w h
  refine L_u (N_cl Try.func39 rfl nn39 (fun w Q h => s39 _ _ w Q h) h) ?_
  intro v w h
  refine L_as ?_
  refine L_nil ?_
  refine E_n ?_
  refine wp_seq ?_
  refine L_region ?_
  refine L_mv ?_
  refine L_u (N_cl Try.func42 rfl nn42 (fun w Q h => s42 _ _ w Q h) h) ?_
  intro v w h
  refine L_nil ?_
  refine E_n ?_
  refine wp_seq ?_
  refine L_region ?_
  refine L_mv ?_
  refine L_as ?_
  refine L_nil ?_
  refine E_n ?_
  refine C_ret ?_
  show bodyPost Try.prog Try.f22 (Rt Q) .ret _ _
  exact post_tmps (ts := [4]) (.inr rfl) rfl h
end Go.Proofs.Ytiajdaagamhbnaa

set_option maxRecDepth 20000
set_option maxHeartbeats 4000000
namespace Go.Proofs.Ytiajdaagamhbnaa
open Sh
attribute [local irreducible] wpL anyG act jn lo gdB amb kp smr nc fa ld ldn st stn ad su mu qu re lt le gt ge eqi nei bws shl shr cat eqs nes lts gts eqb neb nt pk cv al bx ex fld fldn lnl lns ia iaa ixs sls sll sla mif mnm mxm mm asrt sm smu cl cc cf ci cnd gd gdu
def f23_b5 (j4 : Value → Value → Value → Value → Value → M) (self5 : Value → Value → Value → Value → Value → M) (t0_2 t1_2 t5_1 t6_1 t7 : Value) : M := dr <| idv t7 fun t23 => gt .i64 t23 (.int .i64 0) fun t24 => idv t24 fun t25 => gd t25 true (idv t5_1) fun t26 => gd t25 true (idv t7) fun t27 => gd t25 true (su .i64 t27 (.int .i64 1)) fun t28 => gd t25 true (ia 6 t26 t28) fun t29 => gd t25 true (fa 0 t29) fun t30 => gd t25 true (ld t30) fun t31 => gd t25 true (idv t0_2) fun t32 => gd t25 true (idv t6_1) fun t33 => gd t25 true (ia 6 t32 t33) fun t34 => gd t25 true (fa 0 t34) fun t35 => gd t25 true (ld t35) fun t36 => gd t25 true (gt .i64 t31 t36) fun t37 => pk t25 t37 (.bool false) fun t38 => cnd t38 ( su .i64 t7 (.int .i64 1) fun t40 => self5 t0_2 t1_2 t5_1 t6_1 t40 ) ( j4 t0_2 t1_2 t5_1 t6_1 t7 )
def f23_j4 (j3 : Value → Value → Value → Value → M) (t0_3 t1_3 t5_2 t6_2 t7_1 : Value) : M := dr <| idv t5_2 fun t41 => idv t7_1 fun t42 => sll 6 t41 none (some t42) fun t43 => idv t0_3 fun t45 => idv t6_2 fun t46 => ia 6 t45 t46 fun t47 => ldn 6 t47 fun t48 => idv t5_2 fun t51 => idv t7_1 fun t52 => sll 6 t51 (some t52) none fun t53 => amb ( sm Try.prog (Builtin.append_ #[44, 44] 44 #[(.slice none 0 0), t43]) fun t44 => kp (Kldn 6 t47 t48) <| sm Try.prog (Instr.buildSlice 44 1 #[(0, t48)]) fun t49_1 => sm Try.prog (Builtin.append_ #[44, 44] 44 #[t44, t49_1]) fun t50 => sm Try.prog (Builtin.append_ #[44, 44] 44 #[t50, t53]) fun t54 => idv t54 fun t5_3 => j3 t0_3 t1_3 t5_3 t6_2 ) ( sm Try.prog (Instr.buildSlice 44 1 #[(0, t48)]) fun t49 => sm Try.prog (Builtin.append_ #[44, 44] 44 #[(.slice none 0 0), t43]) fun t44_1 => kp (Kldn 6 t47 t48) <| sm Try.prog (Builtin.append_ #[44, 44] 44 #[t44_1, t49]) fun t50_1 => sm Try.prog (Builtin.append_ #[44, 44] 44 #[t50_1, t53]) fun t54_1 => idv t54_1 fun t5_4 => j3 t0_3 t1_3 t5_4 t6_2 )
def f23_j3 (self2 : Value → Value → Value → Value → M) (t0_4 t1_4 t5_5 t6_3 : Value) : M := ad .i64 t6_3 (.int .i64 1) fun t13 => self2 t0_4 t1_4 t5_5 t13
def f23_b2 (j1 : Value → M) (self2 : Value → Value → Value → Value → M) (t0_1 t1_1 t5 t6 : Value) : M := lnl t0_1 fun t10 => lt .i64 t6 t10 fun t11 => cnd t11 ( jn (fun (j3 : Value → Value → Value → Value → M) => ia 6 t0_1 t6 fun t16 => fa 1 t16 fun t17 => ld t17 fun t18 => nei .i64 t18 t1_1 fun t20 => cnd t20 ( j3 t0_1 t1_1 t5 t6 ) ( lnl t5 fun t22 => jn (fun (j4 : Value → Value → Value → Value → Value → M) => lo (fun _ _ _ _ _ => bot) (f23_b5 j4) (fun l => l t0_1 t1_1 t5 t6 t22) ) (f23_j4 j3) ) ) (f23_j3 self2) ) ( j1 t5 )
def f23_j1 (t5_6 : Value) : M := rt t5_6
def f23 (t0 t1 : Value) : M := jn (fun (j1 : Value → M) => lo (fun _ _ _ _ => bot) (f23_b2 j1) (fun l => l t0 t1 (.slice none 0 0) (.int .i64 0)) ) (f23_j1)
def f5 (t0 t1 t2 : Value) : M := cl (f7) fun t7 => nt t7 fun t8 => cnd t8 ( rt (.bool false) ) ( cl (f8 t0) fun t10 => cl (f19 t10 t1) fun t13 => cl (f20 t10 t1) fun t16 => cl (f18 t13 t16) fun t17 => gd t17 true (idv t2) fun t19 => gd t17 true (idv t1) fun t20 => gd t17 true (cl (f22 t19 t20)) fun t21 => gd t17 true (idv t2) fun t22 => gd t17 true (idv t1) fun t23 => gd t17 true (cl (f23 t22 t23)) fun t24 => gd t17 true (cl (f21 t21 t24)) fun t25 => pk t17 t25 (.bool false) fun t26 => rt t26 )
def f6_j5 (self4 : Value → Value → Value → Value → Value → Value → M) (t0_3 t2_3 t7_2 t8_2 t9_1 t10_1 : Value) : M := ad .i64 t10_1 (.int .i64 1) fun t41 => self4 t0_3 t2_3 t7_2 t8_2 t9_1 t41
def f6_b4 (j3 : Value → Value → Value → Value → Value → M) (self4 : Value → Value → Value → Value → Value → Value → M) (t0_2 t2_2 t7_1 t8_1 t9 t10 : Value) : M := lnl t0_2 fun t38 => lt .i64 t10 t38 fun t39 => cnd t39 ( dr <| idv t0_2 fun t42 => idv t10 fun t43 => ia 14 t42 t43 fun t44 => fa 6 t44 fun t45 => ld t45 fun t46 => idv t7_1 fun t47 => idv t8_1 fun t48 => ia 14 t47 t48 fun t49 => fa 6 t49 fun t50 => ld t50 fun t51 => gt .i64 t46 t51 fun t52 => jn (fun (j5 : Value → Value → Value → Value → Value → Value → M) => cnd t52 ( ad .i64 t9 (.int .i64 1) fun t54 => j5 t0_2 t2_2 t7_1 t8_1 t54 t10 ) ( j5 t0_2 t2_2 t7_1 t8_1 t9 t10 ) ) (f6_j5 self4) ) ( j3 t0_2 t2_2 t7_1 t8_1 t9 )
def f6_j3 (self2 : Value → Value → Value → Value → M) (t0_4 t2_4 t7_3 t8_3 t9_2 : Value) : M := dr <| idv t9_2 fun t55 => idv t8_3 fun t56 => gt .i64 t55 t56 fun t57 => idv t57 fun t58 => gd t58 false (idv t8_3) fun t59 => gd t58 false (gt .i64 t59 (.int .i64 0)) fun t60 => gd t58 false (idv t60) fun t61 => gd t61 true (idv t7_3) fun t62 => gd t61 true (idv t8_3) fun t63 => gd t61 true (su .i64 t63 (.int .i64 1)) fun t64 => gd t61 true (ia 14 t62 t64) fun t65 => gd t61 true (fa 6 t65) fun t66 => gd t61 true (ld t66) fun t67 => gd t61 true (idv t7_3) fun t68 => gd t61 true (idv t8_3) fun t69 => gd t61 true (ia 14 t68 t69) fun t70 => gd t61 true (fa 6 t70) fun t71 => gd t61 true (ld t71) fun t72 => gd t61 true (lt .i64 t67 t72) fun t73 => gd t58 false (pk t61 t73 (.bool false)) fun t74 => pk t58 (.bool true) t74 fun t75 => cnd t75 ( rt (.bool false) ) ( ad .i64 t8_3 (.int .i64 1) fun t35 => self2 t0_4 t2_4 t7_3 t35 )
def f6_b2 (j1 : Value → M) (self2 : Value → Value → Value → Value → M) (t0_1 t2_1 t7 t8 : Value) : M := lnl t7 fun t32 => lt .i64 t8 t32 fun t33 => cnd t33 ( jn (fun (j3 : Value → Value → Value → Value → Value → M) => lo (fun _ _ _ _ _ _ => bot) (f6_b4 j3) (fun l => l t0_1 t2_1 t7 t8 (.int .i64 0) (.int .i64 0)) ) (f6_j3 self2) ) ( j1 t2_1 )
def f6_b9 (j8 : Value → Value → Value → Value → M) (self9 : Value → Value → Value → Value → Value → M) (t2_7 t11_1 t12_1 t13 t14 : Value) : M := lt .i64 t14 t12_1 fun t88 => cnd t88 ( dr <| idv t13 fun t91 => idv t91 fun t92 => gd t92 true (idv t2_7) fun t93 => gd t92 true (idv t14) fun t94 => gd t92 true (ia 6 t93 t94) fun t95 => gd t92 true (fa 1 t95) fun t96 => gd t92 true (ld t96) fun t97 => gd t92 true (idv t2_7) fun t98 => gd t92 true (idv t12_1) fun t99 => gd t92 true (ia 6 t98 t99) fun t100 => gd t92 true (fa 1 t100) fun t101 => gd t92 true (ld t101) fun t102 => gd t92 true (nei .i64 t97 t102) fun t103 => pk t92 t103 (.bool false) fun t104 => idv t104 fun t13_1 => ad .i64 t14 (.int .i64 1) fun t90 => self9 t2_7 t11_1 t12_1 t13_1 t90 ) ( j8 t2_7 t11_1 t12_1 t13 )
def f6_j10 (self7 : Value → Value → Value → M) (t2_9 t11_3 t12_3 : Value) : M := ad .i64 t12_3 (.int .i64 1) fun t85 => self7 t2_9 t11_3 t85
def f6_j8 (self7 : Value → Value → Value → M) (t2_8 t11_2 t12_2 t13_2 : Value) : M := jn (fun (j10 : Value → Value → Value → M) => cnd t13_2 ( ia 6 t2_8 t12_2 fun t110 => fa 1 t110 fun t111 => ld t111 fun t112 => cl (f22 t2_8 t112) fun t113 => lnl t113 fun t114 => ad .i64 t11_2 t114 fun t115 => j10 t2_8 t115 t12_2 ) ( j10 t2_8 t11_2 t12_2 ) ) (f6_j10 self7)
def f6_b7 (j6 : Value → Value → M) (self7 : Value → Value → Value → M) (t2_6 t11 t12 : Value) : M := lnl t2_6 fun t78 => lt .i64 t12 t78 fun t79 => gd t79 true (idv t12) fun t81 => gd t79 true (lt .i64 t81 (.int .i64 200)) fun t82 => pk t79 t82 (.bool false) fun t83 => cnd t83 ( jn (fun (j8 : Value → Value → Value → Value → M) => lo (fun _ _ _ _ _ => bot) (f6_b9 j8) (fun l => l t2_6 t11 t12 (.bool true) (.int .i64 0)) ) (f6_j8 self7) ) ( j6 t2_6 t11 )
def f6_j6 (t2_10 t11_4 : Value) : M := lnl t2_10 fun t117 => gt .i64 t117 (.int .i64 200) fun t118 => gd t118 false (idv t11_4) fun t120 => gd t118 false (idv t2_10) fun t121 => gd t118 false (lnl t121) fun t122 => gd t118 false (eqi .i64 t120 t122) fun t123 => pk t118 (.bool true) t123 fun t124 => rt t124
def f6_j1 (t2_5 : Value) : M := jn (fun (j6 : Value → Value → M) => lo (fun _ _ _ => bot) (f6_b7 j6) (fun l => l t2_5 (.int .i64 0) (.int .i64 0)) ) (f6_j6)
def f6 (t0 t1 t2 : Value) : M := cl (f7) fun t15 => nt t15 fun t16 => cnd t16 ( rt (.bool false) ) ( cl (f8 t0) fun t18 => cl (f19 t18 t1) fun t21 => lnl t21 fun t23 => mxm t1 (.int .i64 0) fun t25 => lnl t18 fun t27 => mnm t25 t27 fun t28 => nei .i64 t23 t28 fun t29 => cnd t29 ( rt (.bool false) ) ( jn (fun (j1 : Value → M) => lo (fun _ _ _ _ => bot) (f6_b2 j1) (fun l => l t18 t2 t21 (.int .i64 0)) ) (f6_j1) ) )
theorem s6 (t0 t1 t2 : Value) (w : World) (Q : Value → World → Prop) (h : f6 t0 t1 t2 w Q) : Calls Try.prog 6 #[t0, t1, t2] w (Rt Q) := by
  refine calls_of (l := [t0, t1, t2]) Try.func6 rfl Try.ntmps6 (Nat.le_of_ble_eq_true rfl) ?_
  unfold f6 at h
  refine wp_seq ?_
  refine L_region ?_
  refine L_as ?_
  refine L_nil ?_
  refine E_n ?_
  refine wp_seq ?_
  refine wp_seq ?_
  refine L_region ?_
  refine L_u (N_cl Try.func7 rfl nn7 (fun w Q h => s7 w Q h) h) ?_
  intro v w h
  refine L_u (P_nt h) ?_
  intro v w h
  refine L_nil ?_
  refine E_n ?_
  refine C_cnd h (fun h => ?_) (fun h => ?_)
  · refine wp_seq ?_
    refine L_region ?_
    refine L_as ?_
    refine L_nil ?_
    refine E_n ?_
    refine C_ret ?_
    show bodyPost Try.prog Try.f6 (Rt Q) .ret _ _
    exact post_tmps (ts := [6]) (.inr rfl) rfl h
  · refine C_skip ?_
    refine E_n ?_
    refine wp_seq ?_
    refine L_region ?_
    refine L_mv ?_
    refine L_u (N_cl Try.func8 rfl nn8 (fun w Q h => s8 _ w Q h) h) ?_
    intro v w h
    refine L_as ?_
    refine L_nil ?_
    refine E_n ?_
    refine wp_seq ?_
    refine L_region ?_
    refine L_mv ?_
    refine L_mv ?_
    refine L_u (N_cl Try.func19 rfl nn19 (fun w Q h => s19 _ _ w Q h) h) ?_
    intro v w h
    refine L_as ?_
    refine L_nil ?_
    refine E_n ?_
    refine wp_seq ?_
    refine wp_seq ?_
    refine L_region ?_
    refine L_mv ?_
    refine L_u (P_lnl is22 h) ?_
    intro v w h
    refine L_mv ?_
    refine L_u (P_mxm (t := 0) h) ?_
    intro v w h
    refine L_mv ?_
    refine L_u (P_lnl is22 h) ?_
    intro v w h
    refine L_u (P_mnm (t := 0) h) ?_
    intro v w h
    refine L_u (P_nei h) ?_
    intro v w h
    refine L_nil ?_
    refine E_n ?_
    refine C_cnd h (fun h => ?_) (fun h => ?_)
    · refine wp_seq ?_
      refine L_region ?_
      refine L_as ?_
      refine L_nil ?_
      refine E_n ?_
      refine C_ret ?_
      show bodyPost Try.prog Try.f6 (Rt Q) .ret _ _
      exact post_tmps (ts := [6]) (.inr rfl) rfl h
    · refine C_skip ?_
      refine E_n ?_
      refine wp_seq ?_
      refine wp_seq ?_
      refine L_region ?_
      refine L_as ?_
      refine L_nil ?_
      refine E_n ?_
      refine C_join (fun (k : Value → M) (ρ : Nat → Value) => k (ρ 2)) h (fun j1 J1 h => ?_) (fun ρ w h => ?_)
      · refine C_blk ?_
        refine C_lo (fun (l : Value → Value → Value → Value → M) (ρ : Nat → Value) => l (ρ 0) (ρ 2) (ρ 7) (ρ 8)) h (fun ρ w h => h) (fun nx self2 L2 ρ w h => ?_)
        unfold f6_b2 at h
        refine wp_seq ?_
        refine wp_seq ?_
        refine L_region ?_
        refine L_mv ?_
        refine L_mv ?_
        refine L_u (P_lnl is22 h) ?_
        intro v w h
        refine L_u (P_lt h) ?_
        intro v w h
        refine L_nil ?_
        refine E_n ?_
        refine C_cnd h (fun h => ?_) (fun h => ?_)
        · refine C_skip ?_
          refine E_n ?_
          refine wp_seq ?_
          refine C_blk ?_
          refine wp_seq ?_
          refine L_region ?_
          refine L_as ?_
          refine L_nil ?_
          refine E_n ?_
          refine wp_seq ?_
          refine wp_seq ?_
          refine L_region ?_
          refine L_as ?_
          refine L_nil ?_
          refine E_n ?_
          refine C_join (fun (k : Value → Value → Value → Value → Value → M) (ρ : Nat → Value) => k (ρ 0) (ρ 2) (ρ 7) (ρ 8) (ρ 9)) h (fun j3 J3 h => ?_) (fun ρ w h => ?_)
          · refine C_blk ?_
            refine C_lo (fun (l : Value → Value → Value → Value → Value → Value → M) (ρ : Nat → Value) => l (ρ 0) (ρ 2) (ρ 7) (ρ 8) (ρ 9) (ρ 10)) h (fun ρ w h => h) (fun nx self4 L4 ρ w h => ?_)
            unfold f6_b4 at h
            refine wp_seq ?_
            refine wp_seq ?_
            refine L_region ?_
            refine L_mv ?_
            refine L_mv ?_
            refine L_u (P_lnl is22 h) ?_
            intro v w h
            refine L_u (P_lt h) ?_
            intro v w h
            refine L_nil ?_
            refine E_n ?_
            refine C_cnd h (fun h => ?_) (fun h => ?_)
            · refine C_skip ?_
              refine E_n ?_
              refine wp_seq ?_
              refine C_blk ?_
              refine wp_seq ?_
              refine D_region (by decide +kernel) 11 rfl ?_
              replace h := dr_e h
              refine G_p 0 rfl (by decide +kernel) (Y_mv h) ?_
              intro v h
              refine G_p 1 rfl (by decide +kernel) (Y_mv h) ?_
              intro v h
              refine G_p 2 rfl (by decide +kernel) (Y_ia se22 h) ?_
              intro v h
              refine G_p 3 rfl (by decide +kernel) (Y_fa fo55_4 h) ?_
              intro v h
              refine G_r _ 4 rfl (by decide +kernel) (R_ld sc3 h) ?_
              intro v h
              refine G_p 5 rfl (by decide +kernel) (Y_mv h) ?_
              intro v h
              refine G_p 6 rfl (by decide +kernel) (Y_mv h) ?_
              intro v h
              refine G_p 7 rfl (by decide +kernel) (Y_ia se22 h) ?_
              intro v h
              refine G_p 8 rfl (by decide +kernel) (Y_fa fo55_4 h) ?_
              intro v h
              refine G_r _ 9 rfl (by decide +kernel) (R_ld sc3 h) ?_
              intro v h
              refine G_p 10 rfl (by decide +kernel) (Y_gt h) ?_
              intro v h
              refine G_done (by decide +kernel) ?_
              refine E_n ?_
              refine C_join (fun (k : Value → Value → Value → Value → Value → Value → M) (ρ : Nat → Value) => k (ρ 0) (ρ 2) (ρ 7) (ρ 8) (ρ 9) (ρ 10)) h (fun j5 J5 h => ?_) (fun ρ w h => ?_)
              · refine C_cnd h (fun h => ?_) (fun h => ?_)
                · refine L_region ?_
                  refine L_mv ?_
                  refine L_u (P_ad h) ?_
                  intro v w h
                  refine L_as ?_
                  refine L_nil ?_
                  exact J5 _ _ h
                · refine C_skip ?_
                  exact J5 _ _ h
              · unfold f6_j5 at h
                refine B_n ?_
                refine E_n ?_
                refine L_region ?_
                refine L_mv ?_
                refine L_u (P_ad h) ?_
                intro v w h
                refine L_as ?_
                refine L_nil ?_
                refine E_n ?_
                exact L4 _ _ h
            · refine C_exit ?_
              refine E_x ?_
              refine E_x ?_
              refine B_x ?_
              exact J3 _ _ h
          · unfold f6_j3 at h
            refine E_n ?_
            refine wp_seq ?_
            refine D_region (by decide +kernel) 21 rfl ?_
            replace h := dr_e h
            refine G_p 0 rfl (by decide +kernel) (Y_mv h) ?_
            intro v h
            refine G_p 1 rfl (by decide +kernel) (Y_mv h) ?_
            intro v h
            refine G_p 2 rfl (by decide +kernel) (Y_gt h) ?_
            intro v h
            refine G_p 3 rfl (by decide +kernel) (Y_mv h) ?_
            intro v h
            refine G_pg (t := 58) 4 rfl (by decide +kernel) h rfl rfl (fun h => Y_mv h) ?_
            intro v h
            refine G_pg (t := 58) 5 rfl (by decide +kernel) h rfl rfl (fun h => Y_gt h) ?_
            intro v h
            refine G_pg (t := 58) 6 rfl (by decide +kernel) h rfl rfl (fun h => Y_mv h) ?_
            intro v h
            refine G_pg (t := 61) 7 rfl (by decide +kernel) h rfl rfl (fun h => Y_mv h) ?_
            intro v h
            refine G_pg (t := 61) 8 rfl (by decide +kernel) h rfl rfl (fun h => Y_mv h) ?_
            intro v h
            refine G_pg (t := 61) 9 rfl (by decide +kernel) h rfl rfl (fun h => Y_su h) ?_
            intro v h
            refine G_pg (t := 61) 10 rfl (by decide +kernel) h rfl rfl (fun h => Y_ia se22 h) ?_
            intro v h
            refine G_pg (t := 61) 11 rfl (by decide +kernel) h rfl rfl (fun h => Y_fa fo55_4 h) ?_
            intro v h
            refine G_rg (t := 61) _ 12 rfl (by decide +kernel) h rfl rfl (fun h => R_ld sc3 h) ?_
            intro v h
            refine G_pg (t := 61) 13 rfl (by decide +kernel) h rfl rfl (fun h => Y_mv h) ?_
            intro v h
            refine G_pg (t := 61) 14 rfl (by decide +kernel) h rfl rfl (fun h => Y_mv h) ?_
            intro v h
            refine G_pg (t := 61) 15 rfl (by decide +kernel) h rfl rfl (fun h => Y_ia se22 h) ?_
            intro v h
            refine G_pg (t := 61) 16 rfl (by decide +kernel) h rfl rfl (fun h => Y_fa fo55_4 h) ?_
            intro v h
            refine G_rg (t := 61) _ 17 rfl (by decide +kernel) h rfl rfl (fun h => R_ld sc3 h) ?_
            intro v h
            refine G_pg (t := 61) 18 rfl (by decide +kernel) h rfl rfl (fun h => Y_lt h) ?_
            intro v h
            refine G_pg (t := 58) 19 rfl (by decide +kernel) h rfl rfl (fun h => Y_pk h) ?_
            intro v h
            refine G_p 20 rfl (by decide +kernel) (Y_pk h) ?_
            intro v h
            refine G_done (by decide +kernel) ?_
            refine E_n ?_
            refine C_cnd h (fun h => ?_) (fun h => ?_)
            · refine wp_seq ?_
              refine L_region ?_
              refine L_as ?_
              refine L_nil ?_
              refine E_n ?_
              refine C_ret ?_
              show bodyPost Try.prog Try.f6 (Rt Q) .ret _ _
              exact post_tmps (ts := [6]) (.inr rfl) rfl h
            · refine C_skip ?_
              refine B_n ?_
              refine E_n ?_
              refine L_region ?_
              refine L_mv ?_
              refine L_u (P_ad h) ?_
              intro v w h
              refine L_as ?_
              refine L_nil ?_
              refine E_n ?_
              exact L2 _ _ h
        · refine C_exit ?_
          refine E_x ?_
          refine E_x ?_
          refine B_x ?_
          exact J1 _ _ h
      · unfold f6_j1 at h
        refine E_n ?_
        refine wp_seq ?_
        refine L_region ?_
        refine L_as ?_
        refine L_nil ?_
        refine E_n ?_
        refine wp_seq ?_
        refine wp_seq ?_
        refine L_region ?_
        refine L_as ?_
        refine L_nil ?_
        refine E_n ?_
        refine C_join (fun (k : Value → Value → M) (ρ : Nat → Value) => k (ρ 2) (ρ 11)) h (fun j6 J6 h => ?_) (fun ρ w h => ?_)
        · refine C_blk ?_
          refine C_lo (fun (l : Value → Value → Value → M) (ρ : Nat → Value) => l (ρ 2) (ρ 11) (ρ 12)) h (fun ρ w h => h) (fun nx self7 L7 ρ w h => ?_)
          unfold f6_b7 at h
          refine wp_seq ?_
          refine wp_seq ?_
          refine L_region ?_
          refine L_mv ?_
          refine L_mv ?_
          refine L_u (P_lnl is44 h) ?_
          intro v w h
          refine L_u (P_lt h) ?_
          intro v w h
          refine L_mv ?_
          refine L_g (t := 80) h rfl rfl (fun c h => P_mv h c) ?_
          intro v w h
          refine L_g (t := 80) h rfl rfl (fun c h => P_lt h c) ?_
          intro v w h
          refine L_u (P_pk h) ?_
          intro v w h
          refine L_nil ?_
          refine E_n ?_
          refine C_cnd h (fun h => ?_) (fun h => ?_)
          · refine C_skip ?_
            refine E_n ?_
            refine wp_seq ?_
            refine C_blk ?_
            refine wp_seq ?_
            refine L_region ?_
            refine L_as ?_
            refine L_nil ?_
            refine E_n ?_
            refine wp_seq ?_
            refine wp_seq ?_
            refine L_region ?_
            refine L_as ?_
            refine L_nil ?_
            refine E_n ?_
            refine C_join (fun (k : Value → Value → Value → Value → M) (ρ : Nat → Value) => k (ρ 2) (ρ 11) (ρ 12) (ρ 13)) h (fun j8 J8 h => ?_) (fun ρ w h => ?_)
            · refine C_blk ?_
              refine C_lo (fun (l : Value → Value → Value → Value → Value → M) (ρ : Nat → Value) => l (ρ 2) (ρ 11) (ρ 12) (ρ 13) (ρ 14)) h (fun ρ w h => h) (fun nx self9 L9 ρ w h => ?_)
              unfold f6_b9 at h
              refine wp_seq ?_
              refine wp_seq ?_
              refine L_region ?_
              refine L_mv ?_
              refine L_mv ?_
              refine L_u (P_lt h) ?_
              intro v w h
              refine L_nil ?_
              refine E_n ?_
              refine C_cnd h (fun h => ?_) (fun h => ?_)
              · refine C_skip ?_
                refine E_n ?_
                refine wp_seq ?_
                refine C_blk ?_
                refine D_region (by decide +kernel) 15 rfl ?_
                replace h := dr_e h
                refine G_p 0 rfl (by decide +kernel) (Y_mv h) ?_
                intro v h
                refine G_p 1 rfl (by decide +kernel) (Y_mv h) ?_
                intro v h
                refine G_pg (t := 92) 2 rfl (by decide +kernel) h rfl rfl (fun h => Y_mv h) ?_
                intro v h
                refine G_pg (t := 92) 3 rfl (by decide +kernel) h rfl rfl (fun h => Y_mv h) ?_
                intro v h
                refine G_pg (t := 92) 4 rfl (by decide +kernel) h rfl rfl (fun h => Y_ia se44 h) ?_
                intro v h
                refine G_pg (t := 92) 5 rfl (by decide +kernel) h rfl rfl (fun h => Y_fa fo57_1 h) ?_
                intro v h
                refine G_rg (t := 92) _ 6 rfl (by decide +kernel) h rfl rfl (fun h => R_ld sc3 h) ?_
                intro v h
                refine G_pg (t := 92) 7 rfl (by decide +kernel) h rfl rfl (fun h => Y_mv h) ?_
                intro v h
                refine G_pg (t := 92) 8 rfl (by decide +kernel) h rfl rfl (fun h => Y_mv h) ?_
                intro v h
                refine G_pg (t := 92) 9 rfl (by decide +kernel) h rfl rfl (fun h => Y_ia se44 h) ?_
                intro v h
                refine G_pg (t := 92) 10 rfl (by decide +kernel) h rfl rfl (fun h => Y_fa fo57_1 h) ?_
                intro v h
                refine G_rg (t := 92) _ 11 rfl (by decide +kernel) h rfl rfl (fun h => R_ld sc3 h) ?_
                intro v h
                refine G_pg (t := 92) 12 rfl (by decide +kernel) h rfl rfl (fun h => Y_nei h) ?_
                intro v h
                refine G_p 13 rfl (by decide +kernel) (Y_pk h) ?_
                intro v h
                refine G_p 14 rfl (by decide +kernel) (Y_as h) ?_
                intro v h
                refine G_done (by decide +kernel) ?_
                refine B_n ?_
                refine E_n ?_
                refine L_region ?_
                refine L_mv ?_
                refine L_u (P_ad h) ?_
                intro v w h
                refine L_as ?_
                refine L_nil ?_
                refine E_n ?_
                exact L9 _ _ h
              · refine C_exit ?_
                refine E_x ?_
                refine E_x ?_
                refine B_x ?_
                exact J8 _ _ h
            · unfold f6_j8 at h
              refine E_n ?_
              refine wp_seq ?_
              refine L_region ?_
              refine L_mv ?_
              refine L_nil ?_
              refine E_n ?_
              refine C_join (fun (k : Value → Value → Value → M) (ρ : Nat → Value) => k (ρ 2) (ρ 11) (ρ 12)) h (fun j10 J10 h => ?_) (fun ρ w h => ?_)
              · refine C_cnd h (fun h => ?_) (fun h => ?_)
                · refine L_region ?_
                  refine L_mv ?_
                  refine L_mv ?_
                  refine L_mv ?_
                  refine L_mv ?_
                  refine L_u (P_ia se44 h) ?_
                  intro v w h
                  refine L_u (P_fa fo57_1 h) ?_
                  intro v w h
                  refine L_u (P_ld sc3 h) ?_
                  intro v w h
                  refine L_u (N_cl Try.func22 rfl nn22 (fun w Q h => s22 _ _ w Q h) h) ?_
                  intro v w h
                  refine L_u (P_lnl is44 h) ?_
                  intro v w h
                  refine L_u (P_ad h) ?_
                  intro v w h
                  refine L_as ?_
                  refine L_nil ?_
                  exact J10 _ _ h
                · refine C_skip ?_
                  exact J10 _ _ h
              · unfold f6_j10 at h
                refine B_n ?_
                refine E_n ?_
                refine L_region ?_
                refine L_mv ?_
                refine L_u (P_ad h) ?_
                intro v w h
                refine L_as ?_
                refine L_nil ?_
                refine E_n ?_
                exact L7 _ _ h
          · refine C_exit ?_
            refine E_x ?_
            refine E_x ?_
            refine B_x ?_
            exact J6 _ _ h
        · unfold f6_j6 at h
          refine E_n ?_
          refine wp_seq ?_
          refine L_region ?_
          refine L_mv ?_
          refine L_u (P_lnl is44 h) ?_
          intro v w h
          refine L_u (P_gt h) ?_
          intro v w h
          refine L_mv ?_
          refine L_g (t := 119) h rfl rfl (fun c h => P_mv h c) ?_
          intro v w h
          refine L_g (t := 119) h rfl rfl (fun c h => P_mv h c) ?_
          intro v w h
          refine L_g (t := 119) h rfl rfl (fun c h => P_lnl is44 h c) ?_
          intro v w h
          refine L_g (t := 119) h rfl rfl (fun c h => P_eqi h c) ?_
          intro v w h
          refine L_u (P_pk h) ?_
          intro v w h
          refine L_as ?_
          refine L_nil ?_
          refine E_n ?_
          refine C_ret ?_
          show bodyPost Try.prog Try.f6 (Rt Q) .ret _ _
          exact post_tmps (ts := [6]) (.inr rfl) rfl h
end Go.Proofs.Ytiajdaagamhbnaa

namespace Go.Proofs.Ytiajdaagamhbnaa
namespace Sh
open RowKit
section
variable {P : Program} {w : World} {Q : Value → World → Prop} {K : Value → M} {B : Nat}
/-- a block that is there stays -/
theorem stay {w w' : World} {p : Nat} {o : Obj} (hb : Below w.heap.size w w') (h : w.heap[p]? = some o) : w'.heap[p]? = some o := by
  rcases Nat.lt_or_ge p w.heap.size with hp | hp
  · rw [hb.block p hp]; exact h
  · simp [Array.getElem?_eq_none hp] at h
theorem blk_lt {w : World} {p : Nat} {o : Obj} (h : w.heap[p]? = some o) : p < w.heap.size := by
  rcases Nat.lt_or_ge p w.heap.size with hp | hp
  · exact hp
  · simp [Array.getElem?_eq_none hp] at h
theorem bt {w0 w w' : World} (b : Below w0.heap.size w0 w) (hb : Below w.heap.size w w') : Below w0.heap.size w0 w' := b.trans (hb.mono b.size)
theorem b_psh (w : World) (o : Obj) : Below w.heap.size w (psh w o) := Below_psh (Below.refl _ w) (Nat.le_refl _)
end
end Sh
end Go.Proofs.Ytiajdaagamhbnaa

namespace Go.Proofs.Ytiajdaagamhbnaa
namespace Sh
open RowKit
section
variable {P : Program} {w : World} {d : Nat} {xs ys : Array Value} {f : Field} {fs : List Field} {r : Bool}
theorem fE_nil : (Op.eqFields d xs ys []).run P w = .ok true w := by simp [Op.eqFields]
theorem fE_cons {a b : Value} {s : Bool} (hn : (f.name == "_") = false) (hk : P.plainKey f.type = true) (ha : xs[f.offset]? = some a) (hb : ys[f.offset]? = some b) (he : (Op.equalIn d f.type a b).run P w = .ok r w)
    (hr : (Op.eqFields d xs ys fs).run P w = .ok s w) : (Op.eqFields d xs ys (f :: fs)).run P w = .ok (r && s) w := by
  have hn' : f.name ≠ "_" := by simpa using hn
  rw [Op.eqFields]
  simp only [if_pos hn', Sem.run_bind, run_part_plain w hk ha, run_part_plain w hk hb, he, Result.andThen_ok]
  cases r
  · simp
  · simpa using hr
theorem run_eq_agg {t : TypeId} {x y : Operand} {gs : Array Field} (hu : P.underlying t = some (.struct gs)) (hp : P.stoodInHeld t = false) (hg : P.eqGuardType P.depth t = false)
    (h : (Op.eqFields 9999 xs ys gs.toList).run P w = .ok r w) : ((do eqGuard .eql t x y (.agg xs) (.agg ys); binOp .eql t (.agg xs) (.agg ys) : Sem Value)).run P w = .ok (.bool r) w := by
  have hf : P.fieldsOf t = gs := by simp [Program.fieldsOf, hu]
  have h2 : (Op.equalIn 10000 t (.agg xs) (.agg ys)).run P w = .ok r w := by
    rw [run_equalIn_struct (P := P) w 9999 t xs ys (by rw [hf]; exact hu) hp, hf]
    exact h
  have h3 : (Op.equal t (.agg xs) (.agg ys)).run P w = .ok r w := h2
  simp [eqGuard, hg, binOp, h3]
end
end Sh
end Go.Proofs.Ytiajdaagamhbnaa

namespace Go.Proofs.Ytiajdaagamhbnaa
namespace Sh
open RowKit
section
variable {P : Program} {w : World} {Q : Value → World → Prop} {K : Value → M} {B : Nat}
theorem ownI_weak {B B' : Nat} {e : TypeId} {k : IntKind} {w : World} {v : Value} {l : List Int} (h : ownI B e k w v l) (hB : B' ≤ B) : ownI B' e k w v l := by
  obtain ⟨o1, o2⟩ := h
  refine ⟨o1, o2.imp id ?_⟩
  rintro ⟨g, cap, cur, q1, q2, q3⟩
  exact ⟨g, cap, cur, q1, by omega, q3⟩
end
end Sh
end Go.Proofs.Ytiajdaagamhbnaa

namespace Go.Proofs.Ytiajdaagamhbnaa
namespace Sh
open RowKit ChangeShapes
/-! one block changed -/
/-- below the old end all is as it was but block p -/
structure Chg (p : Nat) (w w' : World) : Prop where
  os : w'.os = w.os
  tape : w'.tape = w.tape
  output : w'.output = w.output
  size : w.heap.size ≤ w'.heap.size
  block : ∀ k, k < w.heap.size → k ≠ p → w'.heap[k]? = w.heap[k]?
theorem Upd.chg {p : Nat} {w w' : World} (h : Upd p w w') : Chg p w w' := ⟨h.os, h.tape, h.output, by rw [h.size]; exact Nat.le_refl _, fun k _ hk => h.block k hk⟩
theorem Chg.refl (p : Nat) (w : World) : Chg p w w := ⟨rfl, rfl, rfl, Nat.le_refl _, fun _ _ _ => rfl⟩
theorem Chg.of_below {p : Nat} {w w' : World} (h : Below w.heap.size w w') : Chg p w w' := ⟨h.os, h.tape, h.output, h.size, fun k hk _ => h.block k hk⟩
theorem Chg.trans {p : Nat} {a b c : World} (h : Chg p a b) (k : Chg p b c) : Chg p a c :=
  ⟨k.os.trans h.os, k.tape.trans h.tape, k.output.trans h.output, Nat.le_trans h.size k.size, fun i hi hp => (k.block i (Nat.lt_of_lt_of_le hi h.size) hp).trans (h.block i hi hp)⟩
theorem Chg.below {p B : Nat} {w w' : World} (h : Chg p w w') (hB : B ≤ p) (hw : B ≤ w.heap.size) : Below B w w' := ⟨h.os, h.tape, h.output, h.size, fun k hk => h.block k (by omega) (by omega)⟩
theorem Chg.keep {p q : Nat} {w w' : World} {o : Obj} (h : Chg p w w') (hq : w.heap[q]? = some o) (hne : q ≠ p) : w'.heap[q]? = some o := by rw [h.block q (blk_lt hq) hne]; exact hq
theorem Chg.drw {p : Nat} {w w' : World} (h : Chg p w w') : Chg p w (drw w') := ⟨h.os, h.tape, h.output, h.size, h.block⟩
theorem Chg.cell {p : Nat} {w w' : World} {a : Addr} {v : Value} (h : Chg p w w') (hc : w.cell? a = some v) (hne : a.block ≠ p) : w'.cell? a = some v := by
  have := cell_lt hc
  unfold World.cell? at hc ⊢
  rw [h.block _ this hne]; exact hc
theorem bc {B p : Nat} {w0 w w' : World} (b : Below B w0 w) (hB : B ≤ p) (hw : B ≤ w.heap.size) (h : Chg p w w') : Below B w0 w' := b.trans (h.below hB hw)
section
variable {w : World} {Q : Value → World → Prop} {K : Value → M} {K0 : M} {B : Nat}
theorem rds2 {b : Nat} {c : Array Value} {t : TypeId} {fr : Nat × Nat} (h : w.heap[b]? = some (.cells c t fr)) : rds w ⟨b, 0, none⟩ c :=
  rds_of_blk h (fun j v hj => by simpa using hj)
theorem ldn_box {n b : Nat} {c : Array Value} {t : TypeId} {fr : Nat × Nat} (h : w.heap[b]? = some (.cells c t fr)) (hn : c.size = n) (k : K (.agg c) w Q) : ldn n (.pointer (some ⟨b, 0, none⟩)) K w Q :=
  ⟨_, c, rfl, hn, rds2 h, k⟩
/-- one cell of a block stored -/
theorem st_box {b o : Nat} {c : Array Value} {t : TypeId} {v : Value} (h : w.heap[b]? = some (.cells c t (0, 0))) (ho : o < c.size) (hv : v.oneCell' = true)
    (k : ∀ w', w'.heap[b]? = some (.cells (c.setIfInBounds o v) t (0, 0)) → Upd b w w' → K0 w' Q) : st (.pointer (some ⟨b, o, none⟩)) v K0 w Q := by
  rw [st_e]
  refine ⟨by rw [cell_of_blk h]; simp [ho], frozen_zero h, hv, k _ (blk_setCell h) ?_⟩
  exact ⟨rfl, rfl, rfl, size_setCell, fun k hk => blk_setCell_ne hk⟩
end
/-! slices of whatever -/
abbrev RepT (α : Type) := World → List Value → α → Prop
def cellsAt (w : World) (a : Addr) (es : List Value) : Prop := ∀ j v, es[j]? = some v → w.cell? (a.add j) = some v
/-- a slice, each element n cells, that reads as l -/
def rdS {α : Type} (n : Nat) (R : RepT α) (w : World) (v : Value) (l : List α) : Prop :=
  (v = .slice none 0 0 ∧ l = []) ∨ ∃ a c, v = .slice (some a) l.length c ∧ l.length ≤ c ∧ ∀ i (h : i < l.length), ∃ es, es.length = n ∧ cellsAt w (a.add (i * n)) es ∧ R w es l[i]
theorem cellsAt_below {w w' : World} {a : Addr} {es : List Value} (hb : Below w.heap.size w w') (h : cellsAt w a es) : cellsAt w' a es := fun j v hj => cell_below hb (h j v hj)
def Stable {α : Type} (R : RepT α) : Prop := ∀ (w w' : World) (es : List Value) (x : α), Below w.heap.size w w' → R w es x → R w' es x
theorem rdS_below {α : Type} {n : Nat} {R : RepT α} (hR : Stable R) {w w' : World} {v : Value} {l : List α} (hb : Below w.heap.size w w') (h : rdS n R w v l) : rdS n R w' v l := by
  rcases h with h | ⟨a, c, rfl, hcc, h⟩
  · exact .inl h
  · refine .inr ⟨a, c, rfl, hcc, fun i hi => ?_⟩
    obtain ⟨es, h1, h2, h3⟩ := h i hi
    exact ⟨es, h1, cellsAt_below hb h2, hR _ _ _ _ hb h3⟩
theorem rdS_mono {α : Type} {n : Nat} {R R' : RepT α} {w : World} (hR : ∀ es x, R w es x → R' w es x) {v : Value} {l : List α} (h : rdS n R w v l) : rdS n R' w v l := by
  rcases h with h | ⟨a, c, rfl, hcc, h⟩
  · exact .inl h
  · refine .inr ⟨a, c, rfl, hcc, fun i hi => ?_⟩
    obtain ⟨es, h1, h2, h3⟩ := h i hi
    exact ⟨es, h1, h2, hR _ _ h3⟩
theorem rdS_len {α : Type} {n : Nat} {R : RepT α} {w : World} {v : Value} {l : List α} (h : rdS n R w v l) : ∃ p c, v = .slice p l.length c := by
  rcases h with ⟨rfl, rfl⟩ | ⟨a, c, rfl, hcc, h⟩
  · exact ⟨none, 0, rfl⟩
  · exact ⟨some a, c, rfl⟩
theorem lnl_S {α : Type} {n : Nat} {R : RepT α} {w w1 : World} {v : Value} {l : List α} {K : Value → M} {Q : Value → World → Prop} (h : rdS n R w v l) (kk : K (.int .i64 l.length) w1 Q) : lnl v K w1 Q := by
  obtain ⟨p, c, rfl⟩ := rdS_len h
  rw [lnl_e]; exact kk
/-- an element's place, the same in whatever world -/
theorem rdS_at {α : Type} {n : Nat} {R : RepT α} {w : World} {v : Value} {l : List α} (h : rdS n R w v l) {i : Nat} (hi : i < l.length) :
    ∃ ad es, es.length = n ∧ cellsAt w ad es ∧ R w es l[i] ∧ ∀ (k : IntKind) (K : Value → M) (w' : World) (Q : Value → World → Prop), ia n v (.int k (i : Int)) K w' Q = K (.pointer (some ad)) w' Q := by
  rcases h with ⟨rfl, rfl⟩ | ⟨a, c, rfl, hcc, h⟩
  · simp at hi
  · obtain ⟨es, h1, h2, h3⟩ := h i hi
    refine ⟨_, es, h1, h2, h3, fun k K w' Q => ?_⟩
    rw [ia_e, Int.toNat_natCast]
    apply propext
    constructor
    · rintro ⟨_, _, h⟩; exact h
    · intro h; exact ⟨by omega, by omega, h⟩
theorem ldn_at {n : Nat} {w : World} {a : Addr} {es : List Value} {K : Value → M} {Q : Value → World → Prop} (hc : cellsAt w a es) (hn : es.length = n) (k : K (.agg es.toArray) w Q) : ldn n (.pointer (some a)) K w Q :=
  ⟨a, es.toArray, rfl, by simpa using hn, fun j v hj => hc j v (by simpa using hj), k⟩
theorem cellsAt_get {w : World} {a : Addr} {es : List Value} {j : Nat} {v : Value} (hc : cellsAt w a es) (hj : es[j]? = some v) : w.cell? (a.add j) = some v := hc j v hj
theorem add_zero' (a : Addr) : a.add 0 = a := rfl
section
variable {P : Program}
/-- whatever is read as a T is an α, told by R, of at most that bulk -/
def Opens (P : Program) (t : TypeId) (α : Type) (R : RepT α) (bulk : α → Nat) : Prop :=
  ∀ {H : Type} (enc : TypeId × Value → H) (w : World) (held : Bool) (fuel : Nat) (cs : List Value) (x : DataW H × List MemPlace),
    DataW.trod enc P w 0 (fun _ => true) held fuel t cs = some x → (x.1.weights P t).all (· ≤ reachBytes) = true → ∃ a, R w cs a ∧ bulk a ≤ Rows.uptoBulk x.1
theorem step_of {H : Type} {enc : TypeId × Value → H} {w : World} {sp : Nat → Bool} {held : Bool} {fuel : Nat} {t : TypeId} {cs : List Value} {x : DataW H × List MemPlace} (h : DataW.trod enc P w 0 sp held fuel t cs = some x) :
    ∃ n, fuel = n + 1 ∧ DataW.trod enc P w 0 sp held (n + 1) t cs = some x := by
  cases fuel with
  | zero => simp [DataW.trod] at h
  | succ n => exact ⟨n, rfl, h⟩
theorem mapM_all' {α β : Type} {g : α → Option β} : ∀ {l : List α} {ys : List β}, l.mapM g = some ys → ys.length = l.length ∧ ∀ (i : Nat) (h : i < l.length), ∃ y, g l[i] = some y ∧ ys[i]? = some y := by
  intro l
  induction l with
  | nil => intro ys h; simp at h; subst h; simp
  | cons a l ih =>
    intro ys h
    rw [List.mapM_cons] at h
    cases ha : g a with
    | none => simp [ha] at h
    | some y =>
      cases hl : l.mapM g with
      | none => simp [ha, hl] at h
      | some zs =>
        simp [ha, hl] at h
        subst h
        obtain ⟨h1, h2⟩ := ih hl
        refine ⟨by simp [h1], fun i hi => ?_⟩
        cases i with
        | zero => exact ⟨y, ha, rfl⟩
        | succ i => simpa using h2 i (by simpa using hi)
def iR (k : IntKind) : RepT Int := fun _ cs a => cs = [.int k a] ∧ (Lit.int k a).wf = true
def bR : RepT Bool := fun _ cs a => cs = [.bool a]
def sR : RepT ByteArray := fun _ cs s => cs = [.string s] ∧ s.size ≤ reachBytes
/-- a slice: its cell, what it reads as, its size -/
def lR {α : Type} (n b : Nat) (R : RepT α) : RepT (List α) := fun w cs l => ∃ v, cs = [v] ∧ rdS n R w v l ∧ l.length * b ≤ reachBytes
theorem op_int {t : TypeId} {k : IntKind} (hu : P.underlying t = some (.int k)) : Opens P t Int (iR k) (fun _ => 1) := by
  intro H enc w held fuel cs x h _
  obtain ⟨a, h1, h2, h3⟩ := DataW.trod_int hu h
  refine ⟨a, ⟨h1, h3⟩, ?_⟩
  cases x with | mk d p => cases d with
    | lit l => cases l <;> simp [Rows.uptoBulk]
    | _ => simp [Rows.uptoBulk]
theorem op_bool {t : TypeId} (hu : P.underlying t = some .bool) : Opens P t Bool bR (fun _ => 1) := by
  intro H enc w held fuel cs x h _
  obtain ⟨n, rfl, h⟩ := step_of h
  rw [DataW.trod_step] at h
  unfold DataW.trodStep at h
  simp only [hu] at h
  split at h <;> first | (cases h; done) | (rename_i heq _; cases heq; done) | skip
  rename_i b _ _
  cases h
  exact ⟨b, rfl, by simp [Rows.uptoBulk]⟩
theorem op_str {t : TypeId} (hu : P.underlying t = some .string) : Opens P t ByteArray sR (fun s => s.size + 1) := by
  intro H enc w held fuel cs x h hw
  obtain ⟨n, rfl, h⟩ := step_of h
  rw [DataW.trod_step] at h
  unfold DataW.trodStep at h
  simp only [hu] at h
  split at h <;> first | (cases h; done) | (rename_i heq _; cases heq; done) | skip
  rename_i s _ _
  split at h
  · rename_i h1
    cases h
    have hw' : s.data.toList.length ≤ reachBytes := by simpa only [DataW.weights, List.all_cons, List.all_nil, Bool.and_true, decide_eq_true_eq] using hw
    refine ⟨s, ⟨rfl, by rw [Array.length_toList] at hw'; exact hw'⟩, ?_⟩
    simp [Rows.uptoBulk]
  · cases h
theorem cells?_at {w : World} {a : Addr} {n : Nat} {es : List Value} (h : w.cells? 0 a n = some es) : es.length = n ∧ cellsAt w a es := by
  unfold World.cells? at h
  rw [if_pos (Nat.zero_le _)] at h
  obtain ⟨h1, h2⟩ := mapM_all' h
  rw [List.length_range] at h1
  refine ⟨h1, fun j v hj => ?_⟩
  have hlt : j < es.length := by
    rcases Nat.lt_or_ge j es.length with h | h
    · exact h
    · simp [List.getElem?_eq_none h] at hj
  obtain ⟨y, g1, g2⟩ := h2 j (by simpa [← h1] using hlt)
  rw [List.getElem_range] at g1
  rw [hj] at g2
  cases g2
  exact g1
theorem sum_le_all {H : Type} {α : Type} {b : α → Nat} : ∀ (l : List α) (ys : List (DataW H)), l.length = ys.length → (∀ (i : Nat) (h : i < l.length) (h' : i < ys.length), b l[i] ≤ Rows.uptoBulk ys[i]) → (l.map b).sum ≤ Rows.uptoBulkAll ys := by
  intro l
  induction l with
  | nil => intro ys _ _; simp
  | cons x l ih =>
    intro ys hl h
    cases ys with
    | nil => simp at hl
    | cons y ys =>
      have h0 := h 0 (by simp) (by simp)
      have := ih ys (by simpa using hl) (fun i h1 h2 => h (i + 1) (Nat.succ_lt_succ h1) (Nat.succ_lt_succ h2))
      simp only [List.map_cons, List.sum_cons, Rows.uptoBulkAll]
      simp at h0
      omega
theorem choose_list {α : Type} {n : Nat} {p : Nat → α → Prop} (h : ∀ i, i < n → ∃ a, p i a) : ∃ l : List α, l.length = n ∧ ∀ i (hi : i < l.length), p i l[i] := by
  induction n with
  | zero => exact ⟨[], rfl, fun i hi => by simp at hi⟩
  | succ n ih =>
    obtain ⟨l, h1, h2⟩ := ih (fun i hi => h i (by omega))
    obtain ⟨a, ha⟩ := h n (by omega)
    refine ⟨l ++ [a], by simp [h1], fun i hi => ?_⟩
    by_cases c : i < l.length
    · rw [List.getElem_append_left c]; exact h2 i c
    · have : i = l.length := by simp at hi; omega
      subst this
      simp [h1, ha]
theorem weights_all {H : Type} {e : TypeId} : ∀ (l : List (DataW H)), (DataW.weightsAll P e l).all (· ≤ reachBytes) = true → ∀ (i : Nat) (h : i < l.length), (l[i].weights P e).all (· ≤ reachBytes) = true := by
  intro l
  induction l with
  | nil => intro _ i h; simp at h
  | cons d l ih =>
    intro hw i h
    simp only [DataW.weightsAll, List.all_append, Bool.and_eq_true] at hw
    cases i with
    | zero => exact hw.1
    | succ i => exact ih hw.2 i (by simpa using h)
theorem op_slice {t e : TypeId} {n : Nat} {α : Type} {R : RepT α} {b : α → Nat} (hu : P.underlying t = some (.slice e)) (hn : P.cellsOf e = n) (he : Opens P e α R b) : Opens P t (List α) (lR n (P.bytesOf e) R) (fun l => (l.map b).sum + 1) := by
  intro H enc w held fuel cs x h hw
  subst hn
  obtain ⟨f, rfl, h⟩ := step_of h
  rw [DataW.trod_step] at h
  unfold DataW.trodStep at h
  simp only [hu] at h
  split at h <;> first | (cases h; done) | (rename_i heq _; cases heq; done) | skip
  · cases h; exact ⟨[], ⟨_, rfl, .inl ⟨rfl, rfl⟩, by simp⟩, by simp [Rows.uptoBulk]⟩
  · rename_i a len cap heq _
    cases heq
    simp only [Option.ite_none_right_eq_some, Option.bind_eq_some_iff, Option.map_eq_some_iff, if_true] at h
    obtain ⟨hc, ys, hy, zs, hz, rfl⟩ := h
    obtain ⟨hl, hall⟩ := mapM_all' hy
    rw [List.length_range] at hl
    simp only [DataW.weights, hu, List.all_cons, List.all_append, Bool.and_eq_true, decide_eq_true_eq] at hw
    have hwa := fun (i : Nat) (h : i < (ys.map (·.1)).length) => weights_all (ys.map (·.1)) hw.2.1 i h
    have key : ∀ i, i < len → ∃ q : α, ∃ y es, ys[i]? = some y ∧ es.length = P.cellsOf e ∧ cellsAt w (a.add (i * P.cellsOf e)) es ∧ R w es q ∧ b q ≤ Rows.uptoBulk y.1 := by
      intro i hi
      obtain ⟨y, g1, g2⟩ := hall i (by simpa using hi)
      rw [List.getElem_range] at g1
      cases hcs : w.cells? 0 (a.add (i * P.cellsOf e)) (P.cellsOf e) with
      | none => simp [hcs] at g1
      | some es =>
        simp [hcs] at g1
        obtain ⟨k1, k2⟩ := cells?_at hcs
        have hlt : i < ys.length := by omega
        rw [List.getElem?_eq_getElem hlt] at g2
        have hww := hwa i (by simpa using hlt)
        cases g2
        obtain ⟨q, k3, k4⟩ := he enc w held f es _ g1 (by simpa using hww)
        have g2 : ys[i]? = some ys[i] := List.getElem?_eq_getElem hlt
        exact ⟨q, _, es, g2, k1, k2, k3, k4⟩
    obtain ⟨l, hll, hlp⟩ := choose_list key
    refine ⟨l, ?_, ?_⟩
    · refine ⟨_, rfl, .inr ⟨a, cap, by rw [hll], by rw [hll]; exact hc.2.1, fun i hi => ?_⟩, ?_⟩
      · obtain ⟨y, es, _, k1, k2, k3, _⟩ := hlp i hi
        exact ⟨es, k1, k2, k3⟩
      · have h9 := hw.1
        rw [List.length_map, hl] at h9
        rw [hll]
        exact Nat.le_trans (Nat.mul_le_mul_right _ (Nat.le_add_right _ _)) h9
    · simp only [Rows.uptoBulk]
      have := sum_le_all (b := b) l (ys.map (·.1)) (by simp [hll, hl]) (fun i h1 h2 => by
        obtain ⟨y, es, k0, _, _, _, k4⟩ := hlp i h1
        have h3 : i < ys.length := by simpa using h2
        rw [List.getElem?_eq_getElem h3] at k0
        cases k0
        simpa using k4)
      omega
/-- a struct's fields, one after the other -/
def OpensF (P : Program) (fs : List Field) (α : Type) (R : RepT α) (bulk : α → Nat) : Prop :=
  ∀ {H : Type} (enc : TypeId × Value → H) (w : World) (held : Bool) (fuel : Nat) (cs : List Value) (ys : List (DataW H × List MemPlace)),
    (fs.mapM fun f => DataW.trod enc P w 0 (fun _ => true) held fuel f.type ((cs.drop f.offset).take (P.cellsOf f.type))) = some ys →
    (DataW.weightsEach P (fs.map (·.type)) (ys.map (·.1))).all (· ≤ reachBytes) = true → ∃ a, R w cs a ∧ bulk a ≤ Rows.uptoBulkAll (ys.map (·.1))
theorem opf_nil : OpensF P [] Unit (fun _ _ _ => True) (fun _ => 0) := by
  intro H enc w held fuel cs ys h _
  exact ⟨(), trivial, by simp⟩
theorem opf_cons {f : Field} {fs : List Field} {n : Nat} {α β : Type} {R : RepT α} {S : RepT β} {b : α → Nat} {c : β → Nat} (hn : P.cellsOf f.type = n) (he : Opens P f.type α R b) (hf : OpensF P fs β S c) :
    OpensF P (f :: fs) (α × β) (fun w cs x => R w ((cs.drop f.offset).take n) x.1 ∧ S w cs x.2) (fun x => b x.1 + c x.2) := by
  intro H enc w held fuel cs ys h hw
  rw [List.mapM_cons] at h
  cases h1 : DataW.trod enc P w 0 (fun _ => true) held fuel f.type ((cs.drop f.offset).take (P.cellsOf f.type)) with
  | none => simp [h1] at h
  | some y =>
    simp only [h1] at h
    cases h2 : (fs.mapM fun f => DataW.trod enc P w 0 (fun _ => true) held fuel f.type ((cs.drop f.offset).take (P.cellsOf f.type))) with
    | none => simp [h2] at h
    | some zs =>
      simp [h2] at h
      subst h
      simp only [List.map_cons, DataW.weightsEach, List.all_append, Bool.and_eq_true] at hw
      obtain ⟨a, k1, k2⟩ := he enc w held fuel _ y h1 hw.1
      obtain ⟨a', k3, k4⟩ := hf enc w held fuel cs zs h2 hw.2
      rw [hn] at k1
      exact ⟨(a, a'), ⟨k1, k3⟩, by simp only [List.map_cons, Rows.uptoBulkAll]; omega⟩
theorem op_struct {t : TypeId} {fs : Array Field} {n : Nat} {α : Type} {R : RepT α} {b : α → Nat} (hu : P.underlying t = some (.struct fs)) (hn : P.cellsOf t = n) (hf : OpensF P fs.toList α R b) : Opens P t α (fun w cs x => cs.length = n ∧ R w cs x) (fun x => b x + 1) := by
  intro H enc w held fuel cs x h hw
  obtain ⟨f, rfl, h⟩ := step_of h
  rw [DataW.trod_step] at h
  unfold DataW.trodStep at h
  simp only [hu, hn] at h
  simp only [Option.ite_none_right_eq_some, Option.map_eq_some_iff] at h
  obtain ⟨hc, ys, hy, rfl⟩ := h
  have hf' : (fs.toList.mapM fun f' => DataW.trod enc P w 0 (fun _ => true) held f f'.type ((cs.drop f'.offset).take (P.cellsOf f'.type))) = some ys := by simpa using hy
  simp only [DataW.weights, hu] at hw
  obtain ⟨a, k1, k2⟩ := hf enc w held f cs ys hf' hw
  exact ⟨a, ⟨hc, k1⟩, by simp only [Rows.uptoBulk]; omega⟩
theorem Opens.mono {t : TypeId} {α : Type} {β : Type} {R : RepT α} {S : RepT β} {b : α → Nat} {c : β → Nat} (h : Opens P t α R b) (f : ∀ w cs a, R w cs a → ∃ x, S w cs x ∧ c x ≤ b a) : Opens P t β S c := by
  intro H enc w held fuel cs x hx hw
  obtain ⟨a, h1, h2⟩ := h enc w held fuel cs x hx hw
  obtain ⟨y, h3, h4⟩ := f w cs a h1
  exact ⟨y, h3, Nat.le_trans h4 h2⟩
end
/-- an argument of one cell -/
theorem open_one {P : Program} {t : TypeId} {α : Type} {R : RepT α} {b : α → Nat} (h : Opens P t α R b) (hs : isSc P t = true) (h1 : ∀ w cs a, R w cs a → ∃ v, cs = [v])
    {H : Type} {enc : TypeId × Value → H} {W : World} {held : Bool} {r : Reach} {b0 : Nat} {v : Value} {d : DataW H} {ps : List MemPlace}
    (hv : Value.okWide P W r b0 t v) (hd : DataW.Trod enc P W 0 (fun _ => true) held t v d ps) (hw : (d.weights P t).all (· ≤ reachBytes) = true) : ∃ a, R W [v] a ∧ b a ≤ Rows.uptoBulk d := by
  obtain ⟨fuel, hf⟩ := hd
  obtain ⟨a, h2, h3⟩ := h enc W held fuel _ _ hf hw
  refine ⟨a, ?_, h3⟩
  suffices v.cells = #[v] by rw [this] at h2; exact h2
  cases v with
  | agg cs =>
    exfalso
    unfold isSc at hs
    unfold Value.okWide at hv
    cases hu : P.underlying t with
    | none => simp [hu] at hs
    | some u => cases u <;> simp [hu] at hs <;> simp [hu, Cell.okWide, Cell.ok] at hv
  | _ => rfl
end Sh
end Go.Proofs.Ytiajdaagamhbnaa

namespace Go.Proofs.Ytiajdaagamhbnaa
namespace Sh
open RowKit
section
variable {P : Program} {w : World} {Q : Value → World → Prop} {K : Value → M} {K0 : M} {B : Nat}
theorem smr_run {s : Sem Value} {v : Value} (h : s.run P w = .ok v w) : smr P s K w Q = K v w Q := by
  rw [smr_e, h]
  apply propext
  constructor
  · rintro ⟨v', h1, h2⟩; cases h1; exact h2
  · intro h2; exact ⟨v, rfl, h2⟩
theorem pn_ne {t : TypeId} {p : Option Addr} {x y : Operand} (h : P.underlying t = some (.pointer (P.pointee t))) :
    smr P (do eqGuard .neq t x y (.pointer p) (.pointer none); binOp .neq t (.pointer p) (.pointer none)) K w Q = K (.bool (!p.isNone)) w Q :=
  smr_run (by simp [eqGuard, run_neq_pointer_nil w t p h])
/-- the first of a slice -/
theorem sll_S {α : Type} {n : Nat} {R : RepT α} {v : Value} {l : List α} {k : Nat} {j : IntKind} (h : rdS n R w v l) (hk : k ≤ l.length) (kk : ∀ v', rdS n R w v' (l.take k) → K v' w Q) : sll n v none (some (.int j (k : Int))) K w Q := by
  rcases h with ⟨rfl, rfl⟩ | ⟨a, c, rfl, hcc, h⟩
  · have : k = 0 := by simpa using hk
    subst this
    refine ⟨none, 0, 0, 0, 0, rfl, ⟨_, _, rfl, by omega, by omega, by omega⟩, rfl, ?_⟩
    exact kk _ (.inl ⟨by simp, by simp⟩)
  · refine ⟨some a, l.length, c, 0, k, rfl, ⟨_, _, rfl, by omega, by omega, by omega⟩, rfl, ?_⟩
    have ev : (if c = 0 then some a else (some a).map (·.add (0 * n))) = some a := by split <;> simp [add_zero']
    rw [ev, Nat.sub_zero, Nat.sub_zero]
    refine kk _ (.inr ⟨a, c, by rw [List.length_take, Nat.min_eq_left hk], by rw [List.length_take]; omega, fun i hi => ?_⟩)
    have hi' : i < l.length := by simp at hi; omega
    obtain ⟨es, h1, h2, h3⟩ := h i hi'
    exact ⟨es, h1, h2, by simpa using h3⟩
end
end Sh
end Go.Proofs.Ytiajdaagamhbnaa

namespace Go.Proofs.Ytiajdaagamhbnaa
namespace Sh
open RowKit Go.MapKept
/-- a map's type, its keys' -/
structure KeyK (P : Program) (t kt et : TypeId) (d : TypeDesc) {α : Type} (kv : α → Value) : Prop where
  hm : P.underlying t = some (.map kt et)
  hd : P.underlying kt = some d
  key : ∀ a, IsKey d (kv a)
  inj : ∀ a b, kv a = kv b → a = b
def MapAt {α : Type} (kv : α → Value) (w : World) (b : Nat) (L : List (α × Value)) : Prop :=
  ∃ es clock, w.heap[b]? = some (.map es clock) ∧ Stamped es clock ∧ es.toList.map (fun e => (e.key, e.val)) = L.map (fun p => (kv p.1, p.2))
def put {α : Type} [DecidableEq α] (L : List (α × Value)) (k : α) (v : Value) : List (α × Value) :=
  if k ∈ L.map (·.1) then L.map (fun p => if p.1 = k then (k, v) else p) else L ++ [(k, v)]
def lk {α : Type} [DecidableEq α] (L : List (α × Value)) (k : α) : Option Value := (L.find? (fun p => decide (p.1 = k))).map (·.2)
theorem blk_sb {w : World} {b : Nat} {o o' : Obj} (h : w.heap[b]? = some o) : (sb w b o').heap[b]? = some o' := by simp [sb, blk_lt h]
theorem Upd_sb {w : World} {b : Nat} {o : Obj} : Upd b w (sb w b o) := ⟨rfl, rfl, rfl, by simp [sb], fun k hk => by simp [sb, Array.getElem?_setIfInBounds_ne (Ne.symm hk)]⟩
section
variable {α : Type} [DecidableEq α] {kv : α → Value} {P : Program} {t kt et : TypeId} {d : TypeDesc} {w : World} {b : Nat} {L : List (α × Value)} {K : Value → M} {K0 : M} {Q : Value → World → Prop}
omit [DecidableEq α] in
theorem MapAt.stay {w' : World} (h : MapAt kv w b L) (hb : w'.heap[b]? = w.heap[b]?) : MapAt kv w' b L := by
  obtain ⟨es, clock, h1, h2, h3⟩ := h
  exact ⟨es, clock, by rw [hb]; exact h1, h2, h3⟩
omit [DecidableEq α] in
theorem MapAt.lt (h : MapAt kv w b L) : b < w.heap.size := by obtain ⟨es, clock, h1, _⟩ := h; exact blk_lt h1
omit [DecidableEq α] in
theorem MapAt.below {w' : World} (h : MapAt kv w b L) (hb : Below w.heap.size w w') : MapAt kv w' b L := h.stay (hb.block b h.lt)
omit [DecidableEq α] in
theorem MapAt.chg {w' : World} {p : Nat} (h : MapAt kv w b L) (hc : Chg p w w') (hp : b ≠ p) : MapAt kv w' b L := h.stay (hc.block b h.lt hp)
omit [DecidableEq α] in
theorem MapAt.upd {w' : World} {p : Nat} (h : MapAt kv w b L) (hc : Upd p w w') (hp : b ≠ p) : MapAt kv w' b L := h.stay (hc.block b hp)
omit [DecidableEq α] in
theorem MapAt.nodup (h : MapAt kv w b L) : (L.map (·.1)).Nodup := by
  obtain ⟨es, clock, h1, ⟨_, _, h2⟩, h3⟩ := h
  have e : es.toList.map (·.key) = (L.map (·.1)).map kv := by
    have := congrArg (List.map Prod.fst) h3
    simpa [List.map_map, Function.comp_def] using this
  rw [e] at h2
  exact List.Pairwise.of_map kv (fun a b hab e => hab (by rw [e])) h2
omit [DecidableEq α] in
theorem isKeys {es : Array MapEntry} (KK : KeyK P t kt et d kv) (h : es.toList.map (fun e => (e.key, e.val)) = L.map (fun p => (kv p.1, p.2))) : ∀ x ∈ es.toList, IsKey d x.key := by
  intro x hx
  have : (x.key, x.val) ∈ L.map (fun p => (kv p.1, p.2)) := h ▸ List.mem_map.2 ⟨x, hx, rfl⟩
  obtain ⟨p, _, e⟩ := List.mem_map.1 this
  rw [← (Prod.mk.inj e).1]
  exact KK.key _
omit [DecidableEq α] in
theorem ent_at {es : Array MapEntry} (h : es.toList.map (fun e => (e.key, e.val)) = L.map (fun p => (kv p.1, p.2))) (i : Nat) :
    (es.toList[i]?).map (fun e => (e.key, e.val)) = (L[i]?).map (fun p => (kv p.1, p.2)) := by
  rw [← List.getElem?_map, ← List.getElem?_map, h]
theorem lk_none {k : α} : lk L k = none ↔ ∀ p ∈ L, p.1 ≠ k := by simp [lk]
theorem lk_cons {a k : α} {v : Value} : lk ((a, v) :: L) k = if a = k then some v else lk L k := by
  unfold lk
  by_cases h : a = k <;> simp [h]
theorem mem_lk (hn : (L.map (·.1)).Nodup) {k : α} {v : Value} (h : (k, v) ∈ L) : lk L k = some v := by
  induction L with
  | nil => cases h
  | cons p L ih =>
    obtain ⟨a, u⟩ := p
    rw [lk_cons]
    simp only [List.map_cons, List.nodup_cons] at hn
    rcases List.mem_cons.1 h with e | h
    · cases e; simp
    · have : a ≠ k := fun e => hn.1 (e ▸ List.mem_map.2 ⟨_, h, rfl⟩)
      rw [if_neg this]
      exact ih hn.2 h
/-- what a search finds -/
theorem found (KK : KeyK P t kt et d kv) {es : Array MapEntry} {clock : Nat} (hs : Stamped es clock) (h : es.toList.map (fun e => (e.key, e.val)) = L.map (fun p => (kv p.1, p.2))) (k : α) :
    (lk L k = none ∧ Instr.findNow d (kv k) es.toList 0 = some none ∧ ∀ x ∈ es.toList, x.key ≠ kv k) ∨
    ∃ (i : Nat) (e : MapEntry) (v : Value), lk L k = some v ∧ Instr.findNow d (kv k) es.toList 0 = some (some (i, v)) ∧ es[i]? = some e ∧ e.key = kv k ∧ e.val = v ∧ L[i]? = some (k, v) := by
  have hn : (L.map (·.1)).Nodup := MapAt.nodup (w := { (default : World) with heap := #[.map es clock] }) (b := 0) ⟨es, clock, rfl, hs, h⟩
  rcases findNow_spec (KK.key k) es.toList 0 (isKeys KK h) with ⟨h1, h2⟩ | ⟨j, e, h1, h2, h3⟩
  · refine .inl ⟨lk_none.2 fun p hp e => ?_, h1, h2⟩
    have : (kv p.1, p.2) ∈ es.toList.map (fun e => (e.key, e.val)) := h ▸ List.mem_map.2 ⟨p, hp, rfl⟩
    obtain ⟨x, hx, e2⟩ := List.mem_map.1 this
    exact h2 x hx (by rw [(Prod.mk.inj e2).1, e])
  · right
    have hj := ent_at h j
    rw [h2] at hj
    cases hL : L[j]? with
    | none => simp [hL] at hj
    | some p =>
      simp [hL] at hj
      have hk : p.1 = k := KK.inj _ _ (by rw [← hj.1, h3])
      have hm : (k, p.2) ∈ L := by rw [← hk]; exact List.mem_of_getElem? hL
      refine ⟨j, e, p.2, mem_lk hn hm, ?_, by simpa using h2, h3, hj.2, by rw [← hk]; exact hL⟩
      rw [h1, hj.2, Nat.zero_add]
theorem look_v (KK : KeyK P t kt et d kv) (h : MapAt kv w b L) {z : Value} (hz : zeroIs P et z) (k : α) :
    smr P (Instr.lookup t (.map (some b)) (kv k) false) K w Q = K ((lk L k).getD z) w Q := by
  obtain ⟨es, clock, h1, h2, h3⟩ := h
  refine smr_run ?_
  rcases found KK h2 h3 k with ⟨e1, e2, _⟩ | ⟨i, e, v, e1, e2, _, _, _, _⟩
  · simp [Instr.lookup, run_underlying KK.hm, Go.MapKept.run_getObj_map h1, Go.MapKept.run_checkKey KK.hd (KK.key k), Go.MapKept.run_findKey KK.hd e2, e1, Result.andThen, zero_run hz]
  · simp [Instr.lookup, run_underlying KK.hm, Go.MapKept.run_getObj_map h1, Go.MapKept.run_checkKey KK.hd (KK.key k), Go.MapKept.run_findKey KK.hd e2, e1, Result.andThen]
theorem put_at {i : Nat} {k : α} {u v : Value} (hn : (L.map (·.1)).Nodup) (h : L[i]? = some (k, u)) : put L k v = L.set i (k, v) := by
  unfold put
  rw [if_pos (List.mem_map.2 ⟨_, List.mem_of_getElem? h, rfl⟩)]
  apply List.ext_getElem?
  intro j
  rw [List.getElem?_map, List.getElem?_set]
  have hi : i < L.length := by
    rcases Nat.lt_or_ge i L.length with c | c
    · exact c
    · simp [List.getElem?_eq_none c] at h
  by_cases hij : i = j
  · subst hij
    rw [h]
    simp [hi]
  · simp only [hij, if_false]
    cases hj : L[j]? with
    | none => rfl
    | some p =>
      simp only [Option.map_some]
      have : p.1 ≠ k := by
        intro e
        have h1 : (L.map (·.1))[i]? = some k := by simp [h]
        have h2 : (L.map (·.1))[j]? = some k := by simp [hj, e]
        exact hij ((List.getElem?_inj (by simpa using hi) hn).1 (by rw [h1, h2]))
      simp [this]
/-- a key's value set -/
theorem upd_map (KK : KeyK P t kt et d kv) (h : MapAt kv w b L) (k : α) (v : Value) (kk : ∀ w', MapAt kv w' b (put L k v) → Upd b w w' → K0 w' Q) : smu P (Instr.mapUpdate t (.map (some b)) (kv k) v) K0 w Q := by
  have hn := h.nodup
  obtain ⟨es, clock, h1, h2, h3⟩ := h
  rcases found KK h2 h3 k with ⟨e1, e2, e3⟩ | ⟨i, e, u, e1, e2, e3, e4, e5, e6⟩
  · refine ⟨sb w b (.map (es.push { key := kv k, val := v, born := clock }) (clock + 1)), ?_, kk _ ⟨_, _, blk_sb h1, stamped_push h2 e3, ?_⟩ Upd_sb⟩
    · simp [Instr.mapUpdate, run_underlying KK.hm, Go.MapKept.run_getObj_map h1, Go.MapKept.run_checkKey KK.hd (KK.key k), Go.MapKept.run_findKey KK.hd e2, Go.MapKept.run_setObj_map _ h1, Result.andThen, sb]
    · have : ¬ k ∈ L.map (·.1) := by
        intro hm
        obtain ⟨p, hp, e⟩ := List.mem_map.1 hm
        exact lk_none.1 e1 p hp e
      simp [put, this, h3]
  · refine ⟨sb w b (.map (es.modify i fun x => { x with key := kv k, val := v }) clock), ?_, kk _ ⟨_, _, blk_sb h1, ?_, ?_⟩ Upd_sb⟩
    · simp [Instr.mapUpdate, run_underlying KK.hm, Go.MapKept.run_getObj_map h1, Go.MapKept.run_checkKey KK.hd (KK.key k), Go.MapKept.run_findKey KK.hd e2, e3, e4, Go.MapKept.run_keyThatStays (KK.key k), Go.MapKept.run_setObj_map _ h1, Result.andThen, sb]
    · exact stamped_modify h2 _ _ (fun _ _ => rfl) (fun e' _ he' => by rw [e3] at he'; cases he'; exact e4.symm)
    · rw [put_at hn e6]
      apply List.ext_getElem?
      intro j
      have hj := ent_at h3 j
      have hi := ent_at h3 i
      simp only [List.getElem?_map, Array.getElem?_toList, Array.getElem?_modify, List.getElem?_set] at hj ⊢
      by_cases hij : i = j
      · subst hij
        have hlt : i < L.length := by
          rcases Nat.lt_or_ge i L.length with c | c
          · exact c
          · simp [List.getElem?_eq_none c] at e6
        simp [e3, hlt]
      · simp only [hij, if_false]
        exact hj
omit [DecidableEq α] in
/-- a new map -/
theorem mm_map (kk : ∀ w', MapAt kv w' w.heap.size [] → Below w.heap.size w w' → K (.map (some w.heap.size)) w' Q) : mm K w Q :=
  kk _ ⟨#[], 0, blk_psh_new, stamped_empty _, rfl⟩ (b_psh _ _)
/-- an iterator over a map: what has not yet been told -/
def RangeAt {α : Type} (kv : α → Value) (w : World) (r b : Nat) (L rest : List (α × Value)) : Prop :=
  ∃ es clock since seen c0, w.heap[b]? = some (.map es clock) ∧ w.heap[r]? = some (.mapIter (some b) since seen c0) ∧ Stamped es clock ∧ (∀ x ∈ es.toList, x.born < since) ∧ since ≤ c0 ∧ since ≤ clock ∧
    es.toList.map (fun e => (e.key, e.val)) = L.map (fun p => (kv p.1, p.2)) ∧ (leftOf es seen).toList.map (fun e => (e.key, e.val)) = rest.map (fun p => (kv p.1, p.2))
omit [DecidableEq α] in
theorem RangeAt.map {r : Nat} {rest : List (α × Value)} (h : RangeAt kv w r b L rest) : MapAt kv w b L := by
  obtain ⟨es, clock, since, seen, c0, h1, h2, h3, h4, h5, h6, h7, h8⟩ := h
  exact ⟨es, clock, h1, h3, h7⟩
omit [DecidableEq α] in
theorem RangeAt.stay {r : Nat} {rest : List (α × Value)} {w' : World} (h : RangeAt kv w r b L rest) (hb : w'.heap[b]? = w.heap[b]?) (hr : w'.heap[r]? = w.heap[r]?) : RangeAt kv w' r b L rest := by
  obtain ⟨es, clock, since, seen, c0, h1, h2, h3⟩ := h
  exact ⟨es, clock, since, seen, c0, by rw [hb]; exact h1, by rw [hr]; exact h2, h3⟩
omit [DecidableEq α] in
theorem RangeAt.lt {r : Nat} {rest : List (α × Value)} (h : RangeAt kv w r b L rest) : b < w.heap.size ∧ r < w.heap.size := by
  obtain ⟨es, clock, since, seen, c0, h1, h2, _⟩ := h
  exact ⟨blk_lt h1, blk_lt h2⟩
omit [DecidableEq α] in
theorem RangeAt.below {r : Nat} {rest : List (α × Value)} {w' : World} (h : RangeAt kv w r b L rest) (hb : Below w.heap.size w w') : RangeAt kv w' r b L rest := h.stay (hb.block _ h.lt.1) (hb.block _ h.lt.2)
omit [DecidableEq α] in
theorem RangeAt.chg {r p : Nat} {rest : List (α × Value)} {w' : World} (h : RangeAt kv w r b L rest) (hb : Chg p w w') (h1 : b ≠ p) (h2 : r ≠ p) : RangeAt kv w' r b L rest := h.stay (hb.block _ h.lt.1 h1) (hb.block _ h.lt.2 h2)
end
end Sh
end Go.Proofs.Ytiajdaagamhbnaa

namespace Go.Proofs.Ytiajdaagamhbnaa
namespace Sh
open RowKit
/-- a function that may be entered -/
def canEnter (P : Program) (f : FuncId) : Bool := match P.funcs[f]? with | some fn => fn.body.isSome && !(fn.name == "runtime.NumGoroutine") | none => false
section
variable {P : Program} {w : World} {Q : Value → World → Prop} {K : Value → M} {t e : TypeId} {name : String} {f : FuncId} {args : Array Value} {v : Value}
theorem run_callFunc (h : canEnter P f = true) : (callFunc f args).run P w = .ok (.enter f args) w := by
  unfold canEnter at h
  cases hf : P.funcs[f]? with
  | none => simp [hf] at h
  | some fn =>
    simp [hf] at h
    obtain ⟨h1, h2⟩ := h
    obtain ⟨b, hb⟩ := Option.isSome_iff_exists.1 h1
    simp [callFunc, hf, hb, h2]
end
end Sh
end Go.Proofs.Ytiajdaagamhbnaa

namespace Go.Proofs.Ytiajdaagamhbnaa
namespace Sh
open RowKit
/-- of the old blocks none but those of S has changed -/
structure ChgS (S : Nat → Prop) (w w' : World) : Prop where
  os : w'.os = w.os
  tape : w'.tape = w.tape
  output : w'.output = w.output
  size : w.heap.size ≤ w'.heap.size
  block : ∀ k, k < w.heap.size → ¬ S k → w'.heap[k]? = w.heap[k]?
section
variable {S T : Nat → Prop} {w w' w2 : World}
theorem ChgS.refl (S : Nat → Prop) (w : World) : ChgS S w w := ⟨rfl, rfl, rfl, Nat.le_refl _, fun _ _ _ => rfl⟩
theorem ChgS.mono (h : ChgS S w w') (hs : ∀ k, S k → T k) : ChgS T w w' := ⟨h.os, h.tape, h.output, h.size, fun k a b => h.block k a (fun c => b (hs k c))⟩
theorem ChgS.trans (h : ChgS S w w') (k : ChgS T w' w2) (hs : ∀ x, x < w.heap.size → T x → S x) : ChgS S w w2 :=
  ⟨k.os.trans h.os, k.tape.trans h.tape, k.output.trans h.output, Nat.le_trans h.size k.size, fun i hi hp => (k.block i (Nat.lt_of_lt_of_le hi h.size) (fun c => hp (hs i hi c))).trans (h.block i hi hp)⟩
theorem ChgS.of_below (h : Below w.heap.size w w') : ChgS S w w' := ⟨h.os, h.tape, h.output, h.size, fun k hk _ => h.block k hk⟩
theorem ChgS.of_chg {p : Nat} (h : Chg p w w') (hp : S p) : ChgS S w w' := ⟨h.os, h.tape, h.output, h.size, fun k hl hk => h.block k hl (fun e => hk (e ▸ hp))⟩
theorem ChgS.below {B : Nat} (h : ChgS S w w') (hB : ∀ k, S k → B ≤ k) (hw : B ≤ w.heap.size) : Below B w w' := ⟨h.os, h.tape, h.output, h.size, fun k hk => h.block k (by omega) (fun c => by have := hB k c; omega)⟩
theorem ChgS.keep {q : Nat} {o : Obj} (h : ChgS S w w') (hq : w.heap[q]? = some o) (hne : ¬ S q) : w'.heap[q]? = some o := by rw [h.block q (blk_lt hq) hne]; exact hq
theorem ChgS.drw (h : ChgS S w w') : ChgS S w (drw w') := ⟨h.os, h.tape, h.output, h.size, h.block⟩
theorem bs {B : Nat} {w0 : World} (b : Below B w0 w) (hB : ∀ k, S k → B ≤ k) (hw : B ≤ w.heap.size) (h : ChgS S w w') : Below B w0 w' := b.trans (h.below hB hw)
theorem ChgS.grown {w' : World} {row : Option Nat} (hg : w.grownBy w' row) (hr : ∀ k, row = some k → S k) : ChgS S w w' := by
  refine ⟨hg.os, hg.tape, hg.output, hg.size, fun k hk hs => hg.block k hk (fun e => hs (hr k e.symm))⟩
end
section
variable {P : Program} {w : World} {Q : Value → World → Prop} {K : Value → M} {K0 : M} {B : Nat} {e : TypeId} {v : Value} {xs : List Value}
theorem ia_at {g l c i : Nat} {k : IntKind} (hi : i < l) : ia 1 (.slice (some ⟨g, 0, none⟩) l c) (.int k (i : Int)) K w Q = K (.pointer (some ⟨g, i, none⟩)) w Q := by
  rw [ia_e, Int.toNat_natCast, Nat.mul_one, add_lit, Nat.zero_add]
  apply propext
  constructor
  · rintro ⟨_, _, h⟩; exact h
  · intro h; exact ⟨by omega, by omega, h⟩
end
end Sh
end Go.Proofs.Ytiajdaagamhbnaa

namespace Go.Proofs.Ytiajdaagamhbnaa
namespace Sh
open RowKit
/-- an element's cells told by a function of it -/
def eR {α : Type} (enc : α → List Value) : RepT α := fun _ cs x => cs = enc x
theorem eR_st {α : Type} {enc : α → List Value} : Stable (eR enc) := fun _ _ _ _ _ h => h
theorem flat_len {α : Type} {enc : α → List Value} {n : Nat} (hn : ∀ x, (enc x).length = n) : ∀ l : List α, (l.flatMap enc).length = l.length * n
  | [] => by simp
  | x :: l => by rw [List.flatMap_cons, List.length_append, hn, flat_len hn l, List.length_cons, Nat.add_mul]; omega
theorem flat_get {α : Type} {enc : α → List Value} {n : Nat} (hn : ∀ x, (enc x).length = n) : ∀ (l : List α) (i j : Nat) (hi : i < l.length), j < n → (l.flatMap enc)[i * n + j]? = (enc l[i])[j]?
  | x :: l, 0, j, hi, hj => by
    rw [List.flatMap_cons, Nat.zero_mul, Nat.zero_add, List.getElem?_append_left (by rw [hn]; exact hj)]; rfl
  | x :: l, i + 1, j, hi, hj => by
    rw [List.flatMap_cons, List.getElem?_append_right (by rw [hn, Nat.add_mul]; omega), hn]
    have e : (i + 1) * n + j - n = i * n + j := by rw [Nat.add_mul]; omega
    rw [e, flat_get hn l i j (by simpa using hi) hj]
    rfl
/-- the elements, the call's own -/
def ownE {α : Type} (B : Nat) (e : TypeId) (n : Nat) (enc : α → List Value) (w : World) (v : Value) (l : List α) : Prop := w.ownsRow B e n v l.length (l.flatMap enc)
section
variable {α : Type} {enc : α → List Value} {n : Nat} {P : Program} {w : World} {Q : Value → World → Prop} {K : Value → M} {B : Nat} {e : TypeId} {v : Value} {l : List α}
theorem ownE_nil : ownE B e n enc w (.slice none 0 0) [] := World.ownsRow_nil w B e n
theorem ownE_below {w' : World} (h : ownE B e n enc w v l) (hb : Below w.heap.size w w') : ownE B e n enc w' v l := by
  obtain ⟨h1, h2⟩ := h
  refine ⟨h1, ?_⟩
  rcases h2 with h2 | ⟨g, cap, cur, h3, hg, hb', rest⟩
  · exact .inl h2
  · exact .inr ⟨g, cap, cur, h3, hg, stay hb hb', rest⟩
theorem ownE_weak {B' : Nat} (h : ownE B e n enc w v l) (hB : B' ≤ B) : ownE B' e n enc w v l := by
  obtain ⟨h1, h2⟩ := h
  refine ⟨h1, ?_⟩
  rcases h2 with h2 | ⟨g, cap, cur, h3, hg, rest⟩
  · exact .inl h2
  · exact .inr ⟨g, cap, cur, h3, Nat.le_trans hB hg, rest⟩
theorem ownE_blk (h : ownE B e n enc w v l) : ∀ g, v.ownBlock = some g → B ≤ g ∧ g < w.heap.size ∧ ∃ cur, w.heap[g]? = some (.cells cur e (0, 0)) := by
  intro g hg
  obtain ⟨h1, h2⟩ := h
  rcases h2 with ⟨rfl, _⟩ | ⟨g', cap, cur, rfl, hg', hb', _⟩
  · cases hg
  · cases hg; exact ⟨hg', blk_lt hb', _, hb'⟩
theorem ownE_rd (hn : ∀ x, (enc x).length = n) (hn0 : 0 < n) (h : ownE B e n enc w v l) : rdS n (eR enc) w v l := by
  obtain ⟨h1, h2⟩ := h
  rcases h2 with ⟨rfl, h0⟩ | ⟨g, cap, cur, rfl, hg, hb, hnc, hm, hs, ht⟩
  · exact .inl ⟨rfl, List.length_eq_zero_iff.1 h0⟩
  · refine .inr ⟨⟨g, 0, none⟩, cap, rfl, hnc, fun i hi => ⟨enc l[i], hn _, fun j u hj => ?_, rfl⟩⟩
    have hjn : j < n := by
      rcases Nat.lt_or_ge j n with c | c
      · exact c
      · rw [List.getElem?_eq_none (by rw [hn]; exact c)] at hj; cases hj
    rw [add_lit, add_lit, Nat.zero_add, cell_of_blk hb]
    have h3 : (cur.toList.take (l.length * n))[i * n + j]? = (l.flatMap enc)[i * n + j]? := by rw [ht]
    have hlt : i * n + j < l.length * n := by
      have : (i + 1) * n ≤ l.length * n := Nat.mul_le_mul_right _ hi
      rw [Nat.add_mul] at this; omega
    rw [List.getElem?_take_of_lt hlt, flat_get hn l i j hi hjn, hj] at h3
    simpa using h3
/-- a row of several-cell elements, as cells in a line -/
theorem rdS_flat (hn : ∀ x, (enc x).length = n) (h : rdS n (eR enc) w v l) : (v = .slice none 0 0 ∧ l = []) ∨ ∃ a c, v = .slice (some a) l.length c ∧ ∀ j u, (l.flatMap enc)[j]? = some u → w.cell? (a.add j) = some u := by
  rcases h with h | ⟨a, c, rfl, hcc, h⟩
  · exact .inl h
  · refine .inr ⟨a, c, rfl, fun j u hj => ?_⟩
    have hjl : j < (l.flatMap enc).length := by
      rcases Nat.lt_or_ge j (l.flatMap enc).length with c | c
      · exact c
      · rw [List.getElem?_eq_none c] at hj; cases hj
    rw [flat_len hn] at hjl
    have hn0 : 0 < n := by
      rcases Nat.eq_zero_or_pos n with c | c
      · rw [c, Nat.mul_zero] at hjl; omega
      · exact c
    have hi : j / n < l.length := Nat.div_lt_of_lt_mul (by rw [Nat.mul_comm]; exact hjl)
    have hr : j % n < n := Nat.mod_lt _ hn0
    have e : j = j / n * n + j % n := by rw [Nat.mul_comm]; exact (Nat.div_add_mod j n).symm
    obtain ⟨es, h1, h2, h3⟩ := h (j / n) hi
    have h3 : es = enc l[j / n] := h3
    rw [e, flat_get hn l _ _ hi hr, ← h3] at hj
    have h4 := h2 _ _ hj
    have e2 : (a.add (j / n * n)).add (j % n) = a.add j := by
      conv => rhs; rw [e]
      unfold Addr.add
      by_cases z1 : j / n * n = 0
      · simp [z1]
      · by_cases z2 : j % n = 0
        · simp [z1, z2]
        · have : ¬ (j / n * n + j % n = 0) := by omega
          simp [z1, z2, this, Nat.add_assoc]
    rw [← e2]; exact h4
/-- elements behind a row of the call's own -/
theorem ap_E {t ty : TypeId} {z u : Value} {b : Nat} {m : List α} (ht : slT P t e z n b) (hz : z.cells.size = n) (hn0 : 0 < n) (hn : ∀ x, (enc x).length = n) (h1 : ∀ x, ∀ c ∈ enc x, c.oneCell' = true) (ho : ownE B e n enc w v l) (hr : rdS n (eR enc) w u m)
    (h63 : l.length + m.length ≤ maxLen) (hbytes : (l.length + m.length) * b ≤ 140737488355328) (hB : B ≤ w.heap.size)
    (kk : ∀ v' w', ownE B e n enc w' v' (l ++ m) → w.grownBy w' v.ownBlock → (v'.ownBlock = v.ownBlock ∨ v'.ownBlock = some w.heap.size) → K v' w' Q) : sm P (Builtin.append_ #[t, t] ty #[v, u]) K w Q := by
  obtain ⟨i, g1, g2, g3, g4, g5⟩ := slT_info ht
  rcases rdS_flat hn hr with ⟨rfl, rfl⟩ | ⟨a, c, rfl, hrf⟩
  · refine ⟨v, w, run_append_owned_none w B t ty e i n g1 g2 v l.length (l.flatMap enc) ho, kk v w (by rw [List.append_nil]; exact ho) (World.grownBy.refl w _) (.inl rfl)⟩
  · obtain ⟨v', w', hrun, ho', hg, _, hf⟩ := run_append_own_at (P := P) w B t ty e i z n b g1 g2 g3 g4 g5 hz hn0 v l.length (l.flatMap enc) ho a m.length c (m.flatMap enc) (flat_len hn m) hrf (by
        intro x hx
        obtain ⟨y, _, hy⟩ := List.mem_flatMap.1 hx
        exact h1 y x hy) h63 hbytes hB
    refine ⟨v', w', hrun, kk v' w' ?_ hg hf⟩
    unfold ownE
    rw [List.length_append, List.flatMap_append]
    exact ho'
theorem fold_set : ∀ (cs : List Value) (k : Nat) (base : Array Value), k + cs.length ≤ base.size → ((cs.zipIdx k).foldl (fun a p => a.setIfInBounds (0 + p.2) p.1) base).toList = base.toList.take k ++ cs ++ base.toList.drop (k + cs.length) := by
  intro cs
  induction cs with
  | nil => intro k base h; simp
  | cons c cs ih =>
    intro k base h
    simp only [List.length_cons] at h
    rw [List.zipIdx_cons, List.foldl_cons, ih (k + 1) _ (by simp; omega)]
    simp only [Nat.zero_add, Array.toList_setIfInBounds, List.length_cons]
    have hlt : k < base.toList.length := by simp; omega
    have q1 : (base.toList.set k c).take (k + 1) = base.toList.take k ++ [c] := by
      rw [List.take_succ_eq_append_getElem (by simpa using hlt)]
      simp [List.take_set]
      rw [List.set_eq_of_length_le (by simp; omega)]
    have q2 : (base.toList.set k c).drop (k + 1 + cs.length) = base.toList.drop (k + (cs.length + 1)) := by
      rw [List.drop_set_of_lt (by omega)]; congr 1; omega
    rw [q1, q2]; simp
/-- []T{x}: an element of several cells -/
theorem bslE {t : TypeId} {z : Value} {b : Nat} {x : α} (ht : slT P t e z n b) (hz : z.cells.size = n) (hn0 : 0 < n) (hn24 : n ≤ 16777216) (hn : (enc x).length = n)
    (k : ∀ w', w'.heap[w.heap.size]? = some (.cells (enc x).toArray e (0, 0)) → Below w.heap.size w w' → K (.slice (some ⟨w.heap.size, 0, none⟩) 1 1) w' Q) : sm P (Instr.buildSlice t 1 #[(0, .agg (enc x).toArray)]) K w Q := by
  obtain ⟨i, h1, h2, h3, h4, h5⟩ := slT_info ht
  refine ⟨.slice (some ⟨w.heap.size, 0, none⟩) 1 1, psh w (.cells (enc x).toArray e), ?_, k _ blk_psh_new (b_psh _ _)⟩
  have hsz : (enc x).toArray.size = n := by simpa using hn
  have hne : ¬ n = 0 := by omega
  have hle : ¬ 2 ^ 24 < n := by omega
  have hfill : ∀ base : Array Value, base.size = n → Instr.fill (fun i => some (i * n, n)) base [(0, .agg (enc x).toArray)] = some (enc x).toArray := by
    intro base hb
    simp only [Instr.fill, Value.cells, Nat.zero_mul, hsz, ne_eq, not_true_eq_false, Nat.zero_add, hb, Nat.lt_irrefl, gt_iff_lt, or_self, decide_false, Bool.or_self, Bool.false_eq_true, if_false]
    congr 1
    apply Array.toList_inj.1
    have hf := fold_set (enc x) 0 base (by omega)
    rw [← Array.foldl_toList, Array.toList_zipIdx]
    simp only [Nat.zero_add] at hf ⊢
    refine hf.trans ?_
    rw [List.take_zero, List.drop_of_length_le (by simp; omega)]
    simp
  simp only [Instr.buildSlice, underlying, Sem.run_bind, run_program, Result.andThen_ok, h1, Sem.run_pure, sizeOf, typeInfo, h2, h4, Nat.one_mul, gt_iff_lt, hle, if_false, hne, zeroValue, h3]
  rw [hfill _ (by simp)]
  simp [newRow, newObj, psh, Sem.run]
theorem rd_lit {x : α} {g : Nat} (hn : (enc x).length = n) (h : w.heap[g]? = some (.cells (enc x).toArray e (0, 0))) : rdS n (eR enc) w (.slice (some ⟨g, 0, none⟩) 1 1) [x] := by
  refine .inr ⟨⟨g, 0, none⟩, 1, rfl, Nat.le_refl _, fun i hi => ?_⟩
  have : i = 0 := by simpa using hi
  subst this
  refine ⟨enc x, hn, fun j u hj => ?_, rfl⟩
  rw [Nat.zero_mul, add_zero', add_lit, Nat.zero_add, cell_of_blk h]
  simpa using hj
end
end Sh
end Go.Proofs.Ytiajdaagamhbnaa

namespace Go.Proofs.Ytiajdaagamhbnaa
namespace Srt
/-- an order that is total; ties stay -/
structure Ord {β : Type} (le : β → β → Bool) : Prop where
  total : ∀ a b, le a b = true ∨ le b a = true
  trans : ∀ a b c, le a b = true → le b c = true → le a c = true
section
variable {β : Type} {le : β → β → Bool}
/-- one is ahead of the other -/
def slt (le : β → β → Bool) (x y : β × Nat) : Prop := le x.1 y.1 = true ∧ (le y.1 x.1 = false ∨ x.2 < y.2)
theorem slt_trans (O : Ord le) {x y z : β × Nat} (h : slt le x y) (k : slt le y z) : slt le x z := by
  refine ⟨O.trans _ _ _ h.1 k.1, ?_⟩
  cases e : le z.1 x.1 with
  | false => exact .inl rfl
  | true =>
    right
    have h1 := h.2.resolve_left (by rw [O.trans _ _ _ k.1 e]; simp)
    have k1 := k.2.resolve_left (by rw [O.trans _ _ _ e h.1]; simp)
    omega
theorem slt_irr {x : β × Nat} (h : slt le x x) : False := by
  rcases h with ⟨h1, h2 | h2⟩
  · rw [h1] at h2; cases h2
  · omega
theorem slt_asym (O : Ord le) {x y : β × Nat} (h : slt le x y) (k : slt le y x) : False := slt_irr (slt_trans O h k)
theorem slt_le {x y : β × Nat} (h : le x.1 y.1 = true) (k : x.2 < y.2) : slt le x y := ⟨h, .inr k⟩
theorem slt_nle (O : Ord le) {x y : β × Nat} (h : le x.1 y.1 = false) : slt le y x := ⟨(O.total x.1 y.1).resolve_left (by rw [h]; simp), .inl h⟩
/-- sorted -/
abbrev Sd (le : β → β → Bool) (l : List (β × Nat)) : Prop := l.Pairwise (slt le)
/-- two of one thing are one -/
theorem sd_unique (O : Ord le) : ∀ {l m : List (β × Nat)}, Sd le l → Sd le m → l.Perm m → l = m := by
  intro l
  induction l with
  | nil => intro m _ _ hp; exact (List.nil_perm.1 hp).symm
  | cons x l ih =>
    intro m h1 h2 hp
    cases m with
    | nil => exact absurd hp.length_eq (by simp)
    | cons y m =>
      rw [Sd, List.pairwise_cons] at h1 h2
      have e : x = y := by
        rcases List.mem_cons.1 (hp.mem_iff.1 (List.mem_cons_self : x ∈ x :: l)) with e | hx
        · exact e
        rcases List.mem_cons.1 (hp.mem_iff.2 (List.mem_cons_self : y ∈ y :: m)) with e | hy
        · exact e.symm
        exact (slt_asym O (h2.1 x hx) (h1.1 y hy)).elim
      subst e
      rw [ih h1.2 h2.2 ((List.perm_cons x).1 hp)]
/-- all of one ahead of all of the other -/
abbrev Bf (le : β → β → Bool) (l m : List (β × Nat)) : Prop := ∀ x ∈ l, ∀ y ∈ m, slt le x y
/-- places of one below those of the other -/
abbrev Pl (l m : List (β × Nat)) : Prop := ∀ x ∈ l, ∀ y ∈ m, x.2 < y.2
theorem sd_app {l m : List (β × Nat)} : Sd le (l ++ m) ↔ Sd le l ∧ Sd le m ∧ Bf le l m := List.pairwise_append
/-- both runs' firsts ahead of both runs' lasts -/
theorem bf_last (O : Ord le) {A B : List (β × Nat)} (hA : Sd le A) (hB : Sd le B) (h : ∀ x y, A.getLast? = some x → B.head? = some y → slt le x y) : Bf le A B := by
  intro x hx y hy
  have hA0 : A ≠ [] := List.ne_nil_of_mem hx
  have hB0 : B ≠ [] := List.ne_nil_of_mem hy
  have h1 := h (A.getLast hA0) (B.head hB0) (List.getLast?_eq_some_getLast hA0) (List.head?_eq_some_head hB0)
  have h2 : x = A.getLast hA0 ∨ slt le x (A.getLast hA0) := by
    have e := List.dropLast_concat_getLast hA0
    rw [← e] at hA hx
    rcases List.mem_append.1 hx with hx | hx
    · exact .inr ((sd_app.1 hA).2.2 x hx _ (by simp))
    · left; simpa using hx
  have h3 : y = B.head hB0 ∨ slt le (B.head hB0) y := by
    cases B with
    | nil => exact absurd rfl hB0
    | cons b B =>
      rcases List.mem_cons.1 hy with e | hy
      · exact .inl e
      · exact .inr ((List.pairwise_cons.1 hB).1 y hy)
  have h4 : slt le x (B.head hB0) := by
    rcases h2 with rfl | h2
    · exact h1
    · exact slt_trans O h2 h1
  rcases h3 with rfl | h3
  · exact h4
  · exact slt_trans O h4 h3
/-- a merge of halves -/
theorem merge_halves (O : Ord le) {A1 A2 B1 B2 S1 S2 : List (β × Nat)} (hA : Sd le (A1 ++ A2)) (hB : Sd le (B1 ++ B2))
    (h1 : Bf le A1 B2) (h2 : Bf le B1 A2) (p1 : S1.Perm (A1 ++ B1)) (p2 : S2.Perm (A2 ++ B2)) (s1 : Sd le S1) (s2 : Sd le S2) :
    Sd le (S1 ++ S2) ∧ (S1 ++ S2).Perm ((A1 ++ A2) ++ (B1 ++ B2)) := by
  constructor
  · refine sd_app.2 ⟨s1, s2, fun x hx y hy => ?_⟩
    have hx := p1.mem_iff.1 hx
    have hy := p2.mem_iff.1 hy
    rcases List.mem_append.1 hx with hx | hx <;> rcases List.mem_append.1 hy with hy | hy
    · exact (sd_app.1 hA).2.2 x hx y hy
    · exact h1 x hx y hy
    · exact h2 x hx y hy
    · exact (sd_app.1 hB).2.2 x hx y hy
  · refine (p1.append p2).trans ?_
    rw [List.append_assoc, List.append_assoc]
    refine List.Perm.append_left A1 ?_
    rw [← List.append_assoc, ← List.append_assoc]
    exact List.Perm.append_right B2 List.perm_append_comm
/-- one element among a sorted run, at its place -/
theorem sd_ins {A B : List (β × Nat)} {x : β × Nat} (h : Sd le (A ++ B)) (h1 : ∀ y ∈ A, slt le y x) (h2 : ∀ y ∈ B, slt le x y) : Sd le (A ++ x :: B) := by
  obtain ⟨a, b, c⟩ := sd_app.1 h
  refine sd_app.2 ⟨a, List.pairwise_cons.2 ⟨h2, b⟩, fun u hu v hv => ?_⟩
  rcases List.mem_cons.1 hv with rfl | hv
  · exact h1 u hu
  · exact c u hu v hv
/-- numbered from a place on -/
def num (k : Nat) (l : List β) : List (β × Nat) := l.zipIdx k
theorem num_fst (k : Nat) (l : List β) : (num k l).map (·.1) = l := by unfold num; exact List.zipIdx_map_fst k l
theorem num_len (k : Nat) (l : List β) : (num k l).length = l.length := by unfold num; exact List.length_zipIdx
theorem num_mem {k : Nat} {l : List β} {x : β × Nat} (h : x ∈ num k l) : k ≤ x.2 ∧ x.2 < k + l.length := by
  unfold num at h
  obtain ⟨y, i⟩ := x
  have h1 := (List.mk_mem_zipIdx_iff_le_and_getElem?_sub (k := k)).1 h
  refine ⟨h1.1, ?_⟩
  rcases Nat.lt_or_ge (i - k) l.length with c | c
  · simp only; omega
  · rw [List.getElem?_eq_none c] at h1; cases h1.2
/-- what sorting comes to: insertion from behind -/
def ins (le : β → β → Bool) : List (β × Nat) → β × Nat → List (β × Nat)
  | [], x => [x]
  | y :: l, x => if le y.1 x.1 then y :: ins le l x else x :: y :: l
theorem ins_perm (x : β × Nat) : ∀ l : List (β × Nat), (ins le l x).Perm (x :: l)
  | [] => List.Perm.refl _
  | y :: l => by
    unfold ins
    split
    · exact ((ins_perm x l).cons y).trans (List.Perm.swap x y l)
    · exact List.Perm.refl _
theorem ins_sd (O : Ord le) {x : β × Nat} : ∀ {l : List (β × Nat)}, Sd le l → (∀ y ∈ l, y.2 < x.2) → Sd le (ins le l x)
  | [], _, _ => by simp [ins]
  | y :: l, h, hp => by
    rw [Sd, List.pairwise_cons] at h
    unfold ins
    cases e : le y.1 x.1 with
    | true =>
      rw [if_pos rfl, Sd, List.pairwise_cons]
      refine ⟨fun z hz => ?_, ins_sd O h.2 fun z hz => hp z (List.mem_cons_of_mem _ hz)⟩
      rcases List.mem_cons.1 ((ins_perm x l).mem_iff.1 hz) with rfl | hz
      · exact slt_le e (hp y List.mem_cons_self)
      · exact h.1 z hz
    | false =>
      rw [if_neg (by simp), Sd, List.pairwise_cons]
      have hxy := slt_nle O e
      refine ⟨fun z hz => ?_, List.pairwise_cons.2 h⟩
      rcases List.mem_cons.1 hz with rfl | hz
      · exact hxy
      · exact slt_trans O hxy (h.1 z hz)
/-- sorted, by insertion -/
def isort (le : β → β → Bool) (l : List (β × Nat)) : List (β × Nat) := l.foldl (ins le) []
theorem foldl_perm : ∀ (l acc : List (β × Nat)), (l.foldl (ins le) acc).Perm (acc ++ l)
  | [], acc => by simp
  | x :: l, acc => by
    rw [List.foldl_cons]
    refine (foldl_perm l _).trans ?_
    refine (List.Perm.append_right l (ins_perm x acc)).trans ?_
    exact (List.perm_middle (l₁ := acc) (l₂ := l) (a := x)).symm
theorem isort_perm (l : List (β × Nat)) : (isort le l).Perm l := by
  have := foldl_perm (le := le) l []
  simpa [isort] using this
theorem foldl_sd (O : Ord le) : ∀ (l acc : List (β × Nat)), Sd le acc → Pl acc l → l.Pairwise (fun x y => x.2 < y.2) → Sd le (l.foldl (ins le) acc)
  | [], acc, h, _, _ => h
  | x :: l, acc, h, hp, hl => by
    rw [List.foldl_cons]
    rw [List.pairwise_cons] at hl
    refine foldl_sd O l _ (ins_sd O h fun y hy => hp y hy x List.mem_cons_self) (fun y hy z hz => ?_) hl.2
    rcases List.mem_cons.1 ((ins_perm x acc).mem_iff.1 hy) with rfl | hy
    · exact hl.1 z hz
    · exact hp y hy z (List.mem_cons_of_mem _ hz)
theorem num_inc : ∀ (l : List β) (k : Nat), (num k l).Pairwise (fun x y => x.2 < y.2)
  | [], _ => by simp [num]
  | x :: l, k => by
    show ((x, k) :: num (k + 1) l).Pairwise _
    rw [List.pairwise_cons]
    exact ⟨fun y hy => by have := num_mem hy; simp only; omega, num_inc l (k + 1)⟩
theorem isort_sd (O : Ord le) (l : List β) (k : Nat) : Sd le (isort le (num k l)) := foldl_sd O _ _ List.Pairwise.nil (fun x hx => by cases hx) (num_inc l k)
/-- the one stable order -/
theorem sorted_is (O : Ord le) {l : List β} {k : Nat} {m : List (β × Nat)} (hp : m.Perm (num k l)) (hs : Sd le m) : m = isort le (num k l) :=
  sd_unique O hs (isort_sd O l k) (hp.trans (isort_perm _).symm)
/-- runs of so many, the last one shorter -/
inductive Rn (le : β → β → Bool) (bs : Nat) : List (β × Nat) → Prop
  | last {S : List (β × Nat)} : Sd le S → S.length < bs → Rn le bs S
  | cons {B L : List (β × Nat)} : Sd le B → B.length = bs → Pl B L → Rn le bs L → Rn le bs (B ++ L)
/-- runs that whatever runs may follow -/
def Pre (le : β → β → Bool) (bs : Nat) (D : List (β × Nat)) : Prop := ∀ T, Rn le bs T → Pl D T → Rn le bs (D ++ T)
theorem pl_app {l m k : List (β × Nat)} : Pl l (m ++ k) ↔ Pl l m ∧ Pl l k := by
  constructor
  · intro h; exact ⟨fun x hx y hy => h x hx y (List.mem_append_left _ hy), fun x hx y hy => h x hx y (List.mem_append_right _ hy)⟩
  · rintro ⟨h, k⟩ x hx y hy
    rcases List.mem_append.1 hy with hy | hy
    · exact h x hx y hy
    · exact k x hx y hy
theorem app_pl {l m k : List (β × Nat)} : Pl (l ++ m) k ↔ Pl l k ∧ Pl m k := by
  constructor
  · intro h; exact ⟨fun x hx y hy => h x (List.mem_append_left _ hx) y hy, fun x hx y hy => h x (List.mem_append_right _ hx) y hy⟩
  · rintro ⟨h, k⟩ x hx y hy
    rcases List.mem_append.1 hx with hx | hx
    · exact h x hx y hy
    · exact k x hx y hy
theorem pl_perm {l l' m m' : List (β × Nat)} (h : Pl l m) (h1 : l'.Perm l) (h2 : m'.Perm m) : Pl l' m' := fun x hx y hy => h x (h1.mem_iff.1 hx) y (h2.mem_iff.1 hy)
theorem pre_nil {bs : Nat} : Pre le bs [] := fun T h _ => h
theorem pre_snoc {bs : Nat} {D S : List (β × Nat)} (h : Pre le bs D) (hs : Sd le S) (hl : S.length = bs) (hp : Pl D S) : Pre le bs (D ++ S) := by
  intro T hT hp2
  rw [List.append_assoc]
  have := app_pl.1 hp2
  exact h _ (.cons hs hl this.2 hT) (pl_app.2 ⟨hp, this.1⟩)
theorem rn_inv {bs : Nat} {T : List (β × Nat)} (h : Rn le bs T) (hl : bs ≤ T.length) : ∃ B L, T = B ++ L ∧ Sd le B ∧ B.length = bs ∧ Pl B L ∧ Rn le bs L := by
  cases h with
  | last h1 h2 => omega
  | cons h1 h2 h3 h4 => exact ⟨_, _, rfl, h1, h2, h3, h4⟩
theorem rn_last {bs : Nat} {T : List (β × Nat)} (h : Rn le bs T) (hl : T.length < bs) : Sd le T := by
  cases h with
  | last h1 h2 => exact h1
  | cons h1 h2 h3 h4 => rw [List.length_append] at hl; omega
/-- at most one run -/
theorem rn_one {bs : Nat} {T : List (β × Nat)} (h : Rn le bs T) (hl : T.length ≤ bs) : Sd le T := by
  rcases Nat.lt_or_ge T.length bs with c | c
  · exact rn_last h c
  · obtain ⟨B, L, rfl, h1, h2, h3, h4⟩ := rn_inv h c
    have : L = [] := by
      rw [List.length_append] at hl
      exact List.length_eq_zero_iff.1 (by omega)
    rw [this, List.append_nil]; exact h1
end
section
variable {β γ : Type} {le : β → β → Bool} {le' : γ → γ → Bool} {f : γ → β}
/-- what is sorted, without the places -/
def srt (le : β → β → Bool) (l : List β) : List β := (isort le (num 0 l)).map (·.1)
theorem srt_perm (l : List β) : (srt le l).Perm l := by
  have := (isort_perm (le := le) (num 0 l)).map (·.1)
  rwa [num_fst] at this
theorem srt_len (l : List β) : (srt le l).length = l.length := (srt_perm l).length_eq
theorem srt_le (O : Ord le) (l : List β) : (srt le l).Pairwise (fun a b => le a b = true) := by
  unfold srt
  rw [List.pairwise_map]
  exact (isort_sd O l 0).imp fun h => h.1
end
end Srt
end Go.Proofs.Ytiajdaagamhbnaa

namespace Go.Proofs.Ytiajdaagamhbnaa
namespace Sh
open RowKit Srt
/-- a block g of elements, n cells each -/
structure BkAt {β : Type} (e : TypeId) (enc : β → List Value) (Mm : β → Prop) (rest : List Value) (g : Nat) (w : World) (L : List (β × Nat)) : Prop where
  blk : w.heap[g]? = some (.cells ((L.flatMap fun x => enc x.1) ++ rest).toArray e (0, 0))
  mem : ∀ x ∈ L, Mm x.1
/-- two exchanged -/
def swp {α : Type} (L : List α) (i j : Nat) (x y : α) : List α := (L.set j x).set i y
theorem set_flat {α : Type} {f : α → List Value} {n : Nat} (hn : ∀ x, (f x).length = n) : ∀ (L : List α) (i : Nat) (y : α), i < L.length → (L.set i y).flatMap f = (L.flatMap f).take (i * n) ++ f y ++ (L.flatMap f).drop (i * n + n)
  | x :: L, 0, y, h => by
    simp only [List.set_cons_zero, List.flatMap_cons, Nat.zero_mul, List.take_zero, List.nil_append, Nat.zero_add]
    rw [List.drop_append_of_le_length (by rw [hn]; omega), List.drop_of_length_le (by rw [hn]; omega), List.nil_append]
  | x :: L, i + 1, y, h => by
    simp only [List.set_cons_succ, List.flatMap_cons]
    rw [set_flat hn L i y (by simpa using h)]
    have e1 : (i + 1) * n = (f x).length + i * n := by rw [hn, Nat.add_mul]; omega
    have e2 : (i + 1) * n + n = (f x).length + (i * n + n) := by rw [hn, Nat.add_mul]; omega
    rw [e2, e1, List.take_length_add_append, List.drop_length_add_append]
    simp only [List.append_assoc]
theorem set_same {α : Type} (A : List α) (x y : α) (B : List α) : (A ++ x :: B).set A.length y = A ++ y :: B := by
  rw [List.set_append_right _ _ (Nat.le_refl _), Nat.sub_self]; rfl
/-- two exchanged, in a line -/
theorem swp_line {α : Type} (P Mi R : List α) (x y : α) : swp (P ++ x :: (Mi ++ y :: R)) P.length (P.length + 1 + Mi.length) x y = P ++ y :: (Mi ++ x :: R) := by
  unfold swp
  have e : P ++ x :: (Mi ++ y :: R) = (P ++ x :: Mi) ++ y :: R := by simp
  have l : P.length + 1 + Mi.length = (P ++ x :: Mi).length := by simp; omega
  rw [e, l, set_same]
  have e2 : (P ++ x :: Mi) ++ x :: R = P ++ x :: (Mi ++ x :: R) := by simp
  rw [e2, set_same]
theorem swp_line' {α : Type} (P Mi R : List α) (x y : α) : swp (P ++ x :: (Mi ++ y :: R)) (P.length + 1 + Mi.length) P.length y x = P ++ y :: (Mi ++ x :: R) := by
  unfold swp
  rw [set_same]
  have e : P ++ y :: (Mi ++ y :: R) = (P ++ y :: Mi) ++ y :: R := by simp
  have l : P.length + 1 + Mi.length = (P ++ y :: Mi).length := by simp; omega
  rw [e, l, set_same]
  simp
section
variable {β : Type} {e : TypeId} {enc : β → List Value} {Mm : β → Prop} {rest : List Value} {g n c N : Nat} {w : World} {L : List (β × Nat)} {Q : Value → World → Prop} {K : Value → M} {K0 : M} {k : IntKind} {i : Nat}
theorem BkAt.below {w' : World} (h : BkAt e enc Mm rest g w L) (hb : Below w.heap.size w w') : BkAt e enc Mm rest g w' L := ⟨stay hb h.blk, h.mem⟩
theorem BkAt.drw (h : BkAt e enc Mm rest g w L) : BkAt e enc Mm rest g (drw w) L := ⟨h.blk, h.mem⟩
theorem BkAt.cells (h : BkAt e enc Mm rest g w L) (hn : ∀ x, (enc x).length = n) (hi : i < L.length) : cellsAt w ⟨g, i * n, none⟩ (enc L[i].1) := by
  intro j u hj
  have hjn : j < n := by
    rcases Nat.lt_or_ge j n with c | c
    · exact c
    · rw [List.getElem?_eq_none (by rw [hn]; exact c)] at hj; cases hj
  rw [add_lit, cell_of_blk h.blk]
  have hlt : i * n + j < (L.flatMap fun x => enc x.1).length := by
    rw [flat_len (enc := fun x : β × Nat => enc x.1) (fun x => hn x.1)]
    have : (i + 1) * n ≤ L.length * n := Nat.mul_le_mul_right _ hi
    rw [Nat.add_mul] at this; omega
  rw [List.getElem?_toArray, List.getElem?_append_left hlt, flat_get (enc := fun x : β × Nat => enc x.1) (fun x => hn x.1) L i j hi hjn, hj]
theorem ia_bk {N : Nat} (hi : i < N) : ia n (.slice (some ⟨g, 0, none⟩) N c) (.int k (i : Int)) K w Q = K (.pointer (some ⟨g, i * n, none⟩)) w Q := by
  rw [ia_e, Int.toNat_natCast, add_lit, Nat.zero_add]
  apply propext
  exact ⟨fun h => h.2.2, fun h => ⟨by omega, by omega, h⟩⟩
/-- one read -/
theorem get_of {x : β × Nat} (hx : L[i]? = some x) : ∃ h : i < L.length, L[i] = x := by
  rcases Nat.lt_or_ge i L.length with c | c
  · rw [List.getElem?_eq_getElem c] at hx; exact ⟨c, Option.some.inj hx⟩
  · rw [List.getElem?_eq_none c] at hx; cases hx
theorem rdN {x : β × Nat} (h : BkAt e enc Mm rest g w L) (hN : L.length = N) (hn : ∀ x, (enc x).length = n) (h1 : ∀ x, ∀ v ∈ enc x, v.oneCell' = true) (hx : L[i]? = some x) (kk : K (.agg (enc x.1).toArray) w Q) : ia n (.slice (some ⟨g, 0, none⟩) N c) (.int k (i : Int)) (fun p => ldn n p K) w Q := by
  obtain ⟨hi, rfl⟩ := get_of hx
  rw [ia_bk (by omega)]
  exact ldn_at (h.cells hn hi) (hn _) kk
/-- one stored -/
theorem stN {y : β × Nat} (h : BkAt e enc Mm rest g w L) (hN : L.length = N) (hn : ∀ x, (enc x).length = n) (h1 : ∀ x, ∀ v ∈ enc x, v.oneCell' = true) (hi : i < L.length) (hy : Mm y.1)
    (kk : ∀ w', BkAt e enc Mm rest g w' (L.set i y) → Upd g w w' → K0 w' Q) : ia n (.slice (some ⟨g, 0, none⟩) N c) (.int k (i : Int)) (fun p => stn n p (.agg (enc y.1).toArray) K0) w Q := by
  rw [ia_bk (by omega)]
  have hle : (i + 1) * n ≤ L.length * n := Nat.mul_le_mul_right _ hi
  rw [Nat.add_mul, Nat.one_mul] at hle
  have hfl : (L.flatMap fun x => enc x.1).length = L.length * n := flat_len (enc := fun x : β × Nat => enc x.1) (fun x => hn x.1) L
  obtain ⟨w', c', e1, e2, e3, e4⟩ := sts_blk (o := i * n) (enc y.1) 0 w _ h.blk (by simp [hfl, hn]; omega) (h1 _)
  refine ⟨_, _, w', rfl, rfl, by simpa using hn _, e1, kk w' ⟨?_, fun x hx => ?_⟩ e4⟩
  · rw [e2]
    congr 2
    apply Array.toList_inj.1
    rw [e3, hn]
    simp only [Nat.add_zero]
    rw [set_flat (f := fun x : β × Nat => enc x.1) (fun x => hn x.1) L i y hi]
    rw [List.take_append_of_le_length (by rw [hfl]; omega), List.drop_append_of_le_length (by rw [hfl]; omega)]
    simp only [List.append_assoc]
  · rcases List.mem_or_eq_of_mem_set hx with hx | rfl
    · exact h.mem x hx
    · exact hy
/-- a line's two elements, and both exchanged -/
theorem line_get {P Mi R : List (β × Nat)} {x y : β × Nat} {i j : Nat} (hL : L = P ++ x :: (Mi ++ y :: R)) (hi : i = P.length) (hj : j = P.length + 1 + Mi.length) :
    L[i]? = some x ∧ L[j]? = some y ∧ i < L.length ∧ j < L.length ∧ (L.set i y).set j x = P ++ y :: (Mi ++ x :: R) ∧ (L.set j x).set i y = P ++ y :: (Mi ++ x :: R) := by
  subst hi hj hL
  have e : P ++ x :: (Mi ++ y :: R) = (P ++ x :: Mi) ++ y :: R := by simp
  have l : P.length + 1 + Mi.length = (P ++ x :: Mi).length := by simp; omega
  refine ⟨?_, ?_, ?_, ?_, swp_line' P Mi R x y, swp_line P Mi R x y⟩
  · rw [List.getElem?_append_right (Nat.le_refl _), Nat.sub_self]; rfl
  · rw [e, l, List.getElem?_append_right (Nat.le_refl _), Nat.sub_self]; rfl
  · simp
  · simp; omega
theorem u2c {V w' w2 : World} (h : Chg g V (Sh.drw w)) (u : Upd g (Sh.drw w) w') (u2 : Upd g w' w2) : Chg g V w2 := (h.trans u.chg).trans u2.chg
/-- a half -/
theorem shr1 {x : Nat} : shr .u64 .u64 (.int .u64 (x : Int)) (.int .u64 1) K w Q = K (.int .u64 ((x / 2 : Nat) : Int)) w Q := by
  rw [shr_e]
  have e : (x : Int).fdiv (2 ^ (min (1 : Int).toNat IntKind.u64.bits)) = ((x / 2 : Nat) : Int) := by
    have : min (1 : Int).toNat IntKind.u64.bits = 1 := rfl
    rw [this, Int.fdiv_eq_ediv_of_nonneg _ (by decide)]
    omega
  rw [e]
  exact propext ⟨fun h => h.2, fun h => ⟨by decide, h⟩⟩
/-- how two elements are told apart -/
def CmpOf (P : Program) {β : Type} (V : World) (g : Nat) (f : Value) (hd : β → Value) (le : β → β → Bool) (Mm : β → Prop) : Prop := ∀ (x y : β) (w : World) (K : Value → M) (Q : Value → World → Prop), Chg g V w → Mm x → Mm y →
  (∀ (w' : World) (z : Int), Below w.heap.size w w' → (z < 0 ↔ le y x = false) → K (.int .i64 z) w' Q) → cf P f #[hd x, hd y] K w Q
end
end Sh
end Go.Proofs.Ytiajdaagamhbnaa

namespace Go.Proofs.Ytiajdaagamhbnaa
open Sh RowKit
namespace Sh
/-- cells laid over a list's, from a place on -/
def ovl (l : List Value) (o : Nat) (cs : List Value) : List Value := l.take o ++ cs ++ l.drop (o + cs.length)
theorem ovl_len {l cs : List Value} {o : Nat} (h : o + cs.length ≤ l.length) : (ovl l o cs).length = l.length := by
  unfold ovl; simp; omega
theorem ovl_all {l cs : List Value} (h : cs.length = l.length) : ovl l 0 cs = cs := by
  unfold ovl; simp [h]
section
variable {α : Type} {enc : α → List Value} {n : Nat}
theorem flat_ovl (hn : ∀ x, (enc x).length = n) : ∀ (l : List α) (i o : Nat) (cs : List Value) (y : α) (hi : i < l.length), o + cs.length ≤ n → enc y = ovl (enc l[i]) o cs → ovl (l.flatMap enc) (i * n + o) cs = (l.set i y).flatMap enc
  | [], i, o, cs, y, hi, _, _ => by simp at hi
  | x :: l, 0, o, cs, y, hi, ho, he => by
    simp only [List.flatMap_cons, List.set_cons_zero, Nat.zero_mul, Nat.zero_add, List.getElem_cons_zero] at *
    rw [he]
    unfold ovl
    have hx := hn x
    rw [List.take_append_of_le_length (by omega), List.drop_append_of_le_length (by omega)]
    simp
  | x :: l, i + 1, o, cs, y, hi, ho, he => by
    have ih := flat_ovl hn l i o cs y (by simpa using hi) ho (by simpa using he)
    rw [List.flatMap_cons, List.set_cons_succ, List.flatMap_cons, ← ih]
    unfold ovl
    have hx := hn x
    have e1 : (i + 1) * n + o = (enc x).length + (i * n + o) := by rw [hx, Nat.add_mul]; omega
    rw [e1, List.take_length_add_append, Nat.add_assoc (enc x).length, List.drop_length_add_append]
    simp [List.append_assoc]
variable {P : Program} {w : World} {Q : Value → World → Prop} {K : Value → M} {K0 : M} {B : Nat} {e : TypeId} {v : Value} {l : List α}
/-- a row that is not empty, opened -/
theorem ownE_open (h : ownE B e n enc w v l) (hl : 0 < l.length) : ∃ g cap cur, v = .slice (some ⟨g, 0, none⟩) l.length cap ∧ v.ownBlock = some g ∧ B ≤ g ∧ w.heap[g]? = some (.cells cur e (0, 0)) ∧ l.length ≤ cap ∧ cap ≤ maxLen ∧ cur.size = cap * n ∧ cur.toList.take (l.length * n) = l.flatMap enc := by
  obtain ⟨h1, h2⟩ := h
  rcases h2 with ⟨rfl, h0⟩ | ⟨g, cap, cur, rfl, hg, hb, hn, hm, hs, ht⟩
  · omega
  · exact ⟨g, cap, cur, rfl, rfl, hg, hb, hn, hm, hs, ht⟩
theorem ovl_take {l cs : List Value} {o m : Nat} (h : o + cs.length ≤ m) (hm : m ≤ l.length) : (ovl l o cs).take m = ovl (l.take m) o cs := by
  unfold ovl
  have e1 : (l.take o ++ cs).length = o + cs.length := by simp; omega
  rw [List.take_append, List.take_of_length_le (by omega), e1, List.take_take, List.drop_take, Nat.min_eq_left (by omega)]
theorem ownE_put {w' : World} {i o : Nat} {cs : List Value} {y : α} (hn : ∀ x, (enc x).length = n) (h : ownE B e n enc w v l) (hi : i < l.length) (ho : o + cs.length ≤ n) (he : enc y = ovl (enc l[i]) o cs)
    (hw : ∀ g cur, v.ownBlock = some g → w.heap[g]? = some (.cells cur e (0, 0)) → ∃ cur', w'.heap[g]? = some (.cells cur' e (0, 0)) ∧ cur'.toList = ovl cur.toList (i * n + o) cs) : ownE B e n enc w' v (l.set i y) := by
  obtain ⟨g, cap, cur, rfl, hob, hg, hb, hc, hm, hs, ht⟩ := ownE_open h (by omega)
  obtain ⟨cur', h1, h2⟩ := hw g cur rfl hb
  have hin : i * n + n ≤ l.length * n := by
    have := Nat.mul_le_mul_right n (show i + 1 ≤ l.length by omega)
    rw [Nat.add_mul, Nat.one_mul] at this; exact this
  have hcap : l.length * n ≤ cap * n := Nat.mul_le_mul_right n hc
  have hsl : cur.toList.length = cap * n := by simpa using hs
  refine ⟨by rw [flat_len hn], .inr ⟨g, cap, cur', by rw [List.length_set], hg, h1, by rw [List.length_set]; exact hc, hm, ?_, ?_⟩⟩
  · have := congrArg List.length h2
    rw [ovl_len (by omega)] at this
    simpa [hs] using this
  · rw [List.length_set, h2, ovl_take (by omega) (by omega), ht, flat_ovl hn l i o cs y hi ho he]
theorem ia_E {g cap L i n : Nat} {j : IntKind} (hi : i < L) : ia n (.slice (some ⟨g, 0, none⟩) L cap) (.int j (i : Int)) K w Q = K (.pointer (some ⟨g, i * n, none⟩)) w Q := by
  rw [ia_e, Int.toNat_natCast, add_lit, Nat.zero_add]
  apply propext
  constructor
  · rintro ⟨_, _, h⟩; exact h
  · intro h; exact ⟨by omega, by omega, h⟩
/-- some cells of a block stored -/
theorem stn_at {b o m : Nat} {c cs : Array Value} {t : TypeId} (h : w.heap[b]? = some (.cells c t (0, 0))) (hm : cs.size = m) (hc : o + m ≤ c.size) (h1 : ∀ v ∈ cs.toList, v.oneCell' = true)
    (k : ∀ w' c', w'.heap[b]? = some (.cells c' t (0, 0)) → c'.toList = ovl c.toList o cs.toList → Upd b w w' → K0 w' Q) : stn m (.pointer (some ⟨b, o, none⟩)) (.agg cs) K0 w Q := by
  obtain ⟨w', c', e1, e2, e3, e4⟩ := sts_blk (o := o) cs.toList 0 w c h (by simpa [hm] using hc) h1
  exact ⟨_, cs, w', rfl, rfl, hm, e1, k w' c' e2 (by rw [e3]; rfl) e4⟩
theorem ia_stnE {j : IntKind} {i : Nat} {y : α} (hn : ∀ x, (enc x).length = n) (h1 : ∀ x, ∀ c ∈ enc x, c.oneCell' = true) (h : ownE B e n enc w v l) (hi : i < l.length)
    (kk : ∀ w' g, v.ownBlock = some g → ownE B e n enc w' v (l.set i y) → Upd g w w' → K0 w' Q) : ia n v (.int j (i : Int)) (fun p => stn n p (.agg (enc y).toArray) K0) w Q := by
  obtain ⟨g, cap, cur, rfl, hob, hg, hb, hc, hm, hs, ht⟩ := ownE_open h (by omega)
  rw [ia_E hi]
  have hcs : i * n + n ≤ cur.size := by
    rw [hs]
    have := Nat.mul_le_mul_right n (show i + 1 ≤ cap by omega)
    rw [Nat.add_mul, Nat.one_mul] at this; exact this
  refine stn_at hb (by simpa using hn y) hcs (by simpa using h1 y) fun w' c' q1 q2 q3 => kk w' g rfl ?_ q3
  refine ownE_put (o := 0) (cs := enc y) hn h hi (by rw [hn]; omega) (by rw [ovl_all (by rw [hn, hn])]) (fun g' cur' e1 e2 => ?_)
  cases e1
  rw [hb] at e2; cases e2
  exact ⟨c', q1, by simpa using q2⟩
theorem Upd_setRow {g : Nat} {c cs : Array Value} {t : TypeId} {fr : Nat × Nat} (h : w.heap[g]? = some (.cells c t fr)) : Upd g w (w.setRow g cs) ∧ (w.setRow g cs).heap[g]? = some (.cells cs t fr) :=
  ⟨⟨rfl, rfl, rfl, by simp [World.setRow], fun k hk => setRow_other w g k cs hk⟩, setRow_heap w g c cs t fr h⟩
end
end Sh
end Go.Proofs.Ytiajdaagamhbnaa

namespace Go.Proofs.Ytiajdaagamhbnaa
namespace Sh
open RowKit Go.MapKept
section
variable {α : Type} [DecidableEq α]
theorem lk_put {L : List (α × Value)} {k k' : α} {v : Value} : lk (put L k v) k' = if k' = k then some v else lk L k' := by
  unfold put
  split
  · rename_i h
    have gen : ∀ L : List (α × Value), lk (L.map (fun p => if p.1 = k then (k, v) else p)) k' = if k' = k then (if k ∈ L.map (·.1) then some v else none) else lk L k' := by
      intro L
      induction L with
      | nil => simp [lk]
      | cons p L ih =>
        obtain ⟨a, u⟩ := p
        rw [List.map_cons]
        by_cases ha : a = k
        · rw [if_pos ha, lk_cons, lk_cons, ih]
          by_cases hk : k' = k
          · subst hk; simp [ha]
          · have : ¬ k = k' := fun e => hk e.symm
            have h2 : ¬ a = k' := fun e => hk (by rw [← e, ha])
            simp [hk, this, h2]
        · rw [if_neg ha, lk_cons, lk_cons, ih]
          by_cases hk : k' = k
          · subst hk
            have h2 : ¬ k' = a := fun e => ha e.symm
            have h3 : (k' ∈ List.map (fun x => x.1) ((a, u) :: L)) ↔ (k' ∈ List.map (fun x => x.1) L) := by
              rw [List.map_cons, List.mem_cons]
              exact ⟨fun h => h.resolve_left h2, .inr⟩
            rw [if_neg ha, if_pos rfl, if_pos rfl]
            by_cases h4 : k' ∈ List.map (fun x => x.1) L
            · rw [if_pos h4, if_pos (h3.2 h4)]
            · rw [if_neg h4, if_neg (fun e => h4 (h3.1 e))]
          · simp [hk]
    rw [gen, if_pos h]
  · rename_i h
    have gen : ∀ L : List (α × Value), lk (L ++ [(k, v)]) k' = (lk L k').or (if k' = k then some v else none) := by
      intro L
      induction L with
      | nil =>
        rw [List.nil_append, lk_cons]
        by_cases hk : k' = k
        · subst hk; simp [lk]
        · have : ¬ k = k' := fun e => hk e.symm
          simp [lk, hk, this]
      | cons p L ih =>
        obtain ⟨a, u⟩ := p
        rw [List.cons_append, lk_cons, lk_cons, ih]
        split <;> simp
    rw [gen]
    by_cases hk : k' = k
    · subst hk
      have : lk L k' = none := lk_none.2 fun p hp e => h (e ▸ List.mem_map.2 ⟨p, hp, rfl⟩)
      simp [this]
    · simp [hk]
end
theorem cf_p {w : World} {Q : Value → World → Prop} {P : Program} {f : FuncId} {z cap args : Array Value} {K : Value → M} (he : ∀ args w, (callFunc f args).run P w = .ok (.enter f args) w) (h : Calls P f (z ++ args ++ cap) w (Rt fun v w' => K v w' Q)) : cf P (.func (.func f) z cap) args K w Q :=
  ⟨f, z, cap, rfl, he _ _, h⟩
end Sh
end Go.Proofs.Ytiajdaagamhbnaa

namespace Go.Proofs.Ytiajdaagamhbnaa
open Sh RowKit

theorem ww (a b : Int) : IntKind.i64.wrap (IntKind.i64.wrap a + b) = IntKind.i64.wrap (a + b) := by
  unfold IntKind.wrap
  simp [IntKind.signed, IntKind.bits]
  omega
/-- a value; a workflow -/
structure Vl where
  k : Int
  n : Int
  s : ByteArray
structure Fl where
  id : Int
  prog : Int
  arg : Vl
  st : Int
  steps : Int
  till : Int
  val : Vl
  pc : Int
  rp : Option Addr
  rl : Nat
  rc : Nat
  can : Bool
def encV (x : Vl) : List Value := [.int .i64 x.k, .int .i64 x.n, .string x.s]
def Fl.regs (f : Fl) : Value := .slice f.rp f.rl f.rc
def encF (f : Fl) : List Value := [.int .i64 f.id, .int .i64 f.prog, .int .i64 f.arg.k, .int .i64 f.arg.n, .string f.arg.s, .int .i64 f.st, .int .i64 f.steps, .int .i64 f.till, .int .i64 f.val.k, .int .i64 f.val.n, .string f.val.s, .int .i64 f.pc, f.regs, .bool f.can]
theorem encF_len : ∀ f, (encF f).length = 14 := fun _ => rfl
/-- the cells one by one -/
def cF (f : Fl) : Array Value := (encF f).toArray
theorem encF_one : ∀ f, ∀ c ∈ encF f, c.oneCell' = true := by
  intro f c hc
  simp only [encF, List.mem_cons, List.not_mem_nil, or_false] at hc
  rcases hc with rfl | rfl | rfl | rfl | rfl | rfl | rfl | rfl | rfl | rfl | rfl | rfl | rfl | rfl
  all_goals rfl
/-- what a workflow adds at a place -/
def dd (i : Nat) (f : Fl) : Int := if i < 5 then (if f.st = (i : Int) + 1 then 1 else 0) else (if 1 ≤ f.st ∧ f.st ≤ 5 then f.steps else 0)
def tt (i : Nat) : List Fl → Int
  | [] => 0
  | f :: l => dd i f + tt i l
theorem tt_app (i : Nat) : ∀ a b : List Fl, tt i (a ++ b) = tt i a + tt i b
  | [], b => by simp [tt]
  | f :: a, b => by show dd i f + tt i (a ++ b) = dd i f + tt i a + tt i b; rw [tt_app i a b]; omega
theorem tt_one (i : Nat) (l : List Fl) (f : Fl) : tt i (l ++ [f]) = tt i l + dd i f := by rw [tt_app]; simp [tt]
/-- counts in memory -/
def cC (x : Nat → Int) : Array Value := #[.int .i64 (x 0), .int .i64 (x 1), .int .i64 (x 2), .int .i64 (x 3), .int .i64 (x 4), .int .i64 (x 5)]
def ctL (l : List Fl) (i : Nat) : Int := IntKind.i64.wrap (tt i l)
theorem cC_one (x : Nat → Int) : ∀ v ∈ (cC x).toList, v.oneCell' = true := by
  intro v hv
  simp only [cC, List.mem_cons, List.not_mem_nil, or_false] at hv
  rcases hv with rfl | rfl | rfl | rfl | rfl | rfl <;> rfl
theorem ct_one (i : Nat) (l : List Fl) (f : Fl) : ctL (l ++ [f]) i = IntKind.i64.wrap (ctL l i + dd i f) := by
  unfold ctL
  rw [tt_one, ww]
theorem ct_same {i : Nat} {l : List Fl} {f : Fl} (h : dd i f = 0) : ctL (l ++ [f]) i = ctL l i := by
  unfold ctL
  rw [tt_one, h, Int.add_zero]
section
variable {w : World} {Q : Value → World → Prop} {b : Nat} {l : List Fl}
/-- where a state is counted -/
theorem f27_s (s : Int) (k1 : 1 ≤ s → s ≤ 5 → Q (.pointer (some ⟨b, (s - 1).toNat, none⟩)) w) (k0 : ¬ (1 ≤ s ∧ s ≤ 5) → Q (.pointer none) w) : f27 (.pointer (some ⟨b, 0, none⟩)) (.int .i64 s) w Q := by
  unfold f27
  by_cases c1 : s = 1
  · simp only [↓reduceIte, ↓LL, LM, Value.cells, Nat.reduceAdd, Option.some.injEq, exists_eq_left', decide_true, decide_false, if_true, if_false, reduceCtorEq, cond_true, cond_false, c1]; simpa [c1, add_lit] using k1 (by omega) (by omega)
  by_cases c2 : s = 2
  · simp only [↓reduceIte, ↓LL, LM, Value.cells, Nat.reduceAdd, Option.some.injEq, exists_eq_left', decide_true, decide_false, if_true, if_false, reduceCtorEq, cond_true, cond_false, c1, c2]; simpa [c2, add_lit] using k1 (by omega) (by omega)
  by_cases c3 : s = 3
  · simp only [↓reduceIte, ↓LL, LM, Value.cells, Nat.reduceAdd, Option.some.injEq, exists_eq_left', decide_true, decide_false, if_true, if_false, reduceCtorEq, cond_true, cond_false, c1, c2, c3]; simpa [c3, add_lit] using k1 (by omega) (by omega)
  by_cases c4 : s = 4
  · simp only [↓reduceIte, ↓LL, LM, Value.cells, Nat.reduceAdd, Option.some.injEq, exists_eq_left', decide_true, decide_false, if_true, if_false, reduceCtorEq, cond_true, cond_false, c1, c2, c3, c4]; simpa [c4, add_lit] using k1 (by omega) (by omega)
  by_cases c5 : s = 5
  · simp only [↓reduceIte, ↓LL, LM, Value.cells, Nat.reduceAdd, Option.some.injEq, exists_eq_left', decide_true, decide_false, if_true, if_false, reduceCtorEq, cond_true, cond_false, c1, c2, c3, c4, c5]; simpa [c5, add_lit] using k1 (by omega) (by omega)
  simp only [↓reduceIte, ↓LL, LM, Value.cells, Nat.reduceAdd, Option.some.injEq, exists_eq_left', decide_true, decide_false, if_true, if_false, reduceCtorEq, cond_true, cond_false, c1, c2, c3, c4, c5]
  exact k0 (by omega)
theorem cC_len (x : Nat → Int) : (cC x).size = 6 := rfl
theorem cC_get (x : Nat → Int) {i : Nat} (h : i < 6) : (cC x)[i]? = some (.int .i64 (x i)) := by
  have : i = 0 ∨ i = 1 ∨ i = 2 ∨ i = 3 ∨ i = 4 ∨ i = 5 := by omega
  rcases this with rfl | rfl | rfl | rfl | rfl | rfl <;> rfl
theorem cC_set (x y : Nat → Int) {i : Nat} (h : i < 6) (v : Value) (hv : v = .int .i64 (y i)) (hy : ∀ j, j < 6 → j ≠ i → y j = x j) : (cC x).setIfInBounds i v = cC y := by
  subst hv
  have : i = 0 ∨ i = 1 ∨ i = 2 ∨ i = 3 ∨ i = 4 ∨ i = 5 := by omega
  have h0 := hy 0 (by decide)
  have h1 := hy 1 (by decide)
  have h2 := hy 2 (by decide)
  have h3 := hy 3 (by decide)
  have h4 := hy 4 (by decide)
  have h5 := hy 5 (by decide)
  rcases this with rfl | rfl | rfl | rfl | rfl | rfl <;> simp_all [cC]
theorem cC_ext {x y : Nat → Int} (h : ∀ j, j < 6 → x j = y j) : cC x = cC y := by
  unfold cC
  rw [h 0 (by decide), h 1 (by decide), h 2 (by decide), h 3 (by decide), h 4 (by decide), h 5 (by decide)]
/-- one more -/
theorem f24_s {f : Fl} (hb : w.heap[b]? = some (.cells (cC (ctL l)) 28 (0, 0))) (kk : ∀ w', w'.heap[b]? = some (.cells (cC (ctL (l ++ [f]))) 28 (0, 0)) → Chg b w w' → Q (.tuple #[]) w') : f24 (.pointer (some ⟨b, 0, none⟩)) (.agg (cF f)) w Q := by
  unfold f24
  rw [bx_e]
  have hq := blk_psh_new (w := w) (o := .cells (cF f) 55)
  have h1 := b_psh w (.cells (cF f) 55)
  have hb1 := stay h1 hb
  rw [show (Value.agg (cF f)).cells = cF f from rfl]
  generalize psh w (.cells (cF f) 55) = w1 at *
  have c5 := cell_of_blk (n := 5) hq
  have c6 := cell_of_blk (n := 6) hq
  have c5 : w1.cell? ⟨w.heap.size, 5, none⟩ = some (.int .i64 f.st) := c5
  have c6 : w1.cell? ⟨w.heap.size, 6, none⟩ = some (.int .i64 f.steps) := c6
  simp only [↓reduceIte, ↓LL, LM, Value.cells, Nat.reduceAdd, Option.some.injEq, exists_eq_left', decide_true, decide_false, if_true, if_false, reduceCtorEq, cond_true, cond_false, add_lit, Nat.zero_add, c5]
  refine f27_s f.st (fun s1 s2 => ?_) (fun s0 => ?_)
  · rw [pn_ne (P := Try.prog) (t := 64) (by kernel_rfl)]
    simp only [Option.isNone, Bool.not_false]
    obtain ⟨i, hi5, hi⟩ : ∃ i : Nat, i < 5 ∧ f.st = (i : Int) + 1 := ⟨(f.st - 1).toNat, by omega, by omega⟩
    have hti : (f.st - 1).toNat = i := by omega
    rw [hti]
    have ci : w1.cell? ⟨b, i, none⟩ = some (.int .i64 (ctL l i)) := by rw [cell_of_blk (n := i) hb1, cC_get _ (by omega)]
    simp only [↓reduceIte, ↓LL, LM, Value.cells, Nat.reduceAdd, Option.some.injEq, exists_eq_left', decide_true, decide_false, if_true, if_false, reduceCtorEq, cond_true, cond_false, ci]
    refine st_box hb1 (by rw [cC_len]; omega) rfl fun w2 hb2 u2 => ?_
    have hne : b ≠ w.heap.size := fun e => by have := blk_lt hb; omega
    have hq2 : w2.heap[w.heap.size]? = some (.cells (cF f) 55) := by rw [u2.block _ (Ne.symm hne)]; exact hq
    have c6 := cell_of_blk (n := 6) hq2
    have c6 : w2.cell? ⟨w.heap.size, 6, none⟩ = some (.int .i64 f.steps) := c6
    have e1 : (cC (ctL l)).setIfInBounds i (.int .i64 (IntKind.i64.wrap (ctL l i + 1))) = cC (fun j => if j = i then ctL (l ++ [f]) i else ctL l j) := by
      refine cC_set _ _ (by omega) _ ?_ (fun j _ hj => by simp [hj])
      simp only [if_true]
      rw [ct_one]
      congr 3
      unfold dd
      rw [if_pos hi5, if_pos hi]
    rw [e1] at hb2
    have c55 := cell_of_blk (n := 5) hb2
    rw [cC_get _ (by decide)] at c55
    have h5i : ¬ 5 = i := by omega
    simp only [h5i, if_false] at c55
    simp only [↓reduceIte, ↓LL, LM, Value.cells, Nat.reduceAdd, Option.some.injEq, exists_eq_left', decide_true, decide_false, if_true, if_false, reduceCtorEq, cond_true, cond_false, add_lit, Nat.zero_add, c55, c6]
    have hb2 : (drw w2).heap[b]? = _ := hb2
    refine st_box hb2 (by rw [cC_len]; omega) rfl fun w3 hb3 u3 => ?_
    simp only [↓reduceIte, ↓LL, LM, Value.cells, Nat.reduceAdd, Option.some.injEq, exists_eq_left', decide_true, decide_false, if_true, if_false, reduceCtorEq, cond_true, cond_false]
    refine kk w3 ?_ ((Chg.of_below h1).trans (u2.chg.trans (Chg.trans ((Chg.refl b w2).drw) u3.chg)))
    rw [hb3]
    congr 2
    refine cC_set _ _ (by omega) _ ?_ (fun j hj6 hj => ?_)
    · rw [ct_one]
      congr 3
      unfold dd
      rw [if_neg (by decide), if_pos ⟨s1, s2⟩]
    · by_cases c : j = i
      · subst c; simp
      · rw [if_neg c]
        refine ct_same ?_
        unfold dd
        rw [if_pos (by omega), if_neg (by omega)]
  · rw [pn_ne (P := Try.prog) (t := 64) (by kernel_rfl)]
    simp only [Option.isNone, Bool.not_true]
    simp only [↓reduceIte, ↓LL, LM, Value.cells, Nat.reduceAdd, Option.some.injEq, exists_eq_left', decide_true, decide_false, if_true, if_false, reduceCtorEq, cond_true, cond_false]
    refine kk w1 ?_ (Chg.of_below h1)
    rw [hb1]
    congr 2
    refine cC_ext fun j hj => (ct_same ?_).symm
    unfold dd
    split
    · rw [if_neg (by omega)]
    · rfl
/-- a workflow taken from a list and boxed -/
theorem take14 {W : World} {v : Value} {lf : List Fl} {i : Nat} {K : Value → M} (hr : rdS 14 (eR encF) W v lf) (hb : Below W.heap.size W w) (hi : i < lf.length)
    (kk : K (.agg (cF lf[i])) w Q) : ia 14 v (.int .i64 (i : Int)) (fun p => ldn 14 p K) w Q := by
  obtain ⟨a, es, e1, e2, e3, e4⟩ := rdS_at hr hi
  have e3 : es = encF lf[i] := e3
  subst e3
  rw [e4]
  exact ldn_at (cellsAt_below hb e2) e1 kk
theorem box14 {z : Array Value} {f : Fl} {K : Value → M} (hz : z.size = 14) (kk : ∀ w', w'.heap[w.heap.size]? = some (.cells (cF f) 55 (0, 0)) → Below w.heap.size w w' → K (.pointer (some ⟨w.heap.size, 0, none⟩)) w' Q) :
    al 55 z (fun p => stn 14 p (.agg (cF f)) (K p)) w Q := by
  rw [al_e]
  refine stn_box (cs := cF f) (blk_psh_new (w := w) (o := .cells z 55)) hz rfl (by simpa [cF] using encF_one f) fun w3 hw3 hu3 => ?_
  exact kk w3 hw3 ((b_psh w (.cells z 55)).trans (hu3.below (Nat.le_refl _)))
theorem count_loop {W : World} {v : Value} {lf : List Fl} {t2 : Value} {j1 : Value → Value → M} (hr : rdS 14 (eR encF) W v lf) (hl : lf.length ≤ 1000000) (hB : W.heap.size ≤ b) : ∀ (m i : Nat) (w : World), i + m = lf.length → Below W.heap.size W w → w.heap[b]? = some (.cells (cC (ctL (lf.take i))) 28 (0, 0)) →
    (∀ w', w'.heap[b]? = some (.cells (cC (ctL lf)) 28 (0, 0)) → Chg b w w' → j1 t2 (.pointer (some ⟨b, 0, none⟩)) w' Q) →
    itr (fun _ _ _ _ _ => bot) (f11_b2 j1) (m + 1) t2 (.pointer (some ⟨b, 0, none⟩)) v (.int .i64 (lf.length : Int)) (.int .i64 (i : Int)) w Q := by
  intro m
  induction m with
  | zero =>
    intro i w hi hb hc kk
    show f11_b2 _ _ _ _ _ _ _ w Q
    unfold f11_b2
    have c1 : ¬ (i : Int) < (lf.length : Int) := by omega
    simp only [↓reduceIte, ↓LL, LM, Value.cells, Nat.reduceAdd, Option.some.injEq, exists_eq_left', decide_true, decide_false, if_true, if_false, reduceCtorEq, cond_true, cond_false, c1]
    rw [List.take_of_length_le (by omega)] at hc
    exact kk w hc (Chg.refl _ _)
  | succ m ih =>
    intro i w hi hb hc kk
    have hil : i < lf.length := by omega
    show f11_b2 _ _ _ _ _ _ _ w Q
    unfold f11_b2
    have c1 : (i : Int) < (lf.length : Int) := by omega
    have e5 : IntKind.i64.wrap ((i : Int) + 1) = ((i + 1 : Nat) : Int) := by rw [w64 (by omega) (by omega)]; omega
    simp only [lt_e, cnd_e, c1, decide_true, cond_true]
    refine take14 hr hb hil ?_
    refine box14 rfl fun w1 h1 b1 => ?_
    have hc1 := stay b1 hc
    refine ldn_box h1 rfl ?_
    rw [cl_e]
    refine f24_s hc1 fun w2 h2 c2 => ?_
    simp only [↓reduceIte, ↓LL, LM, Value.cells, Nat.reduceAdd, Option.some.injEq, exists_eq_left', decide_true, decide_false, if_true, if_false, reduceCtorEq, cond_true, cond_false, e5]
    have c12 : Chg b w w2 := (Chg.of_below b1).trans c2
    refine ih (i + 1) w2 (by omega) (bc hb hB hb.size c12) ?_ fun w3 h3 c3 => kk w3 h3 (c12.trans c3)
    rw [List.take_succ_eq_append_getElem hil]; exact h2
/-- what workflows come to -/
theorem f11_s {W : World} {v : Value} {lf : List Fl} (hr : rdS 14 (eR encF) W v lf) (hl : lf.length ≤ 1000000) (kk : ∀ w', Below W.heap.size W w' → Q (.agg (cC (ctL lf))) w') : f11 v W Q := by
  unfold f11
  rw [al_e, al_e]
  have h2 := blk_psh_new (w := W) (o := .cells #[.int .i64 0, .int .i64 0, .int .i64 0, .int .i64 0, .int .i64 0, .int .i64 0] 28)
  have b2 := b_psh W (.cells #[.int .i64 0, .int .i64 0, .int .i64 0, .int .i64 0, .int .i64 0, .int .i64 0] 28)
  generalize psh W (.cells #[.int .i64 0, .int .i64 0, .int .i64 0, .int .i64 0, .int .i64 0, .int .i64 0] 28) = w1 at *
  have h3 := blk_psh_new (w := w1) (o := .cells #[.int .i64 0, .int .i64 0, .int .i64 0, .int .i64 0, .int .i64 0, .int .i64 0] 28)
  have b3 := b_psh w1 (.cells #[.int .i64 0, .int .i64 0, .int .i64 0, .int .i64 0, .int .i64 0, .int .i64 0] 28)
  have h2 := stay b3 h2
  have hlt : W.heap.size < w1.heap.size := blk_lt (by assumption)
  have b23 := bt b2 b3
  generalize psh w1 (.cells #[.int .i64 0, .int .i64 0, .int .i64 0, .int .i64 0, .int .i64 0, .int .i64 0] 28) = w2 at *
  refine lnl_S hr ?_
  rw [jn_e]
  refine ⟨_, count_loop (W := W) hr hl b2.size lf.length 0 w2 (by omega) b23 h3 fun w3 h33 c3 => ?_⟩
  have h23 := c3.keep h2 (by omega)
  have b33 := bc b23 b2.size b23.size c3
  unfold f11_j1
  refine ldn_box h33 rfl ?_
  refine stn_box (cs := cC (ctL lf)) h23 rfl rfl (cC_one _) fun w4 h4 u4 => ?_
  refine ldn_box h4 rfl ?_
  rw [rt_e]
  exact kk w4 (b33.trans (u4.below (Nat.le_refl _)))
end
end Go.Proofs.Ytiajdaagamhbnaa

namespace Go.Proofs.Ytiajdaagamhbnaa
namespace Sh
open RowKit
section
variable {P : Program} {w : World} {e t : TypeId} {k : IntKind} {n : Nat} {xa0 xb0 : List Int}
end
end Sh
end Go.Proofs.Ytiajdaagamhbnaa

namespace Go.Proofs.Ytiajdaagamhbnaa
open Sh RowKit

theorem eq28 (x y : Nat → Int) (p q : Operand) (w : World) : ((do eqGuard .eql 28 p q (.agg (cC x)) (.agg (cC y)); binOp .eql 28 (.agg (cC x)) (.agg (cC y)) : Sem Value)).run Try.prog w = .ok (.bool (x 0 == y 0 && (x 1 == y 1 && (x 2 == y 2 && (x 3 == y 3 && (x 4 == y 4 && x 5 == y 5)))))) w := by
  have h := run_eq_agg (x := p) (y := q) (w := w) (P := Try.prog) (xs := cC x) (ys := cC y) Try.underlying28 (by kernel_rfl) (by kernel_rfl)
    (fE_cons (by kernel_rfl) (by kernel_rfl) (a := .int .i64 (x 0)) (b := .int .i64 (y 0)) rfl rfl (run_equalIn_int w 9998 3 .i64 .i64 _ _ Try.underlying3)
      (fE_cons (by kernel_rfl) (by kernel_rfl) (a := .int .i64 (x 1)) (b := .int .i64 (y 1)) rfl rfl (run_equalIn_int w 9998 3 .i64 .i64 _ _ Try.underlying3)
        (fE_cons (by kernel_rfl) (by kernel_rfl) (a := .int .i64 (x 2)) (b := .int .i64 (y 2)) rfl rfl (run_equalIn_int w 9998 3 .i64 .i64 _ _ Try.underlying3)
          (fE_cons (by kernel_rfl) (by kernel_rfl) (a := .int .i64 (x 3)) (b := .int .i64 (y 3)) rfl rfl (run_equalIn_int w 9998 3 .i64 .i64 _ _ Try.underlying3)
            (fE_cons (by kernel_rfl) (by kernel_rfl) (a := .int .i64 (x 4)) (b := .int .i64 (y 4)) rfl rfl (run_equalIn_int w 9998 3 .i64 .i64 _ _ Try.underlying3)
              (fE_cons (by kernel_rfl) (by kernel_rfl) (a := .int .i64 (x 5)) (b := .int .i64 (y 5)) rfl rfl (run_equalIn_int w 9998 3 .i64 .i64 _ _ Try.underlying3) fE_nil))))))
  rw [Bool.and_true] at h
  exact h
theorem eq28t {x y : Nat → Int} (h : ∀ i, i < 6 → x i = y i) (p q : Operand) (w : World) : ((do eqGuard .eql 28 p q (.agg (cC x)) (.agg (cC y)); binOp .eql 28 (.agg (cC x)) (.agg (cC y)) : Sem Value)).run Try.prog w = .ok (.bool true) w := by
  rw [eq28, h 0 (by decide), h 1 (by decide), h 2 (by decide), h 3 (by decide), h 4 (by decide), h 5 (by decide)]
  simp
section
variable {w : World} {Q : Value → World → Prop} {b : Nat} {l : List Fl} {x y : Nat → Int}
end
end Go.Proofs.Ytiajdaagamhbnaa

namespace Go.Proofs.Ytiajdaagamhbnaa
open Go.Shelf
open Sh RowKit Go.Maps Go.Sort
def kI : Int → Value := fun i => .int .i64 i
theorem sortsA (m : Nat) : AnyZI.SortsIn Try.prog sortedA_ren Fence.wide m :=
  ⟨fun blk off cap ss W hH hblk hsz => callsIn_wide.2 (AnyM.slices_Sort_int sortA blk off cap ss W hH hblk hsz),
   fun p cap W => callsIn_wide.2 (AnyM.slices_Sort_int_none sortA p cap W)⟩
abbrev R0 : Value → Option (DataW Unit × List MemPlace) := fun _ => some (.map [], [])
theorem sorted_c {w : World} {b nn : Nat} {D0 : DataW Unit} (hown : w.ownsMap Try.prog 3 R0 b nn D0) (hmax : Maps.size D0 ≤ maxLen) (hbytes : Maps.size D0 * 8 ≤ 140737488355328) :
    Calls Try.prog 25 #[.func (.func 46) #[] #[.pointer (some ⟨w.heap.size, 0, none⟩)]] (w.alloc (.cells #[.map (some b)] 58)) fun e w' => ∃ (v : Value) (ss : List Int), e = .returned v ∧ ss.Perm (intKeys D0) ∧
      w'.ownsRow (w.heap.size + 1) 3 1 v ss.length ((ss.mergeSort (fun x y => decide (x ≤ y))).map encZ) ∧ Below (w.heap.size + 1) (w.alloc (.cells #[.map (some b)] 58)) w' := by
  refine (callsIn_wide (n := 5)).1 ?_
  have hbl := hown.lt
  have hseq : SeqGives Fence.wide 2 Try.prog 46 #[.pointer (some ⟨w.heap.size, 0, none⟩)] encZ (fun ss => ss.Perm (intKeys D0)) (Maps.size D0) (w.alloc (.cells #[.map (some b)] 58)) :=
    AnyZI.keys_gives (ρ := keysA_ren) { keysA with } Fence.wide _ trivial rfl (by omega) w.heap.size b nn D0 _ (by simp) (by simp) (by
      obtain ⟨es, clock, hb, Ft, hs, hD⟩ := hown
      exact ⟨es, clock, (Below.heap_alloc _ _ b hbl).trans hb, Ft, hs, hD⟩)
  have cS := AnyZI.sorted_in sortedA Fence.wide 5 trivial trivial trivial trivial rfl (by omega) (sortsA _) (enters_of Try.func45 (by kernel_rfl) rfl) 46 #[.pointer (some ⟨w.heap.size, 0, none⟩)] trivial (enters_of Try.func46 (by kernel_rfl) rfl) _ _ hmax hbytes _ hseq
  change CallsIn _ _ Try.prog 25 _ _ _ at cS
  refine cS.mono ?_
  rintro e w' ⟨v, ss, rfl, hS, hrow, hnil, hb⟩
  have hrow2 : w'.ownsRow (w.heap.size + 1) 3 1 v ss.length ((ss.mergeSort (fun x y => decide (x ≤ y))).map encZ) := by
    have := hrow
    simp only [World.size_alloc] at this
    exact this
  exact ⟨v, ss, rfl, hS, hrow2, by simpa using hb⟩
open Go.WideElems in
theorem ownsMap_of {w : World} {b : Nat} {L : List (Int × Value)} (h : MapAt kI w b L) (hk : ∀ p ∈ L, (Lit.int .i64 p.1).wf = true) (hL : L.length ≤ 4096) :
    ∃ D0 : DataW Unit, w.ownsMap Try.prog 3 R0 b L.length D0 ∧ (intKeys D0).Perm (L.map (·.1)) ∧ Maps.size D0 = L.length := by
  obtain ⟨es, clock, h1, h2, h3⟩ := h
  have hlen : es.size = L.length := by have := congrArg List.length h3; simpa using this
  have hrd : ∀ x ∈ es.toList, ∃ i : Int, (∃ v, (i, v) ∈ L) ∧ x.key = .int .i64 i ∧ WideElems.rd (H := Unit) Try.prog 3 R0 x = some (.int .i64 i, .map []) := by
    intro x hx
    have : (x.key, x.val) ∈ L.map (fun p => (kI p.1, p.2)) := h3 ▸ List.mem_map.2 ⟨x, hx, rfl⟩
    obtain ⟨p, hp, e⟩ := List.mem_map.1 this
    have e1 : x.key = kI p.1 := (Prod.mk.inj e).1.symm
    have hw : (Lit.int .i64 p.1).wf = true := hk p hp
    refine ⟨p.1, ⟨p.2, hp⟩, e1, ?_⟩
    unfold WideElems.rd
    rw [e1, show kI p.1 = .int .i64 p.1 from rfl, Go.Maps.keyOf_int_mk Try.underlying3 hw]
    rfl
  refine ⟨.map ((es.toList.map (rg Try.prog 3 R0)).foldr DataW.insert []), ⟨es, clock, h1, ⟨by rw [hlen]; unfold maxLen; omega, h2, fun x hx => ?_⟩, by omega, rfl⟩, ?_, ?_⟩
  · obtain ⟨i, _, _, e⟩ := hrd x hx
    exact ⟨_, e⟩
  · show List.Perm (((es.toList.map (rg Try.prog 3 R0)).foldr DataW.insert []).map fun p => Go.intOf p.1) _
    refine ((WideShapes.sorted_perm _).map _).trans ?_
    have : (es.toList.map (rg (H := Unit) Try.prog 3 R0)).map (fun p => Go.intOf p.1) = L.map (·.1) := by
      rw [List.map_map]
      have e2 : L.map (·.1) = (L.map (fun p => (kI p.1, p.2))).map (fun q => match q.1 with | .int _ a => a | _ => 0) := by
        rw [List.map_map]; rfl
      rw [e2, ← h3, List.map_map]
      refine List.map_congr_left fun x hx => ?_
      obtain ⟨i, _, e, e'⟩ := hrd x hx
      simp [rg, e', e, Go.intOf]
    rw [this]
  · show ((es.toList.map (rg Try.prog 3 R0)).foldr DataW.insert []).length = _
    rw [(WideShapes.sorted_perm _).length_eq, List.length_map, Array.length_toList, hlen]
/-- the keys of a map, in order -/
theorem keys_s {w : World} {b : Nat} {L : List (Int × Value)} {K : Value → M} {Q : Value → World → Prop} (h : MapAt kI w b L) (hk : ∀ p ∈ L, (Lit.int .i64 p.1).wf = true) (hL : L.length ≤ 4096)
    (kk : ∀ w' v, ownI w.heap.size 3 .i64 w' v ((L.map (·.1)).mergeSort (fun x y => decide (x ≤ y))) → Below w.heap.size w w' → K v w' Q) : cc Try.prog 26 #[.map (some b)] (fun t9 => cc Try.prog 25 #[t9] K) w Q := by
  obtain ⟨D0, ho, hp, hs⟩ := ownsMap_of h hk hL
  have hc := sorted_c ho (by rw [hs]; unfold maxLen; omega) (by rw [hs]; omega)
  have cK : Calls Try.prog 26 #[.map (some b)] w fun e w' => e = .returned (.func (.func 46) #[] #[.pointer (some ⟨w.heap.size, 0, none⟩)]) ∧ w' = w.alloc (.cells #[.map (some b)] 58) := (callsIn_wide (n := 5)).1 (AnyZI.keys_in keysA Fence.wide 5 trivial rfl (some b) w)
  refine cK.mono ?_
  rintro e w' ⟨rfl, rfl⟩
  refine hc.mono ?_
  rintro e w' ⟨v, ss, rfl, hS, hrow, hb⟩
  have e1 : ss.mergeSort (fun x y => decide (x ≤ y)) = (L.map (·.1)).mergeSort (fun x y => decide (x ≤ y)) := by
    have hp2 : ((ss.mergeSort (fun x y => decide (x ≤ y))).Perm ((L.map (·.1)).mergeSort (fun x y => decide (x ≤ y)))) := (List.mergeSort_perm _ _).trans ((hS.trans hp).trans (List.mergeSort_perm _ _).symm)
    refine hp2.eq_of_pairwise (le := fun x y => x ≤ y) (fun a b _ _ h1 h2 => by omega) ?_ ?_
    · exact (List.pairwise_mergeSort (le := fun x y => decide (x ≤ y)) (fun a b c h1 h2 => by simp at *; omega) (fun a b => by simp; omega) _).imp (by simp)
    · exact (List.pairwise_mergeSort (le := fun x y => decide (x ≤ y)) (fun a b c h1 h2 => by simp at *; omega) (fun a b => by simp; omega) _).imp (by simp)
  rw [e1] at hrow
  have hl : ss.length = ((L.map (·.1)).mergeSort (fun x y => decide (x ≤ y))).length := by rw [← e1, List.length_mergeSort]
  refine kk w' v ?_ ⟨hb.os, hb.tape, hb.output, Nat.le_trans (by simp) hb.size, fun k hk => ?_⟩
  · have : ownI (w.heap.size + 1) 3 .i64 w' v ((L.map (·.1)).mergeSort (fun x y => decide (x ≤ y))) := by
      unfold ownI
      rw [← hl]
      exact hrow
    exact ownI_weak this (by omega)
  · rw [hb.block k (by omega)]
    exact Below.heap_alloc _ _ k hk
end Go.Proofs.Ytiajdaagamhbnaa

namespace Go.Proofs.Ytiajdaagamhbnaa
open Sh RowKit Go.MapKept

theorem KKc : KeyK Try.prog 58 3 28 (.int .i64) kI := ⟨by kernel_rfl, by kernel_rfl, fun a => by simp [kI, IsKey], fun a b h => by simpa [kI] using h⟩
theorem zero28 : zeroIs Try.prog 28 (.agg (cC (ctL []))) := by
  unfold zeroIs
  kernel_rfl
/-- a program's workflows -/
def flP (p : Int) (l : List Fl) : List Fl := l.filter fun f => decide (f.prog = p)
theorem flP_one (p : Int) (l : List Fl) (f : Fl) : flP p (l ++ [f]) = flP p l ++ (if f.prog = p then [f] else []) := by
  unfold flP
  rw [List.filter_append, List.filter_cons]
  by_cases c : f.prog = p <;> simp [c]
/-- the map of what each program's workflows come to -/
def MapOf (l : List Fl) (L : List (Int × Value)) : Prop := ∀ p, lk L p = if flP p l = [] then none else some (.agg (cC (ctL (flP p l))))
theorem MapOf.get {l : List Fl} {L : List (Int × Value)} (h : MapOf l L) (p : Int) : (lk L p).getD (.agg (cC (ctL []))) = .agg (cC (ctL (flP p l))) := by
  rw [h p]
  by_cases c : flP p l = []
  · rw [if_pos c, c]; rfl
  · rw [if_neg c]; rfl
theorem MapOf.put {l : List Fl} {L : List (Int × Value)} (h : MapOf l L) (f : Fl) : MapOf (l ++ [f]) (put L f.prog (.agg (cC (ctL (flP f.prog l ++ [f]))))) := by
  intro p
  rw [lk_put, flP_one]
  by_cases c : p = f.prog
  · subst c
    rw [if_pos rfl, if_pos rfl, if_neg (by simp)]
  · rw [if_neg c, if_neg (Ne.symm c), List.append_nil]
    exact h p
theorem MapOf.nil : MapOf [] [] := by
  intro p
  rfl
theorem MapOf.keys {l : List Fl} {L : List (Int × Value)} (h : MapOf l L) (p : Int) : p ∈ L.map (·.1) ↔ ∃ f ∈ l, f.prog = p := by
  have h1 : p ∈ L.map (·.1) ↔ lk L p ≠ none := by
    rw [Ne, lk_none]
    constructor
    · intro hp e
      obtain ⟨q, hq, e2⟩ := List.mem_map.1 hp
      exact e q hq e2
    · intro hp
      apply Classical.byContradiction
      intro hn
      exact hp fun q hq e => hn (List.mem_map.2 ⟨q, hq, e⟩)
  rw [h1, h p]
  by_cases c : flP p l = []
  · rw [if_pos c]
    constructor
    · intro e; exact absurd rfl e
    · rintro ⟨f, hf, e⟩
      have : f ∈ flP p l := List.mem_filter.2 ⟨hf, by simpa using e⟩
      rw [c] at this; cases this
  · rw [if_neg c]
    constructor
    · intro _
      obtain ⟨f, hf⟩ := List.exists_mem_of_ne_nil _ c
      obtain ⟨h2, h3⟩ := List.mem_filter.1 hf
      exact ⟨f, h2, by simpa using h3⟩
    · intro _ e; cases e
/-- a line: a program, its workflows -/
def encL (x : Int × List Fl) : List Value := .int .i64 x.1 :: (cC (ctL x.2)).toList
theorem encL_len : ∀ x, (encL x).length = 7 := fun _ => rfl
theorem encL_one : ∀ x, ∀ c ∈ encL x, c.oneCell' = true := by
  intro x c hc
  rcases List.mem_cons.1 hc with rfl | hc
  · rfl
  · exact cC_one _ c hc
theorem build31 (p : Int) (x : Nat → Int) (w : World) : (Instr.build 31 #[(0, .int .i64 p), (1, .agg (cC x))]).run Try.prog w = .ok (.agg #[.int .i64 p, .int .i64 (x 0), .int .i64 (x 1), .int .i64 (x 2), .int .i64 (x 3), .int .i64 (x 4), .int .i64 (x 5)]) w := by
  kernel_rfl
section
variable {w : World} {Q : Value → World → Prop} {b : Nat} {lf : List Fl}
set_option maxRecDepth 20000 in
theorem by_loop {W : World} {v : Value} {j1 : Value → M} (hr : rdS 14 (eR encF) W v lf) (hl : lf.length ≤ 1000000) (hB : W.heap.size ≤ b) : ∀ (m i : Nat) (L : List (Int × Value)) (w : World), i + m = lf.length → Below W.heap.size W w → MapAt kI w b L → MapOf (lf.take i) L →
    (∀ w' L', Below W.heap.size W w' → MapAt kI w' b L' → MapOf lf L' → j1 (.map (some b)) w' Q) →
    itr (fun _ _ _ _ => bot) (f9_b2 j1) (m + 1) (.map (some b)) v (.int .i64 (lf.length : Int)) (.int .i64 (i : Int)) w Q := by
  intro m
  induction m with
  | zero =>
    intro i L w hi hb hm hc kk
    show f9_b2 _ _ _ _ _ _ w Q
    unfold f9_b2
    have c1 : ¬ (i : Int) < (lf.length : Int) := by omega
    simp only [↓reduceIte, ↓LL, LM, Value.cells, Nat.reduceAdd, Option.some.injEq, exists_eq_left', decide_true, decide_false, if_true, if_false, reduceCtorEq, cond_true, cond_false, c1]
    rw [List.take_of_length_le (by omega)] at hc
    exact kk w L hb hm hc
  | succ m ih =>
    intro i L w hi hb hm hc kk
    have hil : i < lf.length := by omega
    show f9_b2 _ _ _ _ _ _ w Q
    unfold f9_b2
    have c1 : (i : Int) < (lf.length : Int) := by omega
    have e5 : IntKind.i64.wrap ((i : Int) + 1) = ((i + 1 : Nat) : Int) := by rw [w64 (by omega) (by omega)]; omega
    simp only [lt_e, cnd_e, c1, decide_true, cond_true]
    refine take14 hr hb hil ?_
    have htk : lf.take (i + 1) = lf.take i ++ [lf[i]] := by rw [List.take_succ_eq_append_getElem hil]
    generalize lf[i] = f at *
    refine box14 rfl fun w1 h1 b1 => ?_
    have hm1 := hm.below b1
    have p1 : w1.cell? ⟨w.heap.size, 1, none⟩ = some (.int .i64 f.prog) := by rw [cell_of_blk (n := 1) h1]; rfl
    simp only [↓reduceIte, ↓LL, LM, Value.cells, Nat.reduceAdd, Option.some.injEq, exists_eq_left', decide_true, decide_false, if_true, if_false, reduceCtorEq, cond_true, cond_false, add_lit, Nat.zero_add, p1]
    refine (look_v KKc hm1 zero28 f.prog).mpr ?_
    rw [hc.get]
    have h2 := blk_psh_new (w := w1) (o := .cells #[.int .i64 0, .int .i64 0, .int .i64 0, .int .i64 0, .int .i64 0, .int .i64 0] 28)
    have b2 := b_psh w1 (.cells #[.int .i64 0, .int .i64 0, .int .i64 0, .int .i64 0, .int .i64 0, .int .i64 0] 28)
    show stn 6 _ _ _ (psh w1 (.cells #[.int .i64 0, .int .i64 0, .int .i64 0, .int .i64 0, .int .i64 0, .int .i64 0] 28)) Q
    refine stn_box (cs := cC (ctL (flP f.prog (lf.take i)))) h2 rfl rfl (cC_one _) fun w3 h3 u3 => ?_
    have b3 : Below w1.heap.size w1 w3 := b2.trans (u3.below (Nat.le_refl _))
    have h13 := stay b3 h1
    have hm3 := hm1.below b3
    refine ldn_box h13 rfl ?_
    rw [cl_e]
    refine f24_s h3 fun w4 h4 c4 => ?_
    have hlt : b < w1.heap.size := hm1.lt
    have hlt2 : w.heap.size < w1.heap.size := blk_lt h1
    have h14 := c4.keep h13 (by omega)
    have hm4 := hm3.chg c4 (by omega)
    have p4 : w4.cell? ⟨w.heap.size, 1, none⟩ = some (.int .i64 f.prog) := by rw [cell_of_blk (n := 1) h14]; rfl
    simp only [↓reduceIte, ↓LL, LM, Value.cells, Nat.reduceAdd, Option.some.injEq, exists_eq_left', decide_true, decide_false, if_true, if_false, reduceCtorEq, cond_true, cond_false, add_lit, Nat.zero_add, p4]
    refine ldn_box h4 rfl ?_
    refine upd_map KKc hm4 f.prog _ fun w5 hm5 u5 => ?_
    have b15 : Below W.heap.size W w5 := (bc (bt hb (bt b1 b3)) (Nat.le_trans hb.size b1.size) (bt hb (bt b1 b3)).size c4).trans (u5.below hB)
    simp only [↓reduceIte, ↓LL, LM, Value.cells, Nat.reduceAdd, Option.some.injEq, exists_eq_left', decide_true, decide_false, if_true, if_false, reduceCtorEq, cond_true, cond_false, e5]
    refine ih (i + 1) _ w5 (by omega) b15 hm5 ?_ kk
    rw [htk]
    exact hc.put f
set_option maxRecDepth 20000 in
theorem lines_loop {W : World} {j3 : Value → M} {ks : List Int} {L : List (Int × Value)} {kv : Value} (hk : rdI .i64 W kv ks) (hl : ks.length ≤ 1000000) (hm : MapAt kI W b L) (hc : MapOf lf L) {B : Nat} (hB : B ≤ W.heap.size) : ∀ (m i : Nat) (ov : Value) (w : World), i + m = ks.length → Below W.heap.size W w →
    ownE W.heap.size 31 7 encL w ov ((ks.take i).map fun p => (p, flP p lf)) →
    (∀ w' ov', Below W.heap.size W w' → ownE W.heap.size 31 7 encL w' ov' (ks.map fun p => (p, flP p lf)) → j3 ov' w' Q) →
    itr (fun _ _ _ _ _ => bot) (f9_b4 j3) (m + 1) (.map (some b)) ov kv (.int .i64 (ks.length : Int)) (.int .i64 (i : Int)) w Q := by
  intro m
  induction m with
  | zero =>
    intro i ov w hi hb ho kk
    show f9_b4 _ _ _ _ _ _ _ w Q
    unfold f9_b4
    have c1 : ¬ (i : Int) < (ks.length : Int) := by omega
    simp only [↓reduceIte, ↓LL, LM, Value.cells, Nat.reduceAdd, Option.some.injEq, exists_eq_left', decide_true, decide_false, if_true, if_false, reduceCtorEq, cond_true, cond_false, c1]
    rw [List.take_of_length_le (by omega)] at ho
    exact kk w ov hb ho
  | succ m ih =>
    intro i ov w hi hb ho kk
    have hil : i < ks.length := by omega
    show f9_b4 _ _ _ _ _ _ _ w Q
    unfold f9_b4
    have c1 : (i : Int) < (ks.length : Int) := by omega
    have e5 : IntKind.i64.wrap ((i : Int) + 1) = ((i + 1 : Nat) : Int) := by rw [w64 (by omega) (by omega)]; omega
    have e6 : (i : Int).toNat = i := Int.toNat_natCast i
    simp only [lt_e, cnd_e, c1, decide_true, cond_true]
    refine ia_ld (rdI_below hb hk) (by omega) (by omega) fun _ => ?_
    simp only [e6]
    have htk : ks.take (i + 1) = ks.take i ++ [ks[i]] := by rw [List.take_succ_eq_append_getElem hil]
    generalize ks[i] = p at *
    refine (look_v KKc (hm.below hb) zero28 p).mpr ?_
    rw [hc.get, smr_e]
    refine ⟨_, build31 _ _ _, ?_⟩
    have h31 : slT Try.prog 25 31 _ 7 _ := slt25
    refine bslE (x := (p, flP p lf)) (enc := encL) h31 rfl (by decide) (by decide) rfl fun w2 h2 hb2 => ?_
    have b2 := bt hb hb2
    have o2 := ownE_below ho hb2
    have hlt : ((ks.take i).map fun p => (p, flP p lf)).length = i := by rw [List.length_map, List.length_take]; omega
    refine ap_E (m := [(p, flP p lf)]) h31 rfl (by decide) encL_len encL_one o2 (rd_lit rfl h2) (by rw [hlt]; unfold maxLen; simp; omega) (by rw [hlt]; simp; omega) b2.size fun v3 w3 o3 g3 _ => ?_
    simp only [↓reduceIte, ↓LL, LM, Value.cells, Nat.reduceAdd, Option.some.injEq, exists_eq_left', decide_true, decide_false, if_true, if_false, reduceCtorEq, cond_true, cond_false, e5]
    refine ih (i + 1) v3 w3 (by omega) (b2.grown g3 b2.size (fun k hk => (ownE_blk o2 k hk).1)) ?_ kk
    rw [htk, List.map_append]
    exact o3
/-- the lines, program by program -/
theorem f9_s {W : World} {v : Value} (hr : rdS 14 (eR encF) W v lf) (hl : lf.length ≤ 1000) (hwf : ∀ f ∈ lf, (Lit.int .i64 f.prog).wf = true)
    (kk : ∀ w' ov (ks : List Int), Below W.heap.size W w' → ks.Pairwise (· < ·) → (∀ p, p ∈ ks ↔ ∃ f ∈ lf, f.prog = p) → ks.length ≤ 1000 → ownE W.heap.size 31 7 encL w' ov (ks.map fun p => (p, flP p lf)) → Q ov w') : f9 v W Q := by
  unfold f9
  refine mm_map (kv := kI) fun w1 hm1 b1 => ?_
  refine lnl_S hr ?_
  rw [jn_e]
  refine ⟨_, by_loop (W := W) hr (by omega) (Nat.le_refl _) lf.length 0 [] w1 (by omega) b1 hm1 MapOf.nil fun w2 L b2 hm2 hc2 => ?_⟩
  unfold f9_j1
  have hnd := hm2.nodup
  have hkeys := hc2.keys
  have hlen : L.length ≤ 1000 := by
    have this := List.Nodup.length_le_of_subset hnd (l₂ := lf.map (·.prog)) fun p hp => by
      obtain ⟨f, hf, e⟩ := (hkeys p).1 hp
      exact List.mem_map.2 ⟨f, hf, e⟩
    rw [List.length_map, List.length_map] at this
    omega
  refine keys_s hm2 (fun p hp => ?_) (by omega) fun w3 kv hkv b3 => ?_
  · obtain ⟨f, hf, e⟩ := (hkeys p.1).1 (List.mem_map.2 ⟨p, hp, rfl⟩)
    rw [← e]; exact hwf f hf
  have hm3 := hm2.below b3
  have rkv := ownI_rd hkv
  refine lnl_rd rkv ?_
  have hks : ((L.map (·.1)).mergeSort (fun x y => decide (x ≤ y))).Pairwise (· < ·) := by
    have h1 := (List.pairwise_mergeSort (le := fun x y : Int => decide (x ≤ y)) (fun a b c h1 h2 => by simp at *; omega) (fun a b => by simp; omega) (L.map (·.1)))
    have h2 : ((L.map (·.1)).mergeSort (fun x y => decide (x ≤ y))).Nodup := (List.mergeSort_perm _ _).nodup_iff.2 hnd
    refine (h1.and h2).imp ?_
    rintro a b ⟨h3, h4⟩
    have h3 : a ≤ b := by simpa using h3
    have h4 : a ≠ b := h4
    omega
  have hmem : ∀ p, p ∈ (L.map (·.1)).mergeSort (fun x y => decide (x ≤ y)) ↔ ∃ f ∈ lf, f.prog = p := fun p => by
    rw [(List.mergeSort_perm _ _).mem_iff]; exact hkeys p
  have hkl : ((L.map (·.1)).mergeSort (fun x y => decide (x ≤ y))).length ≤ 1000 := by rw [List.length_mergeSort, List.length_map]; exact hlen
  have b13 := bt b2 b3
  generalize (L.map (·.1)).mergeSort (fun x y => decide (x ≤ y)) = ks at *
  rw [jn_e]
  refine ⟨_, lines_loop (W := w3) (B := 0) rkv (by omega) hm3 hc2 (Nat.zero_le _) ks.length 0 (.slice none 0 0) w3 (by omega) (Below.refl _ _) ownE_nil fun w4 ov b4 o4 => ?_⟩
  unfold f9_j3
  rw [rt_e]
  exact kk w4 ov ks (bt b13 b4) hks hmem hkl (ownE_weak o4 b13.size)
end
end Go.Proofs.Ytiajdaagamhbnaa

namespace Go.Proofs.Ytiajdaagamhbnaa
open Sh RowKit Go.MapKept

def noV : Vl := ⟨0, 0, ⟨#[]⟩⟩
def litF (st steps : Int) : Fl := ⟨0, 0, noV, st, steps, 0, noV, 0, none, 0, 0, false⟩
theorem build55a (w : World) : (Instr.build 55 #[(3, .int .i64 1), (4, .int .i64 2)]).run Try.prog w = .ok (.agg (cF (litF 1 2))) w := by kernel_rfl
theorem build55b (w : World) : (Instr.build 55 #[(3, .int .i64 4), (4, .int .i64 3)]).run Try.prog w = .ok (.agg (cF (litF 4 3))) w := by kernel_rfl
theorem build55c (w : World) : (Instr.build 55 #[]).run Try.prog w = .ok (.agg (cF (litF 0 0))) w := by kernel_rfl
theorem slice2 (w : World) : (Instr.buildSlice 22 2 #[(0, .agg (cF (litF 1 2))), (1, .agg (cF (litF 4 3)))]).run Try.prog w = .ok (.slice (some ⟨w.heap.size, 0, none⟩) 2 2) (psh w (.cells (([litF 1 2, litF 4 3].flatMap encF).toArray) 55)) := by
  kernel_rfl
theorem rd_row {α : Type} {enc : α → List Value} {n : Nat} {e : TypeId} {w : World} {g : Nat} {l : List α} (hn : ∀ x, (enc x).length = n) (hn0 : 0 < n) (hl : l.length ≤ maxLen) (h : w.heap[g]? = some (.cells (l.flatMap enc).toArray e (0, 0))) :
    rdS n (eR enc) w (.slice (some ⟨g, 0, none⟩) l.length l.length) l := by
  have hf := flat_len hn l
  refine ownE_rd (B := 0) (e := e) hn hn0 ⟨by rw [hf], .inr ⟨g, l.length, (l.flatMap enc).toArray, rfl, Nat.zero_le _, h, Nat.le_refl _, hl, by simpa using hf, ?_⟩⟩
  rw [List.take_of_length_le (by simp only [List.toList_toArray]; omega)]
theorem build28 (w : World) : (Instr.build 28 #[(0, .int .i64 1), (3, .int .i64 1), (5, .int .i64 5)]).run Try.prog w = .ok (.agg (cC fun i => if i = 0 then 1 else if i = 3 then 1 else if i = 5 then 5 else 0)) w := by kernel_rfl
section
variable {w : World} {Q : Value → World → Prop}
theorem f7_s (kk : ∀ w', Below w.heap.size w w' → Q (.bool true) w') : f7 w Q := by
  unfold f7
  rw [smr_e]
  refine ⟨_, build55a _, ?_⟩
  rw [smr_e]
  refine ⟨_, build55b _, ?_⟩
  refine ⟨_, _, slice2 w, ?_⟩
  have h1 := blk_psh_new (w := w) (o := .cells (([litF 1 2, litF 4 3].flatMap encF).toArray) 55)
  have b1 := b_psh w (.cells (([litF 1 2, litF 4 3].flatMap encF).toArray) 55)
  generalize psh w (.cells (([litF 1 2, litF 4 3].flatMap encF).toArray) 55) = w1 at *
  show cl _ _ w1 Q
  rw [cl_e]
  refine f11_s (rd_row (l := [litF 1 2, litF 4 3]) encF_len (by decide) (by decide) h1) (by decide) fun w2 b2 => ?_
  have b12 := bt b1 b2
  rw [al_e]
  have h3 := blk_psh_new (w := w2) (o := .cells #[.int .i64 0, .int .i64 0, .int .i64 0, .int .i64 0, .int .i64 0, .int .i64 0] 28)
  have b3 := b_psh w2 (.cells #[.int .i64 0, .int .i64 0, .int .i64 0, .int .i64 0, .int .i64 0, .int .i64 0] 28)
  refine stn_box (cs := cC (ctL [litF 1 2, litF 4 3])) h3 rfl rfl (cC_one _) fun w4 h4 u4 => ?_
  have b4 := b12.trans ((b3.trans (u4.below (Nat.le_refl _))).mono b12.size)
  refine ldn_box h4 rfl ?_
  rw [smr_e]
  refine ⟨_, build28 _, ?_⟩
  rw [smr_e]
  refine ⟨_, eq28t (fun i hi => ?_) _ _ _, ?_⟩
  · have : i = 0 ∨ i = 1 ∨ i = 2 ∨ i = 3 ∨ i = 4 ∨ i = 5 := by omega
    rcases this with rfl | rfl | rfl | rfl | rfl | rfl <;> rfl
  simp only [↓reduceIte, ↓LL, LM, Value.cells, Nat.reduceAdd, Option.some.injEq, exists_eq_left', decide_true, decide_false, if_true, if_false, reduceCtorEq, cond_true, cond_false]
  rw [smr_e]
  refine ⟨_, build55c _, ?_⟩
  simp only [↓reduceIte, ↓LL, LM, Value.cells, Nat.reduceAdd, Option.some.injEq, exists_eq_left', decide_true, decide_false, if_true, if_false, reduceCtorEq, cond_true, cond_false]
  refine bslE (x := litF 0 0) (enc := encF) slt22 rfl (by decide) (by decide) rfl fun w5 h5 b5 => ?_
  simp only [↓reduceIte, ↓LL, LM, Value.cells, Nat.reduceAdd, Option.some.injEq, exists_eq_left', decide_true, decide_false, if_true, if_false, reduceCtorEq, cond_true, cond_false]
  refine f9_s (rd_lit rfl h5) (by decide) (fun f hf => by rw [List.mem_singleton.1 hf]; rfl) fun w6 ov ks b6 hp hm hl ho => ?_
  have hk : ks = [0] := by
    have h0 : (0 : Int) ∈ ks := (hm 0).2 ⟨litF 0 0, by simp, rfl⟩
    have h1 : ∀ p ∈ ks, p = 0 := fun p hp => by
      obtain ⟨f, hf, e⟩ := (hm p).1 hp
      rw [List.mem_singleton.1 hf] at e
      exact e.symm
    match ks, hp, h0, h1 with
    | [a], _, _, h1 => rw [h1 a (by simp)]
    | a :: b :: r, hp, _, h1 =>
      have e1 := h1 a (by simp)
      have e2 := h1 b (by simp)
      have := (List.pairwise_cons.1 hp).1 b (by simp)
      omega
  subst hk
  have ro := ownE_rd encL_len (by decide) ho
  try simp only [↓reduceIte, ↓LL, LM, Value.cells, Nat.reduceAdd, Option.some.injEq, exists_eq_left', decide_true, decide_false, if_true, if_false, reduceCtorEq, cond_true, cond_false]
  refine lnl_S ro ?_
  simp only [↓reduceIte, ↓LL, LM, Value.cells, Nat.reduceAdd, Option.some.injEq, exists_eq_left', decide_true, decide_false, if_true, if_false, reduceCtorEq, cond_true, cond_false, List.length_map, List.length_singleton, show (((1 : Nat) : Int) = 1) from rfl]
  exact kk w6 (bt (bt b4 b5) b6)
/-- the first 150 -/
theorem f8_s {v : Value} {l : List Fl} (hr : rdS 14 (eR encF) w v l) (kk : ∀ v', rdS 14 (eR encF) w v' (l.take 150) → Q v' w) : f8 v w Q := by
  unfold f8
  refine lnl_S hr ?_
  have e1 : (if (150 : Int) < (l.length : Int) then (150 : Int) else (l.length : Int)) = ((min l.length 150 : Nat) : Int) := by split <;> omega
  simp only [↓reduceIte, ↓LL, LM, Value.cells, Nat.reduceAdd, Option.some.injEq, exists_eq_left', decide_true, decide_false, if_true, if_false, reduceCtorEq, cond_true, cond_false, e1]
  refine sll_S hr (Nat.min_le_left _ _) fun v' hr' => ?_
  rw [rt_e]
  refine kk v' ?_
  have : l.take (min l.length 150) = l.take 150 := by
    rcases Nat.le_total l.length 150 with c | c
    · rw [Nat.min_eq_left c, List.take_of_length_le (Nat.le_refl _), List.take_of_length_le c]
    · rw [Nat.min_eq_right c]
  rw [← this]; exact hr'
end
end Go.Proofs.Ytiajdaagamhbnaa

namespace Go.Proofs.Ytiajdaagamhbnaa
open Sh RowKit Go.MapKept

section
variable {w : World} {Q : Value → World → Prop} {b : Nat} {l : List Fl}
end
end Go.Proofs.Ytiajdaagamhbnaa

namespace Go.Proofs.Ytiajdaagamhbnaa
open Sh RowKit Go.MapKept

theorem bs0 {t e : TypeId} {z : Value} {n b : Nat} {w : World} (h : slT Try.prog t e z n b) : (Instr.buildSlice t 0 #[]).run Try.prog w = .ok (.slice (some ⟨w.heap.size, 0, none⟩) 0 0) (psh w (.cells #[] e)) := by
  obtain ⟨i, h1, h2, h3, h4, h5⟩ := slT_info h
  simp only [Instr.buildSlice, underlying, Sem.run_bind, run_program, Result.andThen_ok, h1, Sem.run_pure, sizeOf, typeInfo, h2, h4, zeroValue, h3]
  have e0 : Array.map (fun (_ : Nat) => (default : Value)) (Array.range 0) = #[] := by apply Array.eq_empty_of_size_eq_zero; simp
  simp [Instr.fill, newRow, newObj, psh, Sem.run, e0]
section
variable {α : Type} {enc : α → List Value} {n : Nat} {P : Program} {w : World} {Q : Value → World → Prop} {K : Value → M}
theorem sn_eq {t e : TypeId} {p : Option Addr} {a c : Nat} {x y : Operand} (h : P.underlying t = some (.slice e)) : ((do eqGuard .eql t x y (.slice p a c) (.slice none 0 0); binOp .eql t (.slice p a c) (.slice none 0 0) : Sem Value)).run P w = .ok (.bool p.isNone) w := by
  simp [eqGuard, Go.Lib.run_eql_slice_nil w t e p a c 0 0 h]
/-- one taken from a list -/
theorem takeE {W : World} {v : Value} {l : List α} {i : Nat} (hn : ∀ x, (enc x).length = n) (hr : rdS n (eR enc) W v l) (hb : Below W.heap.size W w) (hi : i < l.length)
    (kk : K (.agg (enc l[i]).toArray) w Q) : ia n v (.int .i64 (i : Int)) (fun p => ldn n p K) w Q := by
  obtain ⟨a, es, e1, e2, e3, e4⟩ := rdS_at hr hi
  have e3 : es = enc l[i] := e3
  subst e3
  rw [e4]
  exact ldn_at (cellsAt_below hb e2) e1 kk
theorem boxE {e : TypeId} {z : Array Value} {x : α} (hn : ∀ x, (enc x).length = n) (h1 : ∀ x, ∀ c ∈ enc x, c.oneCell' = true) (hz : z.size = n) (kk : ∀ w', w'.heap[w.heap.size]? = some (.cells (enc x).toArray e (0, 0)) → Below w.heap.size w w' → K (.pointer (some ⟨w.heap.size, 0, none⟩)) w' Q) :
    al e z (fun p => stn n p (.agg (enc x).toArray) (K p)) w Q := by
  rw [al_e]
  refine stn_box (cs := (enc x).toArray) (blk_psh_new (w := w) (o := .cells z e)) hz (by simpa using hn x) (by simpa using h1 x) fun w3 hw3 hu3 => ?_
  exact kk w3 hw3 ((b_psh w (.cells z e)).trans (hu3.below (Nat.le_refl _)))
/-- a function that tells which are left out -/
def PredOf (P : Program) {β : Type} (V : World) (g : Nat) (f : Value) (hd : β → Value) (pr : β → Bool) : Prop := ∀ (x : β) (w : World) (K : Value → M) (Q : Value → World → Prop), Chg g V w →
  (∀ (w' : World), Below w.heap.size w w' → K (.bool (pr x)) w' Q) → cf P f #[hd x] K w Q
/-- the end of a row cleared, the beginning kept -/
theorem del_tail {B g cap k b ty : Nat} {t e : TypeId} {z : Value} {Y : List α} (ht : slT P t e z n b) (hz : z.cells.size = n) (hz1 : ∀ c ∈ z.cells.toList, c.oneCell' = true) (hn : ∀ x, (enc x).length = n) (hn0 : 0 < n) (hu : P.underlying t = some (.slice e))
    (ho : ownE B e n enc w (.slice (some ⟨g, 0, none⟩) Y.length cap) Y) (hk : k < Y.length)
    (kk : ∀ w', ownE B e n enc w' (.slice (some ⟨g, 0, none⟩) k cap) (Y.take k) → Upd g w w' → K (.slice (some ⟨g, 0, none⟩) k cap) w' Q) :
    sll n (.slice (some ⟨g, 0, none⟩) Y.length cap) (some (.int .i64 (k : Int))) none (fun t38 => sm P (Builtin.clear_ #[t] ty #[t38]) (fun _ => sll n (.slice (some ⟨g, 0, none⟩) Y.length cap) none (some (.int .i64 (k : Int))) K)) w Q := by
  obtain ⟨g', cap', cur, e1, hob, hgB, hg, hcl, hcm, hcs, hct⟩ := ownE_open ho (by omega)
  cases e1
  refine ⟨some ⟨g, 0, none⟩, Y.length, cap, k, Y.length, rfl, rfl, ⟨_, _, rfl, by omega, by omega, by omega⟩, ?_⟩
  rw [if_neg (by omega)]
  obtain ⟨i, g1, g2, g3, g4, g5⟩ := slT_info ht
  have hzc : (Builtin.zeroCells z.cells (Y.length - k)).size = (Y.length - k) * n := by simp [Builtin.zeroCells, hz]
  have hin : k * n + (Y.length - k) * n = Y.length * n := by rw [← Nat.add_mul]; congr 1; omega
  have hcap : Y.length * n ≤ cap * n := Nat.mul_le_mul_right _ hcl
  have hst := run_storeCells_at (P := P) g (k * n) e (Builtin.zeroCells z.cells (Y.length - k)).toList 0 cur w hg (by simp only [Array.length_toList, hzc, Nat.add_zero]; omega) (by
    intro v hv
    simp only [Builtin.zeroCells, Array.toList_map, List.mem_map] at hv
    obtain ⟨j, hj, rfl⟩ := hv
    have hm : j % z.cells.size < z.cells.size := Nat.mod_lt _ (by omega)
    rw [getElem!_pos z.cells _ hm]
    exact hz1 _ (by simp))
  obtain ⟨u1, u2⟩ := Upd_setRow (cs := (cur.toList.take (k * n + 0) ++ (Builtin.zeroCells z.cells (Y.length - k)).toList ++ cur.toList.drop (k * n + 0 + (Builtin.zeroCells z.cells (Y.length - k)).toList.length)).toArray) hg
  obtain ⟨m, hm⟩ : ∃ m, Y.length - k = m + 1 := ⟨Y.length - k - 1, by omega⟩
  have hrun : (Builtin.clear_ #[t] ty #[.slice (some ⟨g, k * n, none⟩) (Y.length - k) (cap - k)]).run P w = .ok (.tuple #[]) (w.setRow g (cur.toList.take (k * n + 0) ++ (Builtin.zeroCells z.cells (Y.length - k)).toList ++ cur.toList.drop (k * n + 0 + (Builtin.zeroCells z.cells (Y.length - k)).toList.length)).toArray) := by
    rw [hm] at hst ⊢
    simp [Builtin.clear_, run_underlying hu, zeroValue, typeInfo, g2, g3, hst, Result.andThen]
  refine ⟨_, _, by rw [Option.map_some, add_lit, Nat.zero_add]; exact hrun, ?_⟩
  refine ⟨some ⟨g, 0, none⟩, Y.length, cap, 0, k, rfl, ⟨_, _, rfl, by omega, by omega, by omega⟩, rfl, ?_⟩
  have ev : (if cap = 0 then some (⟨g, 0, none⟩ : Addr) else (some (⟨g, 0, none⟩ : Addr)).map (fun x : Addr => x.add (0 * n))) = some ⟨g, 0, none⟩ := by split <;> simp [add_zero']
  rw [ev, Nat.sub_zero, Nat.sub_zero]
  refine kk _ ?_ u1
  have hlt : (Y.take k).length = k := by rw [List.length_take]; omega
  have hkl : k * n ≤ cur.toList.length := by simp; omega
  refine ⟨by rw [flat_len hn, hlt], .inr ⟨g, cap, _, by rw [hlt], hgB, u2, by omega, hcm, ?_, ?_⟩⟩
  · simp only [List.size_toArray, List.length_append, List.length_take, List.length_drop, Array.length_toList, hzc, hcs, Nat.add_zero]
    omega
  · simp only [Nat.add_zero, List.append_assoc, hlt]
    rw [List.take_append_of_le_length (by rw [List.length_take]; omega), List.take_take, Nat.min_self]
    have h5 := congrArg (List.take (k * n)) hct
    rw [List.take_take, Nat.min_eq_left (by omega)] at h5
    rw [h5]
    have h6 : (Y.take k).flatMap enc = (Y.flatMap enc).take (k * n) := by
      have h7 : Y.flatMap enc = (Y.take k).flatMap enc ++ (Y.drop k).flatMap enc := by rw [← List.flatMap_append, List.take_append_drop]
      have h8 : ((Y.take k).flatMap enc).length = k * n := by rw [flat_len hn, hlt]
      rw [h7, List.take_append_of_le_length (by omega)]
      exact (List.take_of_length_le (by omega)).symm
    rw [h6]
end
/-! a row cloned, the first one found, some of it left out (functions CL, IDX, DEL of the slices package at one element type) -/
section
variable {w V W : World} {Q : Value → World → Prop} {v cf : Value} {l : List Fl} {g : Nat} {pr : Fl → Bool}
theorem f29_s (h : rdS 14 (eR encF) w v l) (hsz : l.length * 144 ≤ 140737488355328) (kk : ∀ w' u, ownE w.heap.size 55 14 encF w' u l → Below w.heap.size w w' → Q u w') : f29 v w Q := by
  unfold f29
  obtain ⟨p, c, hv⟩ := rdS_len h
  refine Eq.mpr (smr_run (by rw [hv]; exact sn_eq Try.underlying22)) ?_
  cases p with
  | none =>
    have hr0 : l = [] := by
      rcases h with ⟨_, h⟩ | ⟨a, c', e, _⟩
      · exact h
      · rw [hv] at e; cases e
    subst hr0
    simp only [↓reduceIte, ↓LL, LM, Value.cells, Nat.reduceAdd, Option.some.injEq, exists_eq_left', decide_true, decide_false, if_true, if_false, reduceCtorEq, cond_true, cond_false, Option.isNone]
    exact kk w _ ownE_nil (Below.refl _ w)
  | some a =>
    simp only [↓reduceIte, ↓LL, LM, Value.cells, Nat.reduceAdd, Option.some.injEq, exists_eq_left', decide_true, decide_false, if_true, if_false, reduceCtorEq, cond_true, cond_false, Option.isNone]
    refine ⟨_, _, bs0 slt22, ?_⟩
    have b1 := b_psh w (.cells #[] 55)
    have o1 : ownE w.heap.size 55 14 encF (psh w (.cells #[] 55)) (.slice (some ⟨w.heap.size, 0, none⟩) 0 0) ([] : List Fl) := ⟨by simp, .inr ⟨w.heap.size, 0, #[], rfl, Nat.le_refl _, blk_psh_new, Nat.le_refl _, by unfold maxLen; omega, by simp, by simp⟩⟩
    refine ap_E (m := l) slt22 rfl (by decide) encF_len encF_one o1 (rdS_below eR_st b1 h) (by unfold maxLen; simp; omega) (by simpa using hsz) b1.size fun v2 w2 o2 g2 _ => ?_
    simp only [↓reduceIte, ↓LL, LM, Value.cells, Nat.reduceAdd, Option.some.injEq, exists_eq_left', decide_true, decide_false, if_true, if_false, reduceCtorEq, cond_true, cond_false]
    rw [List.nil_append] at o2
    exact kk w2 v2 o2 (b1.grown g2 b1.size (fun k hk => (ownE_blk o1 k hk).1))
end
end Go.Proofs.Ytiajdaagamhbnaa

namespace Go.Proofs.Ytiajdaagamhbnaa
open Sh RowKit Go.MapKept

def cmpI (a b : Int) : Int := if a < b then -1 else if b < a then 1 else 0
section
variable {w V W : World} {Q : Value → World → Prop} {v : Value} {l : List Fl} {b : Nat}
end
end Go.Proofs.Ytiajdaagamhbnaa

namespace Go.Proofs.Ytiajdaagamhbnaa
open Sh RowKit Go.MapKept

section
variable {w V W : World} {Q : Value → World → Prop} {v : Value} {l : List Fl} {b : Nat}
end
end Go.Proofs.Ytiajdaagamhbnaa

namespace Go.Proofs.Ytiajdaagamhbnaa
open Sh RowKit Go.MapKept

section
variable {α : Type} {enc : α → List Value} {n b : Nat} {P : Program} {w0 : World} {Q : Value → World → Prop} {K : Value → M} {t e : TypeId} {z u1 u2 xv : Value} {l1 l2 : List α} {x : α} {C : World → Prop}
end
/-- the programs so far -/
def PrL (l : List Fl) (acc : List Int) : Prop := acc.Pairwise (· < ·) ∧ ∀ p, p ∈ acc ↔ ∃ f ∈ l, f.prog = p
theorem PrL.len {l : List Fl} {a : List Int} (ha : PrL l a) : a.length ≤ l.length := by
  have na : a.Nodup := ha.1.imp (fun h => by omega)
  have := List.Nodup.length_le_of_subset na (l₂ := l.map (·.prog)) fun p hp => by
    obtain ⟨f, hf, e⟩ := (ha.2 p).1 hp
    exact List.mem_map.2 ⟨f, hf, e⟩
  rwa [List.length_map] at this
theorem PrL.there {l : List Fl} {a : List Int} {f : Fl} (ha : PrL l a) (h : f.prog ∈ a) : PrL (l ++ [f]) a := by
  refine ⟨ha.1, fun p => ?_⟩
  rw [ha.2]
  constructor
  · rintro ⟨g, hg, e⟩; exact ⟨g, List.mem_append_left _ hg, e⟩
  · rintro ⟨g, hg, e⟩
    rcases List.mem_append.1 hg with hg | hg
    · exact ⟨g, hg, e⟩
    · rw [List.mem_singleton.1 hg] at e
      subst e
      exact (ha.2 _).1 h
theorem PrL.ins {l : List Fl} {a : List Int} {f : Fl} {k : Nat} (ha : PrL l a) (hk : k ≤ a.length) (h1 : ∀ x ∈ a.take k, x < f.prog) (h2 : ∀ x ∈ a.drop k, f.prog < x) : PrL (l ++ [f]) (a.take k ++ [f.prog] ++ a.drop k) := by
  have hs := ha.1
  rw [← List.take_append_drop k a, List.pairwise_append] at hs
  refine ⟨?_, fun p => ?_⟩
  · rw [List.pairwise_append]
    refine ⟨?_, hs.2.1, fun x hx y hy => ?_⟩
    · rw [List.pairwise_append]
      exact ⟨hs.1, by simp, fun x hx y hy => by rw [List.mem_singleton.1 hy]; exact h1 x hx⟩
    · rcases List.mem_append.1 hx with hx | hx
      · exact hs.2.2 x hx y hy
      · rw [List.mem_singleton.1 hx]; exact h2 y hy
  · have hm : p ∈ a ↔ p ∈ a.take k ∨ p ∈ a.drop k := by rw [← List.mem_append, List.take_append_drop]
    constructor
    · intro hp
      rcases List.mem_append.1 hp with hp | hp
      · rcases List.mem_append.1 hp with hp | hp
        · obtain ⟨g, hg, e⟩ := (ha.2 p).1 (hm.2 (.inl hp)); exact ⟨g, List.mem_append_left _ hg, e⟩
        · exact ⟨f, by simp, (List.mem_singleton.1 hp).symm⟩
      · obtain ⟨g, hg, e⟩ := (ha.2 p).1 (hm.2 (.inr hp)); exact ⟨g, List.mem_append_left _ hg, e⟩
    · rintro ⟨g, hg, e⟩
      rcases List.mem_append.1 hg with hg | hg
      · rcases hm.1 ((ha.2 p).2 ⟨g, hg, e⟩) with h | h
        · exact List.mem_append_left _ (List.mem_append_left _ h)
        · exact List.mem_append_right _ h
      · rw [List.mem_singleton.1 hg] at e
        subst e
        simp
section
variable {w V W : World} {Q : Value → World → Prop} {v ov : Value} {l : List Fl} {acc : List Int} {i : Nat}
end
end Go.Proofs.Ytiajdaagamhbnaa

namespace Go.Proofs.Ytiajdaagamhbnaa
open Sh RowKit Go.MapKept

namespace Sh
open Srt
theorem rdNg {β : Type} {e : TypeId} {enc : β → List Value} {Mm : β → Prop} {rest : List Value} {g n c N : Nat} {w : World} {L : List (β × Nat)} {Q : Value → World → Prop} {K : Value → M} {k : IntKind} {i : Nat} {x : β × Nat} (h : BkAt e enc Mm rest g w L) (hN : L.length = N) (hn : ∀ x, (enc x).length = n) (h1 : ∀ x, ∀ v ∈ enc x, v.oneCell' = true) (hx : L[i]? = some x) (kk : K (.agg (enc x.1).toArray) w Q) :
    ia n (.slice (some ⟨g, 0, none⟩) N c) (.int k (i : Int)) (fun p => gd (.bool true) true (ldn n p) K) w Q := rdN h hN hn h1 hx kk
end Sh
section
variable {w V W : World} {Q : Value → World → Prop} {v ov pv lv : Value} {l : List Fl} {ks : List Int}
end
end Go.Proofs.Ytiajdaagamhbnaa

set_option maxRecDepth 20000
set_option maxHeartbeats 4000000
namespace Go.Proofs.Ytiajdaagamhbnaa
open Sh RowKit Go.MapKept Srt
/-! stable sorting: insertion, exchange of ranges, rotation (functions INS, SWR, ROT of the slices package at one element type) -/
section
variable {β : Type} {e : TypeId} {enc : β → List Value} {le : β → β → Bool} {Mm : β → Prop} {rest : List Value} {g c N : Nat} {V w : World} {cf : Value} {Q : Value → World → Prop}
theorem f80_loop (hn14 : ∀ x, (enc x).length = 14) (h1c : ∀ x, ∀ v ∈ enc x, v.oneCell' = true) {P A M B R : List (β × Nat)} (hAB : A.length = B.length) (hN : (P ++ A ++ M ++ B ++ R).length = N) (hbd : N ≤ 281474976710656) : ∀ (d m i : Nat) (w : World), i + d = A.length → d < m →
    BkAt e enc Mm rest g w (P ++ (B.take i ++ A.drop i) ++ M ++ (A.take i ++ B.drop i) ++ R) → Chg g V w → (∀ w', BkAt e enc Mm rest g w' (P ++ B ++ M ++ A ++ R) → Chg g V w' → Q (.tuple #[]) w') →
    itr (fun _ _ _ _ _ => bot) f80_b1 m (.slice (some ⟨g, 0, none⟩) N c) (.int .i64 (P.length : Nat)) (.int .i64 ((P.length + A.length + M.length : Nat) : Int)) (.int .i64 (A.length : Nat)) (.int .i64 (i : Int)) w Q := by
  intro d
  induction d with
  | zero =>
    intro m i w hi hm hB hC kk
    obtain ⟨m, rfl⟩ : ∃ x, m = x + 1 := ⟨m - 1, by omega⟩
    show f80_b1 _ _ _ _ _ _ w Q
    unfold f80_b1
    have cc : ¬ (i : Int) < (A.length : Nat) := by omega
    try simp only [↓reduceIte, ↓LL, LM, Value.cells, Nat.reduceAdd, Option.some.injEq, exists_eq_left', decide_true, decide_false, if_true, if_false, reduceCtorEq, cond_true, cond_false, cc]
    rw [List.take_of_length_le (by omega : B.length ≤ i), List.drop_of_length_le (by omega : A.length ≤ i), List.take_of_length_le (by omega : A.length ≤ i), List.drop_of_length_le (by omega : B.length ≤ i), List.append_nil, List.append_nil] at hB
    exact kk w hB hC
  | succ d ih =>
    intro m i w hi hm hB hC kk
    obtain ⟨m, rfl⟩ : ∃ x, m = x + 1 := ⟨m - 1, by omega⟩
    show f80_b1 _ _ _ _ _ _ w Q
    unfold f80_b1
    have cc : (i : Int) < (A.length : Nat) := by omega
    have hiA : i < A.length := by omega
    have hiB : i < B.length := by omega
    simp only [List.length_append] at hN
    have e1 : IntKind.i64.wrap (((P.length : Nat) : Int) + (i : Int)) = ((P.length + i : Nat) : Int) := by rw [w64 (by omega) (by omega)]; omega
    have e2 : IntKind.i64.wrap (((P.length + A.length + M.length : Nat) : Int) + (i : Int)) = ((P.length + A.length + M.length + i : Nat) : Int) := by rw [w64 (by omega) (by omega)]; omega
    have e3 : IntKind.i64.wrap ((i : Int) + 1) = ((i + 1 : Nat) : Int) := by rw [w64 (by omega) (by omega)]; rfl
    have hB := hB.drw
    have hC := hC.drw
    have hL : P ++ (B.take i ++ A.drop i) ++ M ++ (A.take i ++ B.drop i) ++ R = (P ++ B.take i) ++ A[i] :: ((A.drop (i + 1) ++ M ++ A.take i) ++ B[i] :: (B.drop (i + 1) ++ R)) := by
      rw [List.drop_eq_getElem_cons hiA, List.drop_eq_getElem_cons hiB]; simp only [List.append_assoc, List.cons_append]
    have hlen : (P ++ (B.take i ++ A.drop i) ++ M ++ (A.take i ++ B.drop i) ++ R).length = N := by simp; omega
    obtain ⟨g1, g2, k1, k2, x1, x2⟩ := line_get (i := P.length + i) (j := P.length + A.length + M.length + i) hL (by simp; omega) (by simp; omega)
    try simp only [↓reduceIte, ↓LL, LM, Value.cells, Nat.reduceAdd, Option.some.injEq, exists_eq_left', decide_true, decide_false, if_true, if_false, reduceCtorEq, cond_true, cond_false, cc, e1, e2, e3]
    first | refine rdN hB hlen hn14 h1c g2 ?_ | refine rdNg hB hlen hn14 h1c g2 ?_
    try simp only [↓reduceIte, ↓LL, LM, Value.cells, Nat.reduceAdd, Option.some.injEq, exists_eq_left', decide_true, decide_false, if_true, if_false, reduceCtorEq, cond_true, cond_false, cc, e1, e2, e3]
    first | refine rdN hB hlen hn14 h1c g1 ?_ | refine rdNg hB hlen hn14 h1c g1 ?_
    try simp only [↓reduceIte, ↓LL, LM, Value.cells, Nat.reduceAdd, Option.some.injEq, exists_eq_left', decide_true, decide_false, if_true, if_false, reduceCtorEq, cond_true, cond_false, cc, e1, e2, e3]
    refine stN hB hlen hn14 h1c k1 (hB.mem _ (List.mem_of_getElem? g2)) fun w1 b1 u1 => ?_
    try simp only [↓reduceIte, ↓LL, LM, Value.cells, Nat.reduceAdd, Option.some.injEq, exists_eq_left', decide_true, decide_false, if_true, if_false, reduceCtorEq, cond_true, cond_false, cc, e1, e2, e3]
    refine stN b1 (by rw [List.length_set]; exact hlen) hn14 h1c (by rw [List.length_set]; exact k2) (hB.mem _ (List.mem_of_getElem? g1)) fun w2 b2 u2 => ?_
    rw [x1] at b2
    try simp only [↓reduceIte, ↓LL, LM, Value.cells, Nat.reduceAdd, Option.some.injEq, exists_eq_left', decide_true, decide_false, if_true, if_false, reduceCtorEq, cond_true, cond_false, cc, e1, e2, e3]
    refine ih m (i + 1) w2 (by omega) (by omega) ?_ (u2c hC u1 u2) kk
    rw [List.take_succ_eq_append_getElem hiA, List.take_succ_eq_append_getElem hiB]
    have e : (P ++ B.take i) ++ B[i] :: ((A.drop (i + 1) ++ M ++ A.take i) ++ A[i] :: (B.drop (i + 1) ++ R)) = P ++ (B.take i ++ [B[i]] ++ A.drop (i + 1)) ++ M ++ (A.take i ++ [A[i]] ++ B.drop (i + 1)) ++ R := by simp only [List.append_assoc, List.cons_append, List.nil_append]
    rw [← e]; exact b2
/-- two ranges exchanged -/
theorem f80_s (hn14 : ∀ x, (enc x).length = 14) (h1c : ∀ x, ∀ v ∈ enc x, v.oneCell' = true) {P A M B R : List (β × Nat)} {a b n : Nat} (hAB : A.length = B.length) (hN : (P ++ A ++ M ++ B ++ R).length = N) (hbd : N ≤ 281474976710656) (hB : BkAt e enc Mm rest g w (P ++ A ++ M ++ B ++ R)) (hC : Chg g V w) (ha : a = P.length) (hb : b = P.length + A.length + M.length) (hn' : n = A.length)
    {t4 : Value} (kk : ∀ w', BkAt e enc Mm rest g w' (P ++ B ++ M ++ A ++ R) → Chg g V w' → Q (.tuple #[]) w') : f80 (.slice (some ⟨g, 0, none⟩) N c) (.int .i64 (a : Int)) (.int .i64 (b : Int)) (.int .i64 (n : Int)) t4 w Q := by
  subst ha hb hn'
  unfold f80
  exact ⟨_, f80_loop hn14 h1c hAB hN hbd A.length (A.length + 1) 0 w (by omega) (by omega) (by simpa using hB) hC kk⟩
theorem f73_loop (hn14 : ∀ x, (enc x).length = 14) (h1c : ∀ x, ∀ v ∈ enc x, v.oneCell' = true) {tgt : List (β × Nat)} {mm : Nat} (hbd : N ≤ 281474976710656) {t4 : Value} : ∀ (d m : Nat) (P A B R : List (β × Nat)) (w : World), A.length + B.length ≤ d → d < m → 0 < A.length → 0 < B.length → (P ++ A ++ B ++ R).length = N → P ++ B ++ A ++ R = tgt → mm = P.length + A.length →
    BkAt e enc Mm rest g w (P ++ A ++ B ++ R) → Chg g V w → (∀ w', BkAt e enc Mm rest g w' tgt → Chg g V w' → Q (.tuple #[]) w') →
    itr (fun _ _ _ _ _ => bot) (f73_b2 f73_j1) m (.slice (some ⟨g, 0, none⟩) N c) (.int .i64 (mm : Int)) t4 (.int .i64 (A.length : Nat)) (.int .i64 (B.length : Nat)) w Q := by
  intro d
  induction d with
  | zero => intro m P A B R w hd hm hA hB; omega
  | succ d ih =>
    intro m P A B R w hd hm hA hB hN ht hmm hK hC kk
    obtain ⟨m, rfl⟩ : ∃ x, m = x + 1 := ⟨m - 1, by omega⟩
    show f73_b2 f73_j1 _ _ _ _ _ _ w Q
    unfold f73_b2
    have hN' := hN
    simp only [List.length_append] at hN'
    have e1 : IntKind.i64.wrap ((mm : Int) - (A.length : Nat)) = (P.length : Nat) := by rw [w64 (by omega) (by omega)]; omega
    by_cases heq : A.length = B.length
    · have heq' : ((A.length : Nat) : Int) = (B.length : Nat) := by omega
      try simp only [↓reduceIte, ↓LL, LM, Value.cells, Nat.reduceAdd, Option.some.injEq, exists_eq_left', decide_true, decide_false, if_true, if_false, reduceCtorEq, cond_true, cond_false, ne_eq, heq']
      unfold f73_j1
      rw [← heq']
      try simp only [↓reduceIte, ↓LL, LM, Value.cells, Nat.reduceAdd, Option.some.injEq, exists_eq_left', decide_true, decide_false, if_true, if_false, reduceCtorEq, cond_true, cond_false, e1]
      refine f80_s (P := P) (A := A) (M := []) (B := B) (R := R) hn14 h1c heq (by simpa using hN) hbd (by simpa using hK) hC rfl (by simpa using hmm) rfl fun w1 b1 c1 => ?_
      try simp only [↓reduceIte, ↓LL, LM, Value.cells, Nat.reduceAdd, Option.some.injEq, exists_eq_left', decide_true, decide_false, if_true, if_false, reduceCtorEq, cond_true, cond_false]
      refine kk w1 ?_ c1
      rw [← ht]
      simpa using b1
    · have heq' : ¬ ((A.length : Nat) : Int) = (B.length : Nat) := by omega
      by_cases hgt : B.length < A.length
      · have hgt' : ((B.length : Nat) : Int) < (A.length : Nat) := by omega
        have e2 : IntKind.i64.wrap (((A.length : Nat) : Int) - (B.length : Nat)) = ((A.length - B.length : Nat) : Int) := by rw [w64 (by omega) (by omega)]; omega
        try simp only [↓reduceIte, ↓LL, LM, Value.cells, Nat.reduceAdd, Option.some.injEq, exists_eq_left', decide_true, decide_false, if_true, if_false, reduceCtorEq, cond_true, cond_false, ne_eq, heq', hgt', e1, e2]
        obtain ⟨A1, A2, hA12, hl1⟩ : ∃ A1 A2, A = A1 ++ A2 ∧ A1.length = B.length := ⟨A.take B.length, A.drop B.length, (List.take_append_drop _ _).symm, by rw [List.length_take]; omega⟩
        have hl2 : A2.length = A.length - B.length := by have := congrArg List.length hA12; rw [List.length_append] at this; omega
        refine f80_s (P := P) (A := A1) (M := A2) (B := B) (R := R) hn14 h1c hl1 (by rw [hA12] at hN; simpa using hN) hbd (by rw [hA12] at hK; simpa using hK) hC rfl (by omega) hl1.symm fun w1 b1 c1 => ?_
        try simp only [↓reduceIte, ↓LL, LM, Value.cells, Nat.reduceAdd, Option.some.injEq, exists_eq_left', decide_true, decide_false, if_true, if_false, reduceCtorEq, cond_true, cond_false, e1, e2]
        have := ih m (P ++ B) A2 A1 R w1 (by omega) (by omega) (by omega) (by omega) (by rw [← hN, hA12]; simp only [List.length_append]; omega) (by rw [← ht, hA12]; simp only [List.append_assoc]) (by rw [List.length_append]; omega) b1 c1 kk
        rw [hl1, hl2] at this
        exact this
      · have hgt' : ¬ ((B.length : Nat) : Int) < (A.length : Nat) := by omega
        have e3 : IntKind.i64.wrap ((mm : Int) + (B.length : Nat)) = ((mm + B.length : Nat) : Int) := by rw [w64 (by omega) (by omega)]; omega
        have e4 : IntKind.i64.wrap (((mm + B.length : Nat) : Int) - (A.length : Nat)) = ((mm + B.length - A.length : Nat) : Int) := by rw [w64 (by omega) (by omega)]; omega
        have e2 : IntKind.i64.wrap (((B.length : Nat) : Int) - (A.length : Nat)) = ((B.length - A.length : Nat) : Int) := by rw [w64 (by omega) (by omega)]; omega
        try simp only [↓reduceIte, ↓LL, LM, Value.cells, Nat.reduceAdd, Option.some.injEq, exists_eq_left', decide_true, decide_false, if_true, if_false, reduceCtorEq, cond_true, cond_false, ne_eq, heq', hgt', e1, e2, e3, e4]
        obtain ⟨B1, B2, hB12, hl1⟩ : ∃ B1 B2, B = B1 ++ B2 ∧ B2.length = A.length := ⟨B.take (B.length - A.length), B.drop (B.length - A.length), (List.take_append_drop _ _).symm, by rw [List.length_drop]; omega⟩
        have hl2 : B1.length = B.length - A.length := by have := congrArg List.length hB12; rw [List.length_append] at this; omega
        refine f80_s (P := P) (A := A) (M := B1) (B := B2) (R := R) hn14 h1c hl1.symm (by rw [hB12] at hN; simpa using hN) hbd (by rw [hB12] at hK; simpa using hK) hC rfl (by omega) rfl fun w1 b1 c1 => ?_
        try simp only [↓reduceIte, ↓LL, LM, Value.cells, Nat.reduceAdd, Option.some.injEq, exists_eq_left', decide_true, decide_false, if_true, if_false, reduceCtorEq, cond_true, cond_false, e1, e2]
        have := ih m P B2 B1 (A ++ R) w1 (by omega) (by omega) (by omega) (by omega) (by rw [← hN, hB12]; simp only [List.length_append]; omega) (by rw [← ht, hB12]; simp only [List.append_assoc]) (by omega) (by simpa using b1) c1 kk
        rw [hl1, hl2] at this
        exact this
/-- two neighbours exchanged -/
theorem f73_s (hn14 : ∀ x, (enc x).length = 14) (h1c : ∀ x, ∀ v ∈ enc x, v.oneCell' = true) {P A B R : List (β × Nat)} {a mm b : Nat} (hA : 0 < A.length) (hB : 0 < B.length) (hN : (P ++ A ++ B ++ R).length = N) (hbd : N ≤ 281474976710656) (hK : BkAt e enc Mm rest g w (P ++ A ++ B ++ R)) (hC : Chg g V w) (ha : a = P.length) (hm : mm = P.length + A.length) (hb : b = P.length + A.length + B.length)
    {t4 : Value} (kk : ∀ w', BkAt e enc Mm rest g w' (P ++ B ++ A ++ R) → Chg g V w' → Q (.tuple #[]) w') : f73 (.slice (some ⟨g, 0, none⟩) N c) (.int .i64 (a : Int)) (.int .i64 (mm : Int)) (.int .i64 (b : Int)) t4 w Q := by
  have hN' := hN
  simp only [List.length_append] at hN'
  have e1 : IntKind.i64.wrap ((mm : Int) - (a : Int)) = (A.length : Nat) := by rw [w64 (by omega) (by omega)]; omega
  have e2 : IntKind.i64.wrap ((b : Int) - (mm : Int)) = (B.length : Nat) := by rw [w64 (by omega) (by omega)]; omega
  unfold f73
  try simp only [↓reduceIte, ↓LL, LM, Value.cells, Nat.reduceAdd, Option.some.injEq, exists_eq_left', decide_true, decide_false, if_true, if_false, reduceCtorEq, cond_true, cond_false, e1, e2]
  exact ⟨_, f73_loop hn14 h1c hbd _ _ P A B R w (Nat.le_refl _) (Nat.lt_succ_self _) hA hB hN rfl hm hK hC kk⟩
end
/-! insertion -/
section
variable {β : Type} {e : TypeId} {enc : β → List Value} {le : β → β → Bool} {Mm : β → Prop} {rest : List Value} {g c N : Nat} {V w : World} {cf : Value} {Q : Value → World → Prop}
theorem f58_in (hn14 : ∀ x, (enc x).length = 14) (h1c : ∀ x, ∀ v ∈ enc x, v.oneCell' = true) (O : Ord le) (hcmp : CmpOf Try.prog V g cf (fun x => .agg (enc x).toArray) le Mm) (hbd : N ≤ 281474976710656) {P R : List (β × Nat)} {x : β × Nat} {tb ti : Value} {j2 : Value → Value → Value → Value → Value → M} : ∀ (d m : Nat) (S1 S2 : List (β × Nat)) (w : World), S1.length = d → d < m →
    (P ++ S1 ++ x :: (S2 ++ R)).length = N → BkAt e enc Mm rest g w (P ++ S1 ++ x :: (S2 ++ R)) → Chg g V w → Sd le (S1 ++ S2) → (∀ y ∈ S2, slt le x y) → (∀ y ∈ S1, y.2 < x.2) →
    (∀ w' S, BkAt e enc Mm rest g w' (P ++ S ++ R) → Chg g V w' → S.Perm (x :: (S1 ++ S2)) → Sd le S → j2 (.slice (some ⟨g, 0, none⟩) N c) (.int .i64 (P.length : Nat)) tb cf ti w' Q) →
    itr (fun _ _ _ _ _ _ => bot) (f58_b3 j2) m (.slice (some ⟨g, 0, none⟩) N c) (.int .i64 (P.length : Nat)) tb cf ti (.int .i64 ((P.length + S1.length : Nat) : Int)) w Q := by
  intro d
  induction d with
  | zero =>
    intro m S1 S2 w hd hm hN hB hC hs h2 hp kk
    obtain ⟨m, rfl⟩ : ∃ x, m = x + 1 := ⟨m - 1, by omega⟩
    show f58_b3 j2 _ _ _ _ _ _ _ w Q
    unfold f58_b3
    have h0 : S1 = [] := List.length_eq_zero_iff.1 hd
    subst h0
    have cc : ¬ ((P.length : Nat) : Int) < ((P.length + ([] : List (β × Nat)).length : Nat) : Int) := by simp
    try simp only [↓reduceIte, ↓LL, LM, Value.cells, Nat.reduceAdd, Option.some.injEq, exists_eq_left', decide_true, decide_false, if_true, if_false, reduceCtorEq, cond_true, cond_false, cc]
    refine kk (drw w) (x :: S2) (by simpa using hB.drw) hC.drw (by simp) (List.pairwise_cons.2 ⟨h2, by simpa using hs⟩)
  | succ d ih =>
    intro m S1 S2 w hd hm hN hB hC hs h2 hp kk
    obtain ⟨m, rfl⟩ : ∃ x, m = x + 1 := ⟨m - 1, by omega⟩
    show f58_b3 j2 _ _ _ _ _ _ _ w Q
    unfold f58_b3
    obtain ⟨S1', y, rfl⟩ : ∃ S1' y, S1 = S1' ++ [y] := by
      rcases List.eq_nil_or_concat S1 with h | ⟨l, y, h⟩
      · rw [h] at hd; simp at hd
      · exact ⟨l, y, by simpa using h⟩
    have hlen := hN
    have hN' := hN
    simp only [List.length_append, List.length_cons, List.length_nil] at hN'
    have cc : ((P.length : Nat) : Int) < ((P.length + (S1' ++ [y]).length : Nat) : Int) := by simp; omega
    have e1 : IntKind.i64.wrap (((P.length + (S1' ++ [y]).length : Nat) : Int) - 1) = ((P.length + S1'.length : Nat) : Int) := by rw [w64 (by simp; omega) (by simp; omega)]; simp; try omega
    have hL : P ++ (S1' ++ [y]) ++ x :: (S2 ++ R) = (P ++ S1') ++ y :: ([] ++ x :: (S2 ++ R)) := by simp
    obtain ⟨g1, g2, k1, k2, x1, x2⟩ := line_get (i := P.length + S1'.length) (j := P.length + (S1' ++ [y]).length) hL (by simp) (by simp; omega)
    have hBd := hB.drw
    have hCd := hC.drw
    have hx := hBd.mem _ (List.mem_of_getElem? g2)
    have hy := hBd.mem _ (List.mem_of_getElem? g1)
    try simp only [↓reduceIte, ↓LL, LM, Value.cells, Nat.reduceAdd, Option.some.injEq, exists_eq_left', decide_true, decide_false, if_true, if_false, reduceCtorEq, cond_true, cond_false, cc, e1]
    first | refine rdN hBd hlen hn14 h1c g2 ?_ | refine rdNg hBd hlen hn14 h1c g2 ?_
    try simp only [↓reduceIte, ↓LL, LM, Value.cells, Nat.reduceAdd, Option.some.injEq, exists_eq_left', decide_true, decide_false, if_true, if_false, reduceCtorEq, cond_true, cond_false, cc, e1]
    first | refine rdN hBd hlen hn14 h1c g1 ?_ | refine rdNg hBd hlen hn14 h1c g1 ?_
    try simp only [↓reduceIte, ↓LL, LM, Value.cells, Nat.reduceAdd, Option.some.injEq, exists_eq_left', decide_true, decide_false, if_true, if_false, reduceCtorEq, cond_true, cond_false, cc, e1]
    refine hcmp x.1 y.1 _ _ _ hCd hx hy fun w1 z b1 hz => ?_
    have hB1 := hBd.below b1
    have hC1 := hCd.trans (Chg.of_below b1)
    cases hle : le y.1 x.1 with
    | false =>
      have hz0 : z < 0 := hz.2 hle
      have hxy := slt_nle O hle
      try simp only [↓reduceIte, ↓LL, LM, Value.cells, Nat.reduceAdd, Option.some.injEq, exists_eq_left', decide_true, decide_false, if_true, if_false, reduceCtorEq, cond_true, cond_false, cc, hz0]
      have hB1 := hB1.drw
      have hC1 := hC1.drw
      try simp only [↓reduceIte, ↓LL, LM, Value.cells, Nat.reduceAdd, Option.some.injEq, exists_eq_left', decide_true, decide_false, if_true, if_false, reduceCtorEq, cond_true, cond_false, cc, e1]
      first | refine rdN hB1 hlen hn14 h1c g1 ?_ | refine rdNg hB1 hlen hn14 h1c g1 ?_
      try simp only [↓reduceIte, ↓LL, LM, Value.cells, Nat.reduceAdd, Option.some.injEq, exists_eq_left', decide_true, decide_false, if_true, if_false, reduceCtorEq, cond_true, cond_false, cc, e1]
      first | refine rdN hB1 hlen hn14 h1c g2 ?_ | refine rdNg hB1 hlen hn14 h1c g2 ?_
      try simp only [↓reduceIte, ↓LL, LM, Value.cells, Nat.reduceAdd, Option.some.injEq, exists_eq_left', decide_true, decide_false, if_true, if_false, reduceCtorEq, cond_true, cond_false, cc, e1]
      refine stN hB1 hlen hn14 h1c k2 hy fun w2 b2 u2 => ?_
      try simp only [↓reduceIte, ↓LL, LM, Value.cells, Nat.reduceAdd, Option.some.injEq, exists_eq_left', decide_true, decide_false, if_true, if_false, reduceCtorEq, cond_true, cond_false, cc, e1]
      refine stN b2 (by rw [List.length_set]; exact hlen) hn14 h1c (by rw [List.length_set]; exact k1) hx fun w3 b3 u3 => ?_
      rw [x2] at b3
      try simp only [↓reduceIte, ↓LL, LM, Value.cells, Nat.reduceAdd, Option.some.injEq, exists_eq_left', decide_true, decide_false, if_true, if_false, reduceCtorEq, cond_true, cond_false, cc, e1]
      have hC3 := (hC1.trans u2.chg).trans u3.chg
      rw [List.append_assoc] at hs
      refine ih m S1' (y :: S2) w3 (by simp at hd; omega) (by omega) (by rw [← hlen]; simp; try omega) (by simpa using b3) hC3 hs (fun u hu => ?_) (fun u hu => hp u (List.mem_append_left _ hu)) fun w' S bS cS pS sS => kk w' S bS cS (pS.trans ?_) sS
      · rcases List.mem_cons.1 hu with rfl | hu
        · exact hxy
        · exact h2 u hu
      · simp
    | true =>
      have hz0 : ¬ z < 0 := fun h => by rw [hz.1 h] at hle; cases hle
      have hyx := slt_le hle (hp y (by simp))
      try simp only [↓reduceIte, ↓LL, LM, Value.cells, Nat.reduceAdd, Option.some.injEq, exists_eq_left', decide_true, decide_false, if_true, if_false, reduceCtorEq, cond_true, cond_false, cc, hz0]
      refine kk w1 ((S1' ++ [y]) ++ x :: S2) (by simpa using hB1) hC1 List.perm_middle (sd_ins hs (fun u hu => ?_) h2)
      rcases List.mem_append.1 hu with hu | hu
      · refine slt_trans O ?_ hyx
        exact (sd_app.1 (sd_app.1 hs).1).2.2 u hu y (by simp)
      · rw [List.mem_singleton] at hu; subst hu; exact hyx
theorem f58_out (hn14 : ∀ x, (enc x).length = 14) (h1c : ∀ x, ∀ v ∈ enc x, v.oneCell' = true) (O : Ord le) (hcmp : CmpOf Try.prog V g cf (fun x => .agg (enc x).toArray) le Mm) (hbd : N ≤ 281474976710656) {P A R : List (β × Nat)} (hA : A.Pairwise (fun x y => x.2 < y.2)) (hN : (P ++ A ++ R).length = N) : ∀ (d m i : Nat) (S : List (β × Nat)) (w : World), i + d = A.length → d < m → 0 < i →
    S.Perm (A.take i) → Sd le S → BkAt e enc Mm rest g w (P ++ S ++ A.drop i ++ R) → Chg g V w → (∀ w' S, BkAt e enc Mm rest g w' (P ++ S ++ R) → Chg g V w' → S.Perm A → Sd le S → Q (.tuple #[]) w') →
    itr (fun _ _ _ _ _ => bot) f58_b1 m (.slice (some ⟨g, 0, none⟩) N c) (.int .i64 (P.length : Nat)) (.int .i64 ((P.length + A.length : Nat) : Int)) cf (.int .i64 ((P.length + i : Nat) : Int)) w Q := by
  intro d
  induction d with
  | zero =>
    intro m i S w hi hm h0 hp hs hB hC kk
    obtain ⟨m, rfl⟩ : ∃ x, m = x + 1 := ⟨m - 1, by omega⟩
    show f58_b1 _ _ _ _ _ _ w Q
    unfold f58_b1
    have cc : ¬ ((P.length + i : Nat) : Int) < ((P.length + A.length : Nat) : Int) := by omega
    try simp only [↓reduceIte, ↓LL, LM, Value.cells, Nat.reduceAdd, Option.some.injEq, exists_eq_left', decide_true, decide_false, if_true, if_false, reduceCtorEq, cond_true, cond_false, cc]
    rw [List.take_of_length_le (by omega)] at hp
    rw [List.drop_of_length_le (by omega), List.append_nil] at hB
    exact kk w S hB hC hp hs
  | succ d ih =>
    intro m i S w hi hm h0 hp hs hB hC kk
    obtain ⟨m, rfl⟩ : ∃ x, m = x + 1 := ⟨m - 1, by omega⟩
    show f58_b1 _ _ _ _ _ _ w Q
    unfold f58_b1
    have hiA : i < A.length := by omega
    have cc : ((P.length + i : Nat) : Int) < ((P.length + A.length : Nat) : Int) := by omega
    have hSl : S.length = i := by rw [hp.length_eq, List.length_take]; omega
    simp only [List.length_append] at hN
    have e1 : IntKind.i64.wrap (((P.length + i : Nat) : Int) + 1) = ((P.length + (i + 1) : Nat) : Int) := by rw [w64 (by omega) (by omega)]; rfl
    try simp only [↓reduceIte, ↓LL, LM, Value.cells, Nat.reduceAdd, Option.some.injEq, exists_eq_left', decide_true, decide_false, if_true, if_false, reduceCtorEq, cond_true, cond_false, cc]
    rw [List.drop_eq_getElem_cons hiA] at hB
    have e0 : ((P.length + i : Nat) : Int) = ((P.length + S.length : Nat) : Int) := by rw [hSl]
    rw [e0]
    refine ⟨_, f58_in hn14 h1c O hcmp hbd (P := P) (x := A[i]) (R := A.drop (i + 1) ++ R) S.length (S.length + 1) S [] w rfl (by omega) (by simp; omega) (by simp only [List.append_assoc, List.cons_append, List.nil_append] at hB ⊢; exact hB) hC (by simpa using hs) (fun y hy => by cases hy) (fun y hy => ?_) fun w1 S' b1 c1 p1 s1 => ?_⟩
    · have hy := hp.mem_iff.1 hy
      have hA' := hA
      rw [← List.take_append_drop i A, List.drop_eq_getElem_cons hiA, List.pairwise_append] at hA'
      exact hA'.2.2 y hy _ List.mem_cons_self
    · rw [hSl]
      unfold f58_j2
      try simp only [↓reduceIte, ↓LL, LM, Value.cells, Nat.reduceAdd, Option.some.injEq, exists_eq_left', decide_true, decide_false, if_true, if_false, reduceCtorEq, cond_true, cond_false, e1]
      refine ih m (i + 1) S' w1 (by omega) (by omega) (by omega) ?_ s1 (by simpa using b1) c1 kk
      rw [List.take_succ_eq_append_getElem hiA]
      rw [List.append_nil] at p1
      exact p1.trans ((hp.cons _).trans (List.perm_append_singleton _ _).symm)
/-- a part sorted by insertion -/
theorem f58_s (hn14 : ∀ x, (enc x).length = 14) (h1c : ∀ x, ∀ v ∈ enc x, v.oneCell' = true) (O : Ord le) (hcmp : CmpOf Try.prog V g cf (fun x => .agg (enc x).toArray) le Mm) (hbd : N ≤ 281474976710656) {P A R : List (β × Nat)} {a b : Nat} (hA : A.Pairwise (fun x y => x.2 < y.2)) (hN : (P ++ A ++ R).length = N) (hB : BkAt e enc Mm rest g w (P ++ A ++ R)) (hC : Chg g V w) (ha : a = P.length) (hb : b = P.length + A.length)
    (kk : ∀ w' S, BkAt e enc Mm rest g w' (P ++ S ++ R) → Chg g V w' → S.Perm A → Sd le S → Q (.tuple #[]) w') : f58 (.slice (some ⟨g, 0, none⟩) N c) (.int .i64 (a : Int)) (.int .i64 (b : Int)) cf w Q := by
  subst ha hb
  have hN' := hN
  simp only [List.length_append] at hN'
  have e1 : IntKind.i64.wrap (((P.length : Nat) : Int) + 1) = ((P.length + 1 : Nat) : Int) := by rw [w64 (by omega) (by omega)]; rfl
  unfold f58
  try simp only [↓reduceIte, ↓LL, LM, Value.cells, Nat.reduceAdd, Option.some.injEq, exists_eq_left', decide_true, decide_false, if_true, if_false, reduceCtorEq, cond_true, cond_false, e1]
  cases A with
  | nil =>
    refine ⟨1, ?_⟩
    show f58_b1 _ _ _ _ _ _ w Q
    unfold f58_b1
    have cc : ¬ ((P.length + 1 : Nat) : Int) < ((P.length + ([] : List (β × Nat)).length : Nat) : Int) := by simp; omega
    try simp only [↓reduceIte, ↓LL, LM, Value.cells, Nat.reduceAdd, Option.some.injEq, exists_eq_left', decide_true, decide_false, if_true, if_false, reduceCtorEq, cond_true, cond_false, cc]
    exact kk w [] hB hC (List.Perm.refl _) List.Pairwise.nil
  | cons x A =>
    refine ⟨_, f58_out hn14 h1c O hcmp hbd hA hN A.length (A.length + 1) 1 [x] w (by simp; omega) (by omega) (by omega) (by simp) (List.pairwise_singleton _ _) (by simpa using hB) hC kk⟩
end
end Go.Proofs.Ytiajdaagamhbnaa
