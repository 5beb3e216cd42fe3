/- Functions as predicate transformers, and that the machine does what they say, by program. -/
import Derived.Test.YtongpnolikkknaaGreatDoorZ1
import Derived.Lib.ConvBytes
import Derived.Laws.StructEq
import Derived.ChangeKeysEq
import Derived.Lib.AppendStr
import Derived.Laws.BytesArg
import Derived.Laws.OwnMore
import Derived.ChangeShapes
import Derived.Test.YtongpnolikkknaaGreatDoorRows
import Derived.Laws.Pointers
import Derived.Laws.Bits64b
import Derived.MapKept
import Derived.Maps.RangeRun
import Derived.DeepKeys5
import Derived.Maps.AppendAt
import Derived.Laws.CopyRow
import Derived.Laws.IdiomCopy
import Derived.Shelf.Abstract
import Derived.SizedLaws
import Derived.Carry
import Derived.ProofKit
import Derived.JoinedCond
import Derived.Deep.CondSized
import Derived.OpenShut
import Derived.Test.YtongpnolikkknaaGreatDoorTie
import Derived.LaidLaws
import Derived.LaidHandle
import Derived.SevenTiedAt
import Derived.Test.YtongpnolikkknaaGreatDoorCards
import GoSem.PinnedTables
set_option linter.unusedVariables false
set_option linter.unusedSimpArgs false
set_option linter.unusedSectionVars false
set_option maxRecDepth 20000
set_option maxHeartbeats 4000000
namespace Go.Proofs.YtongpnolikkknaaGreatDoor
open Sh
attribute [local irreducible] wpL anyG act jn lo gdB amb kp smr nc fa ld ldn st stn ad su mu qu re lt le gt ge eqi nei bws shl shr cat eqs nes lts gts eqb neb nt pk cv al bx ex fld fldn lnl lns ia iaa ixs sls sll sla mif mnm mxm mm asrt sm smu cl cc cf ci cnd gd gdu
def f60 (t0 : Value) : M := cl (f70 t0) fun t4 => nei .i64 t4 (.int .i64 0) fun t5 => cnd t5 ( rt (.string ⟨#[]⟩) ) ( nc t0 fun t7 => fa 1 t7 fun t8 => fa 20 t8 fun t9 => ld t9 fun t10 => rt t10 )
theorem s60 (t0 : Value) (w : World) (Q : Value → World → Prop) (h : f60 t0 w Q) : Calls Tryz.prog 60 #[t0] w (Rt Q) := by
  refine calls_of (l := [t0]) Tryz.func60 rfl Tryz.ntmps60 (Nat.le_of_ble_eq_true rfl) ?_
  unfold f60 at h
  refine wp_seq ?_
  refine L_region ?_
  refine L_as ?_
  refine L_nil ?_
  refine E_n ?_
  refine wp_seq ?_
  refine wp_seq ?_
  refine L_region ?_
  refine L_mv ?_
  refine L_u (N_cl Tryz.func70 rfl nn70 (fun w Q h => s70 _ w Q h) h) ?_
  intro v w h
  refine L_u (P_nei h) ?_
  intro v w h
  refine L_nil ?_
  refine E_n ?_
  refine C_cnd h (fun h => ?_) (fun h => ?_)
  · refine wp_seq ?_
    refine L_region ?_
    refine L_as ?_
    refine L_nil ?_
    refine E_n ?_
    refine C_ret ?_
    show bodyPost Tryz.prog Tryz.f60 (Rt Q) .ret _ _
    exact post_tmps (ts := [2]) (.inr rfl) rfl h
  · refine C_skip ?_
    refine E_n ?_
    refine wp_seq ?_
    refine L_region ?_
    refine L_mv ?_
    refine L_u (P_nc h) ?_
    intro v w h
    refine L_u (P_fa fo113_1 h) ?_
    intro v w h
    refine L_u (P_fa fo110_1 h) ?_
    intro v w h
    refine L_u (P_ld sc9 h) ?_
    intro v w h
    refine L_as ?_
    refine L_nil ?_
    refine E_n ?_
    refine C_ret ?_
    show bodyPost Tryz.prog Tryz.f60 (Rt Q) .ret _ _
    exact post_tmps (ts := [2]) (.inr rfl) rfl h

def f61 (t0 : Value) : M := nc t0 fun t4 => fa 3 t4 fun t5 => ld t5 fun t6 => cnd t6 ( rt (.string ⟨#[]⟩) ) ( nc t0 fun t8 => fa 1 t8 fun t9 => ld t9 fun t10 => ia 1 t10 (.int .i64 0) fun t11 => ld t11 fun t12 => sls t12 (some (.int .i64 20)) none fun t13 => rt t13 )
def f62_b2 (j1 : Value → M) (self2 : Value → Value → Value → Value → M) (t3 t10_1 t11_1 t12 : Value) : M := lt .i64 t12 t11_1 fun t13 => cnd t13 ( ia 2 t10_1 t12 fun t14 => ldn 2 t14 fun t15 => al 48 #[(.int .i64 0), (.string ⟨#[]⟩)] fun t5 => stn 2 t5 t15 <| fa 0 t5 fun t17 => ld t17 fun t18 => sm Tryz.prog (Instr.buildSlice 22 1 #[(0, t18)]) fun t19 => sm Tryz.prog (Builtin.append_ #[22, 22] 22 #[t3, t19]) fun t20 => ad .i64 t12 (.int .i64 1) fun t21 => self2 t20 t10_1 t11_1 t21 ) ( j1 t3 )
def f62_j1 (t3_1 : Value) : M := rt t3_1
def f62 (t0 : Value) : M := cl (f70 t0) fun t7 => nei .i64 t7 (.int .i64 0) fun t8 => cnd t8 ( rt (.slice none 0 0) ) ( cl (f104 t0) fun t10 => lnl t10 fun t11 => jn (fun (j1 : Value → M) => lo (fun _ _ _ _ => bot) (f62_b2 j1) (fun l => l (.slice none 0 0) t10 t11 (.int .i64 0)) ) (f62_j1) )
theorem s62 (t0 : Value) (w : World) (Q : Value → World → Prop) (h : f62 t0 w Q) : Calls Tryz.prog 62 #[t0] w (Rt Q) := by
  refine calls_of (l := [t0]) Tryz.func62 rfl Tryz.ntmps62 (Nat.le_of_ble_eq_true rfl) ?_
  unfold f62 at h
  refine wp_seq ?_
  refine L_region ?_
  refine L_as ?_
  refine L_nil ?_
  refine E_n ?_
  refine wp_seq ?_
  refine wp_seq ?_
  refine L_region ?_
  refine L_mv ?_
  refine L_u (N_cl Tryz.func70 rfl nn70 (fun w Q h => s70 _ w Q h) h) ?_
  intro v w h
  refine L_u (P_nei h) ?_
  intro v w h
  refine L_nil ?_
  refine E_n ?_
  refine C_cnd h (fun h => ?_) (fun h => ?_)
  · refine wp_seq ?_
    refine L_region ?_
    refine L_as ?_
    refine L_nil ?_
    refine E_n ?_
    refine C_ret ?_
    show bodyPost Tryz.prog Tryz.f62 (Rt Q) .ret _ _
    exact post_tmps (ts := [2]) (.inr rfl) rfl h
  · refine C_skip ?_
    refine E_n ?_
    refine wp_seq ?_
    refine L_region ?_
    refine L_as ?_
    refine L_nil ?_
    refine E_n ?_
    refine wp_seq ?_
    refine wp_seq ?_
    refine L_region ?_
    refine L_mv ?_
    refine L_u (N_cl Tryz.func104 rfl nn104 (fun w Q h => s104 _ w Q h) h) ?_
    intro v w h
    refine L_u (P_lnl is49 h) ?_
    intro v w h
    refine L_mv ?_
    refine L_nil ?_
    refine E_n ?_
    refine C_join (fun (k : Value → M) (ρ : Nat → Value) => k (ρ 3)) h (fun j1 J1 h => ?_) (fun ρ w h => ?_)
    · refine C_blk ?_
      refine C_lo (fun (l : Value → Value → Value → Value → M) (ρ : Nat → Value) => l (ρ 3) (ρ 10) (ρ 11) (ρ 12)) h (fun ρ w h => h) (fun nx self2 L2 ρ w h => ?_)
      unfold f62_b2 at h
      refine wp_seq ?_
      refine L_region ?_
      refine L_u (P_lt h) ?_
      intro v w h
      refine L_nil ?_
      refine E_n ?_
      refine wp_seq ?_
      refine C_cnd h (fun h => ?_) (fun h => ?_)
      · refine C_skip ?_
        refine E_n ?_
        refine wp_seq ?_
        refine C_blk ?_
        refine wp_seq ?_
        refine L_region ?_
        refine L_u (P_ia se49 h) ?_
        intro v w h
        refine L_u (P_ldn ag48 h) ?_
        intro v w h
        refine L_u (P_al ze48 rfl h) ?_
        intro v w h
        refine L_u (P_stn ag48 h) ?_
        intro w h
        refine L_nil ?_
        refine E_n ?_
        refine L_region ?_
        refine L_mv ?_
        refine L_u (P_fa fo48_0 h) ?_
        intro v w h
        refine L_u (P_ld sc3 h) ?_
        intro v w h
        refine L_u (N_bsl h) ?_
        intro v w h
        refine L_u (N_bi rfl h) ?_
        intro v w h
        refine L_as ?_
        refine L_nil ?_
        refine B_n ?_
        refine E_n ?_
        refine L_region ?_
        refine L_u (P_ad h) ?_
        intro v w h
        refine L_mv ?_
        refine L_nil ?_
        refine E_n ?_
        exact L2 _ _ h
      · refine C_exit ?_
        refine E_x ?_
        refine E_x ?_
        refine B_x ?_
        exact J1 _ _ h
    · unfold f62_j1 at h
      refine E_n ?_
      refine wp_seq ?_
      refine L_region ?_
      refine L_mv ?_
      refine L_as ?_
      refine L_nil ?_
      refine E_n ?_
      refine C_ret ?_
      show bodyPost Tryz.prog Tryz.f62 (Rt Q) .ret _ _
      exact post_tmps (ts := [2]) (.inr rfl) rfl h

def f11_b2 (j1 : Value → M) (self2 : Value → Value → Value → M) (t1_1 t5 t7 : Value) : M := lnl t1_1 fun t25 => lt .i64 t7 t25 fun t26 => cnd t26 ( dr <| idv t5 fun t29 => idv t1_1 fun t30 => idv t7 fun t31 => ia 3 t30 t31 fun t32 => ldn 3 t32 fun t33 => cl (f57 t29 t33) fun t34 => nt t34 fun t35 => idv t35 fun t36 => gd t36 false (idv t5) fun t37 => gd t36 false (nc t37) fun t38 => gd t36 false (fa 1 t38) fun t39 => gd t36 false (ld t39) fun t40 => gd t36 false (idv t5) fun t42 => gd t36 false (nc t42) fun t43 => gd t36 false (fa 3 t43) fun t44 => gd t36 false (ld t44) fun t45 => gd t36 false (cl (f19 t40)) fun t41 => kp (fun w => gdB t36 false = true → Kld t44 t45 w) <| gd t36 false (cl (f59 t45)) fun t46 => gd t36 false (nei .i64 t41 t46) fun t47 => pk t36 (.bool true) t47 fun t48 => idv t48 fun t49 => gd t49 false (idv t5) fun t50 => gd t49 false (nc t50) fun t51 => gd t49 false (fa 1 t51) fun t52 => gd t49 false (ld t52) fun t53 => gd t49 false (idv t5) fun t55 => gd t49 false (nc t55) fun t56 => gd t49 false (fa 3 t56) fun t57 => gd t49 false (ld t57) fun t58 => gd t49 false (cl (f60 t53)) fun t54 => kp (fun w => gdB t49 false = true → Kld t57 t58 w) <| gd t49 false (cl (f61 t58)) fun t59 => gd t49 false (nes t54 t59) fun t60 => pk t49 (.bool true) t60 fun t61 => idv t61 fun t62 => gd t62 false (idv t5) fun t63 => gd t62 false (nc t63) fun t64 => gd t62 false (fa 1 t64) fun t65 => gd t62 false (ld t65) fun t66 => gd t62 false (idv t5) fun t68 => gd t62 false (nc t68) fun t69 => gd t62 false (fa 3 t69) fun t70 => gd t62 false (ld t70) fun t71 => gd t62 false (cl (f62 t66)) fun t67 => kp (fun w => gdB t62 false = true → Kld t70 t71 w) <| gd t62 false (cl (f63 t71)) fun t72 => gd t62 false (cl (f33 t67 t72)) fun t73 => gd t62 false (nt t73) fun t74 => pk t62 (.bool true) t74 fun t75 => cnd t75 ( rt (.bool false) ) ( ad .i64 t7 (.int .i64 1) fun t28 => self2 t1_1 t5 t28 ) ) ( j1 t5 )
def f11_b4 (j3 : M) (self4 : Value → Value → M) (t5_2 t8 : Value) : M := nc t5_2 fun t78 => fa 2 t78 fun t79 => ld t79 fun t80 => nc t80 fun t81 => fa 0 t81 fun t82 => ld t82 fun t83 => lnl t83 fun t84 => lt .i64 t8 t84 fun t85 => cnd t85 ( nc t5_2 fun t90 => fa 0 t90 fun t91 => ld t91 fun t92 => cl (f27 t92 t8) fun t94 => ex 0 t94 fun t95 => ex 1 t94 fun t96 => nei .i64 t96 (.int .i64 0) fun t98 => gd t98 false (idv t95) fun t100 => gd t98 false (idv t5_2) fun t101 => gd t98 false (nc t101) fun t102 => gd t98 false (fa 2 t102) fun t103 => gd t98 false (ld t103) fun t104 => gd t98 false (nc t104) fun t105 => gd t98 false (fa 0 t105) fun t106 => gd t98 false (ld t106) fun t107 => gd t98 false (idv t8) fun t108 => gd t98 false (ia 1 t107 t108) fun t109 => gd t98 false (ld t109) fun t110 => gd t98 false (nes t100 t110) fun t111 => pk t98 (.bool true) t111 fun t112 => cnd t112 ( rt (.bool false) ) ( ad .i64 t8 (.int .i64 1) fun t87 => self4 t5_2 t87 ) ) ( j3 )
def f11_j3 : M := rt (.bool true)
def f11_j1 (t5_1 : Value) : M := jn (fun (j3 : M) => lo (fun _ _ => bot) (f11_b4 j3) (fun l => l t5_1 (.int .i64 0)) ) (f11_j3)
def f11 (t0 t1 : Value) : M := cl (f14) fun t11 => nt t11 fun t12 => cnd t12 ( rt (.bool false) ) ( cl (f15 t0) fun t15 => cl (f54 t15) fun t16 => ex 0 t16 fun t17 => ex 1 t16 fun t18 => nt t18 fun t20 => cnd t20 ( rt (.bool false) ) ( cl (f55 t1) fun t22 => jn (fun (j1 : Value → M) => lo (fun _ _ _ => bot) (f11_b2 j1) (fun l => l t22 t17 (.int .i64 0)) ) (f11_j1) ) )
def f12_j3 (self2 : Value → Value → Value → Value → M) (t1_2 t2_2 t7_1 t9_1 : Value) : M := ad .i64 t9_1 (.int .i64 1) fun t41 => self2 t1_2 t2_2 t7_1 t41
def f12_b2 (j1 : Value → Value → M) (self2 : Value → Value → Value → Value → M) (t1_1 t2_1 t7 t9 : Value) : M := lnl t1_1 fun t38 => lt .i64 t9 t38 fun t39 => cnd t39 ( ia 3 t1_1 t9 fun t44 => ldn 3 t44 fun t45 => cl (f56 t45) fun t46 => nei .i64 t46 (.int .i64 7) fun t47 => jn (fun (j3 : Value → Value → Value → Value → M) => cnd t47 ( ia 3 t1_1 t9 fun t51 => ldn 3 t51 fun t52 => cl (f57 t7 t52) fun t53 => j3 t1_1 t2_1 t7 t9 ) ( j3 t1_1 t2_1 t7 t9 ) ) (f12_j3 self2) ) ( j1 t2_1 t7 )
def f12_b5 (j4 : Value → Value → Value → Value → Value → Value → Value → M) (self5 : Value → Value → Value → Value → Value → Value → Value → Value → M) (t2_4 t7_3 t10 t11_1 t12_1 t13_1 t14 t15 : Value) : M := nc t7_3 fun t76 => fa 0 t76 fun t77 => ld t77 fun t78 => cl (f28 t78) fun t79 => lt .i64 t15 t79 fun t80 => cnd t80 ( nc t7_3 fun t85 => fa 1 t85 fun t86 => ld t86 fun t87 => cl (f65 t87 t15) fun t89 => ex 0 t89 fun t90 => ex 1 t89 fun t91 => sm Tryz.prog (Instr.buildSlice 100 1 #[(0, t90)]) fun t94 => sm Tryz.prog (Builtin.append_ #[100, 100] 100 #[t14, t94]) fun t95 => ad .i64 t15 (.int .i64 1) fun t82 => self5 t2_4 t7_3 t10 t11_1 t12_1 t13_1 t95 t82 ) ( j4 t2_4 t7_3 t10 t11_1 t12_1 t13_1 t14 )
def f12_j8 (self7 : Value → Value → Value → Value → Value → Value → Value → Value → M) (t2_7 t7_6 t10_3 t11_4 t12_4 t13_4 t14_3 t18_1 : Value) : M := ad .i64 t18_1 (.int .i64 1) fun t101 => self7 t2_7 t7_6 t10_3 t11_4 t12_4 t13_4 t14_3 t101
def f12_b7 (j6 : Value → Value → Value → Value → Value → Value → M) (self7 : Value → Value → Value → Value → Value → Value → Value → Value → M) (t2_6 t7_5 t10_2 t11_3 t12_3 t13_3 t14_2 t18 : Value) : M := lnl t2_6 fun t98 => lt .i64 t18 t98 fun t99 => cnd t99 ( ia 3 t2_6 t18 fun t104 => ldn 3 t104 fun t105 => cl (f56 t105) fun t106 => nei .i64 t106 (.int .i64 7) fun t107 => gd t107 true (idv t2_6) fun t109 => gd t107 true (idv t18) fun t110 => gd t107 true (ia 3 t109 t110) fun t111 => gd t107 true (ldn 3 t111) fun t112 => gd t107 true (cl (f56 t112)) fun t113 => gd t107 true (nei .i64 t113 (.int .i64 6)) fun t114 => pk t107 t114 (.bool false) fun t115 => jn (fun (j8 : Value → Value → Value → Value → Value → Value → Value → Value → M) => cnd t115 ( ia 3 t2_6 t18 fun t119 => ldn 3 t119 fun t120 => cl (f57 t7_5 t120) fun t121 => j8 t2_6 t7_5 t10_2 t11_3 t12_3 t13_3 t14_2 t18 ) ( j8 t2_6 t7_5 t10_2 t11_3 t12_3 t13_3 t14_2 t18 ) ) (f12_j8 self7) ) ( j6 t7_5 t10_2 t11_3 t12_3 t13_3 t14_2 )
def f12_b10 (j9 : M) (self10 : Value → Value → Value → M) (t7_8 t14_5 t19 : Value) : M := nc t7_8 fun t159 => fa 0 t159 fun t160 => ld t160 fun t161 => cl (f28 t161) fun t162 => lt .i64 t19 t162 fun t163 => cnd t163 ( nc t7_8 fun t168 => fa 1 t168 fun t169 => ld t169 fun t170 => cl (f65 t170 t19) fun t172 => ex 0 t172 fun t173 => ex 1 t172 fun t174 => ia 1 t14_5 t19 fun t178 => ld t178 fun t179 => nes t173 t179 fun t180 => cnd t180 ( rt (.bool false) ) ( ad .i64 t19 (.int .i64 1) fun t165 => self10 t7_8 t14_5 t165 ) ) ( j9 )
def f12_j9 : M := rt (.bool true)
def f12_j6 (t7_7 t10_4 t11_5 t12_5 t13_5 t14_4 : Value) : M := nc t7_7 fun t123 => fa 1 t123 fun t124 => ld t124 fun t125 => cl (f66 t125 t10_4) fun t127 => nei .i64 t127 (.int .i64 0) fun t128 => gd t128 false (idv t7_7) fun t130 => gd t128 false (nc t130) fun t131 => gd t128 false (fa 1 t131) fun t132 => gd t128 false (ld t132) fun t133 => gd t128 false (cl (f60 t133)) fun t134 => gd t128 false (idv t11_5) fun t135 => gd t128 false (nes t134 t135) fun t136 => pk t128 (.bool true) t136 fun t137 => gd t137 false (idv t7_7) fun t139 => gd t137 false (nc t139) fun t140 => gd t137 false (fa 1 t140) fun t141 => gd t137 false (ld t141) fun t142 => gd t137 false (cl (f19 t142)) fun t143 => gd t137 false (idv t12_5) fun t144 => gd t137 false (nei .i64 t143 t144) fun t145 => pk t137 (.bool true) t145 fun t146 => gd t146 false (idv t7_7) fun t148 => gd t146 false (nc t148) fun t149 => gd t146 false (fa 1 t149) fun t150 => gd t146 false (ld t150) fun t151 => gd t146 false (cl (f62 t151)) fun t152 => gd t146 false (idv t13_5) fun t153 => gd t146 false (cl (f33 t152 t153)) fun t154 => gd t146 false (nt t154) fun t155 => pk t146 (.bool true) t155 fun t156 => cnd t156 ( rt (.bool false) ) ( jn (fun (j9 : M) => lo (fun _ _ _ => bot) (f12_b10 j9) (fun l => l t7_7 t14_4 (.int .i64 0)) ) (f12_j9) )
def f12_j4 (t2_5 t7_4 t10_1 t11_2 t12_2 t13_2 t14_1 : Value) : M := jn (fun (j6 : Value → Value → Value → Value → Value → Value → M) => lo (fun _ _ _ _ _ _ _ _ => bot) (f12_b7 j6) (fun l => l t2_5 t7_4 t10_1 t11_2 t12_2 t13_2 t14_1 (.int .i64 0)) ) (f12_j6)
def f12_j1 (t2_3 t7_2 : Value) : M := nc t7_2 fun t55 => fa 1 t55 fun t56 => ld t56 fun t57 => cl (f64 t57) fun t58 => dr <| idv t7_2 fun t59 => nc t59 fun t60 => fa 1 t60 fun t61 => ld t61 fun t62 => idv t7_2 fun t64 => nc t64 fun t65 => fa 1 t65 fun t66 => ld t66 fun t67 => idv t7_2 fun t69 => nc t69 fun t70 => fa 1 t70 fun t71 => ld t71 fun t72 => cl (f60 t62) fun t63 => kp (Kld t71 t72) <| kp (Kld t66 t67) <| cl (f19 t67) fun t68 => kp (Kld t71 t72) <| cl (f62 t72) fun t73 => idv t63 fun t11 => idv t68 fun t12 => idv t73 fun t13 => jn (fun (j4 : Value → Value → Value → Value → Value → Value → Value → M) => lo (fun _ _ _ _ _ _ _ _ => bot) (f12_b5 j4) (fun l => l t2_3 t7_2 t58 t11 t12 t13 (.slice none 0 0) (.int .i64 0)) ) (f12_j4)
def f12 (t0 t1 t2 : Value) : M := cl (f14) fun t22 => nt t22 fun t23 => cnd t23 ( rt (.bool false) ) ( cl (f15 t0) fun t26 => cl (f54 t26) fun t27 => ex 0 t27 fun t28 => ex 1 t27 fun t29 => nt t29 fun t31 => cnd t31 ( rt (.bool false) ) ( cl (f55 t1) fun t33 => cl (f55 t2) fun t35 => jn (fun (j1 : Value → Value → M) => lo (fun _ _ _ _ => bot) (f12_b2 j1) (fun l => l t33 t35 t28 (.int .i64 0)) ) (f12_j1) ) )
theorem s12 (t0 t1 t2 : Value) (w : World) (Q : Value → World → Prop) (h : f12 t0 t1 t2 w Q) : Calls Tryz.prog 12 #[t0, t1, t2] w (Rt Q) := by
  refine calls_of (l := [t0, t1, t2]) Tryz.func12 rfl Tryz.ntmps12 (Nat.le_of_ble_eq_true rfl) ?_
  unfold f12 at h
  refine wp_seq ?_
  refine L_region ?_
  refine L_as ?_
  refine L_nil ?_
  refine E_n ?_
  refine wp_seq ?_
  refine wp_seq ?_
  refine L_region ?_
  refine L_u (N_cl Tryz.func14 rfl nn14 (fun w Q h => s14 w Q h) h) ?_
  intro v w h
  refine L_u (P_nt h) ?_
  intro v w h
  refine L_nil ?_
  refine E_n ?_
  refine C_cnd h (fun h => ?_) (fun h => ?_)
  · refine wp_seq ?_
    refine L_region ?_
    refine L_as ?_
    refine L_nil ?_
    refine E_n ?_
    refine C_ret ?_
    show bodyPost Tryz.prog Tryz.f12 (Rt Q) .ret _ _
    exact post_tmps (ts := [6]) (.inr rfl) rfl h
  · refine C_skip ?_
    refine E_n ?_
    refine wp_seq ?_
    refine L_region ?_
    refine L_mv ?_
    refine L_u (N_cl Tryz.func15 rfl nn15 (fun w Q h => s15 _ w Q h) h) ?_
    intro v w h
    refine L_u (N_cl Tryz.func54 rfl nn54 (fun w Q h => s54 _ w Q h) h) ?_
    intro v w h
    refine L_mv ?_
    refine L_u (P_ex h) ?_
    intro v w h
    refine L_u (P_ex h) ?_
    intro v w h
    refine L_as ?_
    refine L_as ?_
    refine L_nil ?_
    refine E_n ?_
    refine wp_seq ?_
    refine wp_seq ?_
    refine L_region ?_
    refine L_mv ?_
    refine L_u (P_nt h) ?_
    intro v w h
    refine L_nil ?_
    refine E_n ?_
    refine C_cnd h (fun h => ?_) (fun h => ?_)
    · refine wp_seq ?_
      refine L_region ?_
      refine L_as ?_
      refine L_nil ?_
      refine E_n ?_
      refine C_ret ?_
      show bodyPost Tryz.prog Tryz.f12 (Rt Q) .ret _ _
      exact post_tmps (ts := [6]) (.inr rfl) rfl h
    · refine C_skip ?_
      refine E_n ?_
      refine wp_seq ?_
      refine L_region ?_
      refine L_mv ?_
      refine L_u (N_cl Tryz.func55 rfl nn55 (fun w Q h => s55 _ w Q h) h) ?_
      intro v w h
      refine L_mv ?_
      refine L_u (N_cl Tryz.func55 rfl nn55 (fun w Q h => s55 _ w Q h) h) ?_
      intro v w h
      refine L_as ?_
      refine L_as ?_
      refine L_nil ?_
      refine E_n ?_
      refine wp_seq ?_
      refine wp_seq ?_
      refine L_region ?_
      refine L_as ?_
      refine L_nil ?_
      refine E_n ?_
      refine C_join (fun (k : Value → Value → M) (ρ : Nat → Value) => k (ρ 2) (ρ 7)) h (fun j1 J1 h => ?_) (fun ρ w h => ?_)
      · refine C_blk ?_
        refine C_lo (fun (l : Value → Value → Value → Value → M) (ρ : Nat → Value) => l (ρ 1) (ρ 2) (ρ 7) (ρ 9)) h (fun ρ w h => h) (fun nx self2 L2 ρ w h => ?_)
        unfold f12_b2 at h
        refine wp_seq ?_
        refine wp_seq ?_
        refine L_region ?_
        refine L_mv ?_
        refine L_mv ?_
        refine L_u (P_lnl is86 h) ?_
        intro v w h
        refine L_u (P_lt h) ?_
        intro v w h
        refine L_nil ?_
        refine E_n ?_
        refine C_cnd h (fun h => ?_) (fun h => ?_)
        · refine C_skip ?_
          refine E_n ?_
          refine wp_seq ?_
          refine C_blk ?_
          refine wp_seq ?_
          refine L_region ?_
          refine L_mv ?_
          refine L_mv ?_
          refine L_u (P_ia se86 h) ?_
          intro v w h
          refine L_u (P_ldn ag92 h) ?_
          intro v w h
          refine L_u (N_cl Tryz.func56 rfl nn56 (fun w Q h => s56 _ w Q h) h) ?_
          intro v w h
          refine L_u (P_nei h) ?_
          intro v w h
          refine L_nil ?_
          refine E_n ?_
          refine C_join (fun (k : Value → Value → Value → Value → M) (ρ : Nat → Value) => k (ρ 1) (ρ 2) (ρ 7) (ρ 9)) h (fun j3 J3 h => ?_) (fun ρ w h => ?_)
          · refine C_cnd h (fun h => ?_) (fun h => ?_)
            · refine L_region ?_
              refine L_mv ?_
              refine L_mv ?_
              refine L_mv ?_
              refine L_u (P_ia se86 h) ?_
              intro v w h
              refine L_u (P_ldn ag92 h) ?_
              intro v w h
              refine L_u (N_cl Tryz.func57 rfl nn57 (fun w Q h => s57 _ _ w Q h) h) ?_
              intro v w h
              refine L_nil ?_
              exact J3 _ _ h
            · refine C_skip ?_
              exact J3 _ _ h
          · unfold f12_j3 at h
            refine B_n ?_
            refine E_n ?_
            refine L_region ?_
            refine L_mv ?_
            refine L_u (P_ad h) ?_
            intro v w h
            refine L_as ?_
            refine L_nil ?_
            refine E_n ?_
            exact L2 _ _ h
        · refine C_exit ?_
          refine E_x ?_
          refine E_x ?_
          refine B_x ?_
          exact J1 _ _ h
      · unfold f12_j1 at h
        refine E_n ?_
        refine wp_seq ?_
        refine L_region ?_
        refine L_mv ?_
        refine L_u (P_nc h) ?_
        intro v w h
        refine L_u (P_fa fo96_1 h) ?_
        intro v w h
        refine L_u (P_ld sc25 h) ?_
        intro v w h
        refine L_u (N_cl Tryz.func64 rfl nn64 (fun w Q h => s64 _ w Q h) h) ?_
        intro v w h
        refine L_as ?_
        refine L_nil ?_
        refine E_n ?_
        refine wp_seq ?_
        refine D_region (by decide +kernel) 18 rfl ?_
        replace h := dr_e h
        refine G_p 0 rfl (by decide +kernel) (Y_mv h) ?_
        intro v h
        refine G_p 1 rfl (by decide +kernel) (Y_nc h) ?_
        intro v h
        refine G_p 2 rfl (by decide +kernel) (Y_fa fo96_1 h) ?_
        intro v h
        refine G_r _ 3 rfl (by decide +kernel) (R_ld sc25 h) ?_
        intro v h
        refine G_p 5 rfl (by decide +kernel) (Y_mv h) ?_
        intro v h
        refine G_p 6 rfl (by decide +kernel) (Y_nc h) ?_
        intro v h
        refine G_p 7 rfl (by decide +kernel) (Y_fa fo96_1 h) ?_
        intro v h
        refine G_r _ 8 rfl (by decide +kernel) (R_ld sc25 h) ?_
        intro v h
        refine G_p 10 rfl (by decide +kernel) (Y_mv h) ?_
        intro v h
        refine G_p 11 rfl (by decide +kernel) (Y_nc h) ?_
        intro v h
        refine G_p 12 rfl (by decide +kernel) (Y_fa fo96_1 h) ?_
        intro v h
        refine G_r _ 13 rfl (by decide +kernel) (R_ld sc25 h) ?_
        intro v h
        refine G_e 4 rfl (by decide +kernel) (N_cl Tryz.func60 rfl nn60 (fun w Q h => s60 _ w Q h) h ?_)
        intro v w h
        refine ⟨keepF_cons (kp_1 h) (keepF_cons (kp_1 (kp_2 h)) (keepF_dep [3] (by decide +kernel) rfl keepF_nil)), ?_⟩
        replace h := (kp_2 (kp_2 h))
        refine G_e 9 rfl (by decide +kernel) (N_cl Tryz.func19 rfl nn19 (fun w Q h => s19 _ w Q h) h ?_)
        intro v w h
        refine ⟨keepF_cons (kp_1 h) (keepF_dep [8] (by decide +kernel) rfl (keepF_dep [4, 3] (by decide +kernel) rfl keepF_nil)), ?_⟩
        replace h := (kp_2 h)
        refine G_e 14 rfl (by decide +kernel) (N_cl Tryz.func62 rfl nn62 (fun w Q h => s62 _ w Q h) h ?_)
        intro v w h
        refine ⟨keepF_dep [13] (by decide +kernel) rfl (keepF_dep [9, 8] (by decide +kernel) rfl (keepF_dep [9, 4, 3] (by decide +kernel) rfl keepF_nil)), ?_⟩
        refine G_p 15 rfl (by decide +kernel) (Y_as h) ?_
        intro v h
        refine G_p 16 rfl (by decide +kernel) (Y_as h) ?_
        intro v h
        refine G_p 17 rfl (by decide +kernel) (Y_as h) ?_
        intro v h
        refine G_done (by decide +kernel) ?_
        refine E_n ?_
        refine wp_seq ?_
        refine L_region ?_
        refine L_as ?_
        refine L_nil ?_
        refine E_n ?_
        refine wp_seq ?_
        refine wp_seq ?_
        refine L_region ?_
        refine L_as ?_
        refine L_nil ?_
        refine E_n ?_
        refine C_join (fun (k : Value → Value → Value → Value → Value → Value → Value → M) (ρ : Nat → Value) => k (ρ 2) (ρ 7) (ρ 10) (ρ 11) (ρ 12) (ρ 13) (ρ 14)) h (fun j4 J4 h => ?_) (fun ρ w h => ?_)
        · refine C_blk ?_
          refine C_lo (fun (l : Value → Value → Value → Value → Value → Value → Value → Value → M) (ρ : Nat → Value) => l (ρ 2) (ρ 7) (ρ 10) (ρ 11) (ρ 12) (ρ 13) (ρ 14) (ρ 15)) h (fun ρ w h => h) (fun nx self5 L5 ρ w h => ?_)
          unfold f12_b5 at h
          refine wp_seq ?_
          refine wp_seq ?_
          refine L_region ?_
          refine L_mv ?_
          refine L_mv ?_
          refine L_u (P_nc h) ?_
          intro v w h
          refine L_u (P_fa fo96_0 h) ?_
          intro v w h
          refine L_u (P_ld sc29 h) ?_
          intro v w h
          refine L_u (N_cl Tryz.func28 rfl nn28 (fun w Q h => s28 _ w Q h) h) ?_
          intro v w h
          refine L_u (P_lt h) ?_
          intro v w h
          refine L_nil ?_
          refine E_n ?_
          refine C_cnd h (fun h => ?_) (fun h => ?_)
          · refine C_skip ?_
            refine E_n ?_
            refine wp_seq ?_
            refine C_blk ?_
            refine wp_seq ?_
            refine L_region ?_
            refine L_mv ?_
            refine L_u (P_nc h) ?_
            intro v w h
            refine L_u (P_fa fo96_1 h) ?_
            intro v w h
            refine L_u (P_ld sc25 h) ?_
            intro v w h
            refine L_mv ?_
            refine L_u (N_cl Tryz.func65 rfl nn65 (fun w Q h => s65 _ _ w Q h) h) ?_
            intro v w h
            refine L_mv ?_
            refine L_u (P_ex h) ?_
            intro v w h
            refine L_u (P_ex h) ?_
            intro v w h
            refine L_as ?_
            refine L_as ?_
            refine L_nil ?_
            refine E_n ?_
            refine L_region ?_
            refine L_mv ?_
            refine L_mv ?_
            refine L_u (N_bsl h) ?_
            intro v w h
            refine L_u (N_bi rfl h) ?_
            intro v w h
            refine L_as ?_
            refine L_nil ?_
            refine B_n ?_
            refine E_n ?_
            refine L_region ?_
            refine L_mv ?_
            refine L_u (P_ad h) ?_
            intro v w h
            refine L_as ?_
            refine L_nil ?_
            refine E_n ?_
            exact L5 _ _ h
          · refine C_exit ?_
            refine E_x ?_
            refine E_x ?_
            refine B_x ?_
            exact J4 _ _ h
        · unfold f12_j4 at h
          refine E_n ?_
          refine wp_seq ?_
          refine wp_seq ?_
          refine L_region ?_
          refine L_as ?_
          refine L_nil ?_
          refine E_n ?_
          refine C_join (fun (k : Value → Value → Value → Value → Value → Value → M) (ρ : Nat → Value) => k (ρ 7) (ρ 10) (ρ 11) (ρ 12) (ρ 13) (ρ 14)) h (fun j6 J6 h => ?_) (fun ρ w h => ?_)
          · refine C_blk ?_
            refine C_lo (fun (l : Value → Value → Value → Value → Value → Value → Value → Value → M) (ρ : Nat → Value) => l (ρ 2) (ρ 7) (ρ 10) (ρ 11) (ρ 12) (ρ 13) (ρ 14) (ρ 18)) h (fun ρ w h => h) (fun nx self7 L7 ρ w h => ?_)
            unfold f12_b7 at h
            refine wp_seq ?_
            refine wp_seq ?_
            refine L_region ?_
            refine L_mv ?_
            refine L_mv ?_
            refine L_u (P_lnl is86 h) ?_
            intro v w h
            refine L_u (P_lt h) ?_
            intro v w h
            refine L_nil ?_
            refine E_n ?_
            refine C_cnd h (fun h => ?_) (fun h => ?_)
            · refine C_skip ?_
              refine E_n ?_
              refine wp_seq ?_
              refine C_blk ?_
              refine wp_seq ?_
              refine L_region ?_
              refine L_mv ?_
              refine L_mv ?_
              refine L_u (P_ia se86 h) ?_
              intro v w h
              refine L_u (P_ldn ag92 h) ?_
              intro v w h
              refine L_u (N_cl Tryz.func56 rfl nn56 (fun w Q h => s56 _ w Q h) h) ?_
              intro v w h
              refine L_u (P_nei h) ?_
              intro v w h
              refine L_mv ?_
              refine L_g (t := 108) h rfl rfl (fun c h => P_mv h c) ?_
              intro v w h
              refine L_g (t := 108) h rfl rfl (fun c h => P_mv h c) ?_
              intro v w h
              refine L_g (t := 108) h rfl rfl (fun c h => P_ia se86 h c) ?_
              intro v w h
              refine L_g (t := 108) h rfl rfl (fun c h => P_ldn ag92 h c) ?_
              intro v w h
              refine L_g (t := 108) h rfl rfl (fun c h => N_cl Tryz.func56 rfl nn56 (fun w Q h => s56 _ w Q h) h c) ?_
              intro v w h
              refine L_g (t := 108) h rfl rfl (fun c h => P_nei h c) ?_
              intro v w h
              refine L_u (P_pk h) ?_
              intro v w h
              refine L_nil ?_
              refine E_n ?_
              refine C_join (fun (k : Value → Value → Value → Value → Value → Value → Value → Value → M) (ρ : Nat → Value) => k (ρ 2) (ρ 7) (ρ 10) (ρ 11) (ρ 12) (ρ 13) (ρ 14) (ρ 18)) h (fun j8 J8 h => ?_) (fun ρ w h => ?_)
              · refine C_cnd h (fun h => ?_) (fun h => ?_)
                · refine L_region ?_
                  refine L_mv ?_
                  refine L_mv ?_
                  refine L_mv ?_
                  refine L_u (P_ia se86 h) ?_
                  intro v w h
                  refine L_u (P_ldn ag92 h) ?_
                  intro v w h
                  refine L_u (N_cl Tryz.func57 rfl nn57 (fun w Q h => s57 _ _ w Q h) h) ?_
                  intro v w h
                  refine L_nil ?_
                  exact J8 _ _ h
                · refine C_skip ?_
                  exact J8 _ _ h
              · unfold f12_j8 at h
                refine B_n ?_
                refine E_n ?_
                refine L_region ?_
                refine L_mv ?_
                refine L_u (P_ad h) ?_
                intro v w h
                refine L_as ?_
                refine L_nil ?_
                refine E_n ?_
                exact L7 _ _ h
            · refine C_exit ?_
              refine E_x ?_
              refine E_x ?_
              refine B_x ?_
              exact J6 _ _ h
          · unfold f12_j6 at h
            refine E_n ?_
            refine wp_seq ?_
            refine wp_seq ?_
            refine L_region ?_
            refine L_mv ?_
            refine L_u (P_nc h) ?_
            intro v w h
            refine L_u (P_fa fo96_1 h) ?_
            intro v w h
            refine L_u (P_ld sc25 h) ?_
            intro v w h
            refine L_mv ?_
            refine L_u (N_cl Tryz.func66 rfl nn66 (fun w Q h => s66 _ _ w Q h) h) ?_
            intro v w h
            refine L_u (P_nei h) ?_
            intro v w h
            refine L_mv ?_
            refine L_g (t := 129) h rfl rfl (fun c h => P_mv h c) ?_
            intro v w h
            refine L_g (t := 129) h rfl rfl (fun c h => P_nc h c) ?_
            intro v w h
            refine L_g (t := 129) h rfl rfl (fun c h => P_fa fo96_1 h c) ?_
            intro v w h
            refine L_g (t := 129) h rfl rfl (fun c h => P_ld sc25 h c) ?_
            intro v w h
            refine L_g (t := 129) h rfl rfl (fun c h => N_cl Tryz.func60 rfl nn60 (fun w Q h => s60 _ w Q h) h c) ?_
            intro v w h
            refine L_g (t := 129) h rfl rfl (fun c h => P_mv h c) ?_
            intro v w h
            refine L_g (t := 129) h rfl rfl (fun c h => P_nes h c) ?_
            intro v w h
            refine L_u (P_pk h) ?_
            intro v w h
            refine L_mv ?_
            refine L_g (t := 138) h rfl rfl (fun c h => P_mv h c) ?_
            intro v w h
            refine L_g (t := 138) h rfl rfl (fun c h => P_nc h c) ?_
            intro v w h
            refine L_g (t := 138) h rfl rfl (fun c h => P_fa fo96_1 h c) ?_
            intro v w h
            refine L_g (t := 138) h rfl rfl (fun c h => P_ld sc25 h c) ?_
            intro v w h
            refine L_g (t := 138) h rfl rfl (fun c h => N_cl Tryz.func19 rfl nn19 (fun w Q h => s19 _ w Q h) h c) ?_
            intro v w h
            refine L_g (t := 138) h rfl rfl (fun c h => P_mv h c) ?_
            intro v w h
            refine L_g (t := 138) h rfl rfl (fun c h => P_nei h c) ?_
            intro v w h
            refine L_u (P_pk h) ?_
            intro v w h
            refine L_mv ?_
            refine L_g (t := 147) h rfl rfl (fun c h => P_mv h c) ?_
            intro v w h
            refine L_g (t := 147) h rfl rfl (fun c h => P_nc h c) ?_
            intro v w h
            refine L_g (t := 147) h rfl rfl (fun c h => P_fa fo96_1 h c) ?_
            intro v w h
            refine L_g (t := 147) h rfl rfl (fun c h => P_ld sc25 h c) ?_
            intro v w h
            refine L_g (t := 147) h rfl rfl (fun c h => N_cl Tryz.func62 rfl nn62 (fun w Q h => s62 _ w Q h) h c) ?_
            intro v w h
            refine L_g (t := 147) h rfl rfl (fun c h => P_mv h c) ?_
            intro v w h
            refine L_g (t := 147) h rfl rfl (fun c h => N_cl Tryz.func33 rfl nn33 (fun w Q h => s33 _ _ w Q h) h c) ?_
            intro v w h
            refine L_g (t := 147) h rfl rfl (fun c h => P_nt h c) ?_
            intro v w h
            refine L_u (P_pk h) ?_
            intro v w h
            refine L_nil ?_
            refine E_n ?_
            refine C_cnd h (fun h => ?_) (fun h => ?_)
            · refine wp_seq ?_
              refine L_region ?_
              refine L_as ?_
              refine L_nil ?_
              refine E_n ?_
              refine C_ret ?_
              show bodyPost Tryz.prog Tryz.f12 (Rt Q) .ret _ _
              exact post_tmps (ts := [6]) (.inr rfl) rfl h
            · refine C_skip ?_
              refine E_n ?_
              refine wp_seq ?_
              refine wp_seq ?_
              refine L_region ?_
              refine L_as ?_
              refine L_nil ?_
              refine E_n ?_
              refine C_join (fun (k : M) (ρ : Nat → Value) => k) h (fun j9 J9 h => ?_) (fun ρ w h => ?_)
              · refine C_blk ?_
                refine C_lo (fun (l : Value → Value → Value → M) (ρ : Nat → Value) => l (ρ 7) (ρ 14) (ρ 19)) h (fun ρ w h => h) (fun nx self10 L10 ρ w h => ?_)
                unfold f12_b10 at h
                refine wp_seq ?_
                refine wp_seq ?_
                refine L_region ?_
                refine L_mv ?_
                refine L_mv ?_
                refine L_u (P_nc h) ?_
                intro v w h
                refine L_u (P_fa fo96_0 h) ?_
                intro v w h
                refine L_u (P_ld sc29 h) ?_
                intro v w h
                refine L_u (N_cl Tryz.func28 rfl nn28 (fun w Q h => s28 _ w Q h) h) ?_
                intro v w h
                refine L_u (P_lt h) ?_
                intro v w h
                refine L_nil ?_
                refine E_n ?_
                refine C_cnd h (fun h => ?_) (fun h => ?_)
                · refine C_skip ?_
                  refine E_n ?_
                  refine wp_seq ?_
                  refine C_blk ?_
                  refine wp_seq ?_
                  refine L_region ?_
                  refine L_mv ?_
                  refine L_u (P_nc h) ?_
                  intro v w h
                  refine L_u (P_fa fo96_1 h) ?_
                  intro v w h
                  refine L_u (P_ld sc25 h) ?_
                  intro v w h
                  refine L_mv ?_
                  refine L_u (N_cl Tryz.func65 rfl nn65 (fun w Q h => s65 _ _ w Q h) h) ?_
                  intro v w h
                  refine L_mv ?_
                  refine L_u (P_ex h) ?_
                  intro v w h
                  refine L_u (P_ex h) ?_
                  intro v w h
                  refine L_as ?_
                  refine L_as ?_
                  refine L_nil ?_
                  refine E_n ?_
                  refine wp_seq ?_
                  refine L_region ?_
                  refine L_mv ?_
                  refine L_mv ?_
                  refine L_mv ?_
                  refine L_u (P_ia se100 h) ?_
                  intro v w h
                  refine L_u (P_ld sc9 h) ?_
                  intro v w h
                  refine L_u (P_nes h) ?_
                  intro v w h
                  refine L_nil ?_
                  refine E_n ?_
                  refine C_cnd h (fun h => ?_) (fun h => ?_)
                  · refine wp_seq ?_
                    refine L_region ?_
                    refine L_as ?_
                    refine L_nil ?_
                    refine E_n ?_
                    refine C_ret ?_
                    show bodyPost Tryz.prog Tryz.f12 (Rt Q) .ret _ _
                    exact post_tmps (ts := [6]) (.inr rfl) rfl h
                  · refine C_skip ?_
                    refine B_n ?_
                    refine E_n ?_
                    refine L_region ?_
                    refine L_mv ?_
                    refine L_u (P_ad h) ?_
                    intro v w h
                    refine L_as ?_
                    refine L_nil ?_
                    refine E_n ?_
                    exact L10 _ _ h
                · refine C_exit ?_
                  refine E_x ?_
                  refine E_x ?_
                  refine B_x ?_
                  exact J9 _ _ h
              · unfold f12_j9 at h
                refine E_n ?_
                refine wp_seq ?_
                refine L_region ?_
                refine L_as ?_
                refine L_nil ?_
                refine E_n ?_
                refine C_ret ?_
                show bodyPost Tryz.prog Tryz.f12 (Rt Q) .ret _ _
                exact post_tmps (ts := [6]) (.inr rfl) rfl h

def f13 (t0 : Value) : M := cl (f14) fun t9 => nt t9 fun t10 => cnd t10 ( rt (.bool false) ) ( cl (f16 (.pointer none)) fun t12 => ex 0 t12 fun t13 => ex 1 t12 fun t14 => cl (f65 t13 t0) fun t18 => ex 0 t18 fun t19 => ex 1 t18 fun t20 => cl (f18 t13) fun t23 => ex 0 t23 fun t24 => ex 1 t23 fun t25 => smr Tryz.prog (do eqGuard .eql 25 (.tmp 26) (.const (.pointer none)) t13 (.pointer none); binOp .eql 25 t13 (.pointer none)) fun t27 => gd t27 true (idv t14) fun t29 => gd t27 true (eqi .i64 t29 (.int .i64 1)) fun t30 => pk t27 t30 (.bool false) fun t31 => gd t31 true (idv t19) fun t33 => gd t31 true (eqs t33 (.string ⟨#[]⟩)) fun t34 => pk t31 t34 (.bool false) fun t35 => gd t35 true (idv t20) fun t37 => gd t35 true (eqi .i64 t37 (.int .i64 1)) fun t38 => pk t35 t38 (.bool false) fun t39 => gd t39 true (idv t24) fun t41 => gd t39 true (eqi .i64 t41 (.int .i64 0)) fun t42 => pk t39 t42 (.bool false) fun t43 => gd t43 true (idv t25) fun t45 => gd t43 true (eqi .i64 t45 (.int .i64 1)) fun t46 => pk t43 t46 (.bool false) fun t47 => gd t47 true (idv t13) fun t49 => gd t47 true (idv t0) fun t50 => gd t47 true (cl (f67 t49 t50 (.string ⟨#[]⟩))) fun t51 => gd t47 true (eqi .i64 t51 (.int .i64 1)) fun t52 => pk t47 t52 (.bool false) fun t53 => gd t53 true (idv t13) fun t55 => gd t53 true (idv t0) fun t56 => gd t53 true (cl (f20 t55 t56)) fun t57 => gd t53 true (eqi .i64 t57 (.int .i64 1)) fun t58 => pk t53 t58 (.bool false) fun t59 => gd t59 true (idv t13) fun t61 => gd t59 true (cl (f68 t61 (.string ⟨#[]⟩))) fun t62 => gd t59 true (eqi .i64 t62 (.int .i64 1)) fun t63 => pk t59 t63 (.bool false) fun t64 => gd t64 true (idv t13) fun t66 => gd t64 true (idv t0) fun t67 => gd t64 true (cl (f66 t66 t67)) fun t68 => gd t64 true (eqi .i64 t68 (.int .i64 1)) fun t69 => pk t64 t69 (.bool false) fun t70 => gd t70 true (idv t13) fun t72 => gd t70 true (cl (f69 t72)) fun t73 => gd t70 true (eqi .i64 t73 (.int .i64 1)) fun t74 => pk t70 t74 (.bool false) fun t75 => gd t75 true (idv t13) fun t77 => gd t75 true (cl (f60 t77)) fun t78 => gd t75 true (eqs t78 (.string ⟨#[]⟩)) fun t79 => pk t75 t79 (.bool false) fun t80 => gd t80 true (idv t13) fun t82 => gd t80 true (cl (f64 t82)) fun t83 => gd t80 true (eqi .i64 t83 (.int .i64 0)) fun t84 => pk t80 t84 (.bool false) fun t85 => gd t85 true (idv t13) fun t87 => gd t85 true (cl (f19 t87)) fun t88 => gd t85 true (eqi .i64 t88 (.int .i64 0)) fun t89 => pk t85 t89 (.bool false) fun t90 => gd t90 true (idv t13) fun t92 => gd t90 true (cl (f62 t92)) fun t93 => gd t90 true (lnl t93) fun t94 => gd t90 true (eqi .i64 t94 (.int .i64 0)) fun t95 => pk t90 t95 (.bool false) fun t96 => rt t96 )
end Go.Proofs.YtongpnolikkknaaGreatDoor

namespace Go.Proofs.YtongpnolikkknaaGreatDoor
namespace Sh
open RowKit
/-- a string's bytes as whole numbers -/
def byL (s : ByteArray) : List Int := s.data.toList.map (fun b => (b.toNat : Int))
theorem byL_len (s : ByteArray) : (byL s).length = s.size := by simp only [byL, List.length_map, Array.length_toList]; rfl
theorem byL_get (s : ByteArray) (i : Nat) (h : i < (byL s).length) : ∃ c, s[i]? = some c ∧ (byL s)[i] = (c.toNat : Int) := by
  have h' : i < s.size := by rw [byL_len] at h; exact h
  refine ⟨s[i], ?_, ?_⟩
  · rw [getElem?_pos s i h']
  · simp only [byL, List.getElem_map, Array.getElem_toList]; rfl
theorem byL_nn {s : ByteArray} {x : Int} (h : x ∈ byL s) : 0 ≤ x ∧ x ≤ 255 := by
  simp only [byL, List.mem_map] at h
  obtain ⟨b, _, rfl⟩ := h
  have := b.toNat_lt
  omega
section
variable {P : Program} {w : World} {Q : Value → World → Prop} {K : Value → M} {B : Nat}
theorem Below_bytes {A : World} (e : TypeId) (s : ByteArray) (h : Below B A w) (hB : B ≤ w.heap.size) : Below B A (Go.Lib.bytesWorld w e s) :=
  h.trans ⟨rfl, rfl, rfl, by rw [Go.Lib.bytesWorld_size]; omega, fun k hk => Go.Lib.bytesWorld_at_old w e s k (by omega)⟩
theorem cvs {src dst e : TypeId} {z : Value} {n b : Nat} {s : ByteArray} (hs : isStr P src = true) (h : slT P dst e z n b) (he : P.underlying e = some (.int .u8))
    (k : ∀ v w', rdI .u8 w' v (byL s) → Below w.heap.size w w' → K v w' Q) : sm P (convert src dst (.string s)) K w Q := by
  obtain ⟨i, h1, _⟩ := slT_info h
  unfold isStr at hs
  cases hu : P.underlying src with
  | none => simp [hu] at hs
  | some u =>
    refine ⟨_, _, Go.Lib.run_convert_string_bytes w src dst e s hu h1 he, k _ _ ?_ (Below_bytes e s (Below.refl _ w) (Nat.le_refl _))⟩
    refine ⟨_, _, by rw [byL_len], ?_⟩
    intro i hi
    have hi' : i < s.size := by rw [byL_len] at hi; exact hi
    refine ⟨_, rfl, ?_⟩
    rw [add_lit, Nat.zero_add, Go.Lib.bytesWorld_cell w e s i hi']
    have hd : i < s.data.toList.length := by simpa using hi'
    simp [byL, List.getD, hi']
/-- a block that is there stays -/
theorem stay {w w' : World} {p : Nat} {o : Obj} (hb : Below w.heap.size w w') (h : w.heap[p]? = some o) : w'.heap[p]? = some o := by
  rcases Nat.lt_or_ge p w.heap.size with hp | hp
  · rw [hb.block p hp]; exact h
  · simp [Array.getElem?_eq_none hp] at h
theorem blk_lt {w : World} {p : Nat} {o : Obj} (h : w.heap[p]? = some o) : p < w.heap.size := by
  rcases Nat.lt_or_ge p w.heap.size with hp | hp
  · exact hp
  · simp [Array.getElem?_eq_none hp] at h
theorem bt {w0 w w' : World} (b : Below w0.heap.size w0 w) (hb : Below w.heap.size w w') : Below w0.heap.size w0 w' := b.trans (hb.mono b.size)
theorem bt' {B : Nat} {w0 w w' : World} (b : Below B w0 w) (hB : B ≤ w.heap.size) (hb : Below w.heap.size w w') : Below B w0 w' := b.trans (hb.mono hB)
theorem b_psh (w : World) (o : Obj) : Below w.heap.size w (psh w o) := Below_psh (Below.refl _ w) (Nat.le_refl _)
end
end Sh
end Go.Proofs.YtongpnolikkknaaGreatDoor

namespace Go.Proofs.YtongpnolikkknaaGreatDoor
namespace Sh
open RowKit
section
variable {P : Program} {w : World} {d : Nat} {xs ys : Array Value} {f : Field} {fs : List Field} {r : Bool}
end
end Sh
end Go.Proofs.YtongpnolikkknaaGreatDoor

namespace Go.Proofs.YtongpnolikkknaaGreatDoor
namespace Sh
open RowKit
theorem son_size (l : List Int) : (strOfNums l).size = l.length := strOfNums_size l
theorem son_byL (s : ByteArray) : strOfNums (byL s) = s := by
  apply ByteArray.ext
  apply Array.toList_inj.1
  rw [strOfNums_data, byL, List.map_map]
  conv => rhs; rw [← List.map_id s.data.toList]
  apply List.map_congr_left
  intro x _
  simp
theorem byL_son {l : List Int} (h : ∀ x ∈ l, 0 ≤ x ∧ x ≤ 255) : byL (strOfNums l) = l := by
  unfold byL
  rw [strOfNums_data, List.map_map]
  conv => rhs; rw [← List.map_id l]
  apply List.map_congr_left
  intro x hx
  have := h x hx
  simp only [Function.comp_apply, id_eq, UInt8.toNat_ofNat']
  omega
theorem byL_inj {s t : ByteArray} (h : byL s = byL t) : s = t := by rw [← son_byL s, ← son_byL t, h]
theorem byL_app (s t : ByteArray) : byL (s ++ t) = byL s ++ byL t := by
  unfold byL
  rw [ByteArray.data_append, Array.toList_append, List.map_append]
theorem byL_take (s : ByteArray) (l h : Nat) : byL (s.extract l h) = ((byL s).take h).drop l := by
  unfold byL
  rw [ByteArray.data_extract, Array.toList_extract, List.drop_take]
  simp only [List.extract, List.map_take, List.map_drop]
theorem byL_nil : byL ⟨#[]⟩ = [] := rfl
section
variable {P : Program} {w : World} {Q : Value → World → Prop} {K : Value → M} {B : Nat}
theorem run_cvb {src dst e : TypeId} {z : Value} {n b : Nat} {l : List Int} {v : Value} (hs : slT P src e z n b) (he : P.underlying e = some (.int .u8)) (hd : isStr P dst = true) (hr : rdI .u8 w v l) :
    (convert src dst v).run P w = .ok (.string (strOfNums l)) w := by
  obtain ⟨i, h1, _⟩ := slT_info hs
  have hd' : P.underlying dst = some .string := by
    unfold isStr at hd
    cases hu : P.underlying dst with
    | none => simp [hu] at hd
    | some u => cases u <;> simp_all
  obtain ⟨p, c, rfl, h⟩ := hr
  rw [run_convert_bytes_string w src dst e p l.length c h1 he hd']
  cases p with
  | none =>
    have : l = [] := by
      cases l with
      | nil => rfl
      | cons x l => obtain ⟨a, ha, _⟩ := h 0 (by simp); cases ha
    subst this
    simp [Conv.bytesToString]
    rfl
  | some a =>
    have hl : (loadCells a l.length).run P w = .ok (l.map (Value.int .u8)).toArray w := by
      have := run_loadCells_list (P := P) w a (l.map (Value.int .u8)) (fun j v hj => by
        have hjl : j < l.length := by
          rcases Nat.lt_or_ge j l.length with h | h
          · exact h
          · simp [List.getElem?_eq_none (show (l.map (Value.int .u8)).length ≤ j by simpa using h)] at hj
        obtain ⟨a', e1, e2⟩ := h j hjl
        cases e1
        rw [e2]
        simp [List.getElem?_eq_getElem hjl] at hj
        rw [hj])
      simpa using this
    rw [run_bytesToString w a l.length c l hl, foldl_push_bytes]
    simp [strOfNums, ByteArray.empty, ByteArray.emptyWithCapacity]
    rfl
theorem cvb {src dst e : TypeId} {z : Value} {n b : Nat} {l : List Int} {v : Value} (hs : slT P src e z n b) (he : P.underlying e = some (.int .u8)) (hd : isStr P dst = true) (hr : rdI .u8 w v l)
    (k : K (.string (strOfNums l)) w Q) : smr P (convert src dst v) K w Q := ⟨_, run_cvb hs he hd hr, k⟩
/-- a row of whole numbers, as an argument or the call's own -/
def rdP (k : IntKind) (w : World) (v : Value) (l : List Int) : Prop :=
  (v = .slice none 0 0 ∧ l = []) ∨ ∃ a c, v = .slice (some a) l.length c ∧ ∀ i (h : i < l.length), w.cell? (a.add i) = some (.int k l[i])
theorem rdP_rd {k : IntKind} {w : World} {v : Value} {l : List Int} (h : rdP k w v l) : rdI k w v l := by
  rcases h with ⟨rfl, rfl⟩ | ⟨a, c, rfl, h⟩
  · exact ⟨none, 0, rfl, fun i h => by simp at h⟩
  · exact ⟨some a, c, rfl, fun i hi => ⟨a, rfl, h i hi⟩⟩
theorem ownI_rdP {B : Nat} {e : TypeId} {k : IntKind} {w : World} {v : Value} {l : List Int} (h : ownI B e k w v l) : rdP k w v l := by
  obtain ⟨h1, h2⟩ := h
  rcases h2 with ⟨rfl, h0⟩ | ⟨g, cap, cur, rfl, hg⟩
  · exact .inl ⟨rfl, List.length_eq_zero_iff.1 h0⟩
  · refine .inr ⟨_, _, rfl, fun i hi => ?_⟩
    rw [add_lit, Nat.zero_add]
    exact ownI_cell ⟨h1, .inr ⟨g, cap, cur, rfl, hg⟩⟩ i hi
/-- numbers behind a row of the call's own -/
theorem ap_rd {t ty e : TypeId} {k : IntKind} {b : Nat} (h : slT P t e (.int k 0) 1 b) {v u : Value} {l m : List Int} (hown : ownI B e k w v l) (hr : rdP k w u m)
    (hbytes : (l.length + m.length) * b ≤ 140737488355328) (h63 : l.length + m.length ≤ 140737488355328) (hB : B ≤ w.heap.size)
    (kk : ∀ v' w', ownI B e k w' v' (l ++ m) → w.grownBy w' v.ownBlock → K v' w' Q) : sm P (Builtin.append_ #[t, t] ty #[v, u]) K w Q := by
  obtain ⟨i, g1, g2, g3, g4, g5⟩ := slT_info h
  rcases hr with ⟨rfl, rfl⟩ | ⟨a, c, rfl, hr⟩
  · refine ⟨v, w, run_append_owned_none w B t ty e i 1 g1 g2 v l.length (l.map (Value.int k)) hown, kk v w (by rw [List.append_nil]; exact hown) (World.grownBy.refl w _)⟩
  · obtain ⟨v', w', hrun, ho, hg, _⟩ := run_append_own (P := P) w B t ty e i (.int k 0) 1 b g1 g2 g3 g4 g5 rfl (by decide) v l.length (l.map (Value.int k)) hown a m.length c (m.map (Value.int k)) (by simp) (by
        intro j u hj
        have hjl : j < m.length := by
          rcases Nat.lt_or_ge j m.length with h | h
          · exact h
          · simp [List.getElem?_eq_none (show (m.map (Value.int k)).length ≤ j by simpa using h)] at hj
        rw [hr j hjl]
        simp [List.getElem?_eq_getElem hjl] at hj
        rw [hj]) (by intro u hu; simp only [List.mem_map] at hu; obtain ⟨x, _, rfl⟩ := hu; rfl) (by unfold maxLen; omega) hbytes hB
    refine ⟨v', w', hrun, kk v' w' ?_ hg⟩
    unfold ownI
    rw [List.length_append, List.map_append]
    exact ho
theorem ownI_weak {B B' : Nat} {e : TypeId} {k : IntKind} {w : World} {v : Value} {l : List Int} (h : ownI B e k w v l) (hB : B' ≤ B) : ownI B' e k w v l := by
  obtain ⟨o1, o2⟩ := h
  refine ⟨o1, o2.imp id ?_⟩
  rintro ⟨g, cap, cur, q1, q2, q3⟩
  exact ⟨g, cap, cur, q1, by omega, q3⟩
/-- a new row of zeros -/
theorem mkI {t e : TypeId} {k j j' : IntKind} {b n : Nat} (h : slT P t e (.int k 0) 1 b) (hn : b * n ≤ 281474976710656) (hn2 : n ≤ 281474976710656) (hB : B ≤ w.heap.size)
    (kk : ∀ v' w', ownI B e k w' v' (List.replicate n 0) → Below w.heap.size w w' → K v' w' Q) : sm P (Instr.makeSlice t (.int j (n : Int)) (.int j' (n : Int))) K w Q := by
  obtain ⟨i, g1, g2, g3, g4, g5⟩ := slT_info h
  obtain ⟨w', hr, ho, hg⟩ := run_make_full (P := P) w w.heap.size t e i (.int k 0) 1 g1 g2 g3 g4 j j' n (by rw [g5]; exact hn) (by unfold maxLen; omega) (Nat.le_refl _)
  refine ⟨_, w', hr, kk _ _ ?_ ?_⟩
  · have e : (madeCells (Value.int k 0).cells (n * 1)).toList = (List.replicate n (0 : Int)).map (Value.int k) := by
      apply List.ext_getElem
      · simp [madeCells]
      · intro i h1 h2
        simp [madeCells, Value.cells, Nat.mod_one]
    rw [e] at ho
    refine ownI_weak (B := w.heap.size) ?_ hB
    unfold ownI
    rw [List.length_replicate]
    exact ho
  · exact (Below.refl _ _).grown hg (Nat.le_refl _) (fun k hk => by cases hk)
end
end Sh
end Go.Proofs.YtongpnolikkknaaGreatDoor

namespace Go.Proofs.YtongpnolikkknaaGreatDoor
namespace Sh
open RowKit ChangeShapes
/-! one block changed -/
/-- below the old end all is as it was but block p -/
structure Chg (p : Nat) (w w' : World) : Prop where
  os : w'.os = w.os
  tape : w'.tape = w.tape
  output : w'.output = w.output
  size : w.heap.size ≤ w'.heap.size
  block : ∀ k, k < w.heap.size → k ≠ p → w'.heap[k]? = w.heap[k]?
theorem Upd.chg {p : Nat} {w w' : World} (h : Upd p w w') : Chg p w w' := ⟨h.os, h.tape, h.output, by rw [h.size]; exact Nat.le_refl _, fun k _ hk => h.block k hk⟩
theorem Chg.refl (p : Nat) (w : World) : Chg p w w := ⟨rfl, rfl, rfl, Nat.le_refl _, fun _ _ _ => rfl⟩
theorem Chg.of_below {p : Nat} {w w' : World} (h : Below w.heap.size w w') : Chg p w w' := ⟨h.os, h.tape, h.output, h.size, fun k hk _ => h.block k hk⟩
theorem Chg.trans {p : Nat} {a b c : World} (h : Chg p a b) (k : Chg p b c) : Chg p a c :=
  ⟨k.os.trans h.os, k.tape.trans h.tape, k.output.trans h.output, Nat.le_trans h.size k.size, fun i hi hp => (k.block i (Nat.lt_of_lt_of_le hi h.size) hp).trans (h.block i hi hp)⟩
theorem Chg.below {p B : Nat} {w w' : World} (h : Chg p w w') (hB : B ≤ p) (hw : B ≤ w.heap.size) : Below B w w' := ⟨h.os, h.tape, h.output, h.size, fun k hk => h.block k (by omega) (by omega)⟩
theorem Chg.keep {p q : Nat} {w w' : World} {o : Obj} (h : Chg p w w') (hq : w.heap[q]? = some o) (hne : q ≠ p) : w'.heap[q]? = some o := by rw [h.block q (blk_lt hq) hne]; exact hq
theorem Chg.drw {p : Nat} {w w' : World} (h : Chg p w w') : Chg p w (drw w') := ⟨h.os, h.tape, h.output, h.size, h.block⟩
theorem Chg.cell {p : Nat} {w w' : World} {a : Addr} {v : Value} (h : Chg p w w') (hc : w.cell? a = some v) (hne : a.block ≠ p) : w'.cell? a = some v := by
  have := cell_lt hc
  unfold World.cell? at hc ⊢
  rw [h.block _ this hne]; exact hc
theorem bc {B p : Nat} {w0 w w' : World} (b : Below B w0 w) (hB : B ≤ p) (hw : B ≤ w.heap.size) (h : Chg p w w') : Below B w0 w' := b.trans (h.below hB hw)
section
variable {w : World} {Q : Value → World → Prop} {K : Value → M} {K0 : M} {B : Nat}
theorem rds2 {b : Nat} {c : Array Value} {t : TypeId} {fr : Nat × Nat} (h : w.heap[b]? = some (.cells c t fr)) : rds w ⟨b, 0, none⟩ c :=
  rds_of_blk h (fun j v hj => by simpa using hj)
theorem ldn_box {n b : Nat} {c : Array Value} {t : TypeId} {fr : Nat × Nat} (h : w.heap[b]? = some (.cells c t fr)) (hn : c.size = n) (k : K (.agg c) w Q) : ldn n (.pointer (some ⟨b, 0, none⟩)) K w Q :=
  ⟨_, c, rfl, hn, rds2 h, k⟩
/-- one cell of a block stored -/
theorem st_box {b o : Nat} {c : Array Value} {t : TypeId} {v : Value} (h : w.heap[b]? = some (.cells c t (0, 0))) (ho : o < c.size) (hv : v.oneCell' = true)
    (k : ∀ w', w'.heap[b]? = some (.cells (c.setIfInBounds o v) t (0, 0)) → Upd b w w' → K0 w' Q) : st (.pointer (some ⟨b, o, none⟩)) v K0 w Q := by
  rw [st_e]
  refine ⟨by rw [cell_of_blk h]; simp [ho], frozen_zero h, hv, k _ (blk_setCell h) ?_⟩
  exact ⟨rfl, rfl, rfl, size_setCell, fun k hk => blk_setCell_ne hk⟩
end
/-! slices of whatever -/
abbrev RepT (α : Type) := World → List Value → α → Prop
def cellsAt (w : World) (a : Addr) (es : List Value) : Prop := ∀ j v, es[j]? = some v → w.cell? (a.add j) = some v
/-- a slice, each element n cells, that reads as l -/
def rdS {α : Type} (n : Nat) (R : RepT α) (w : World) (v : Value) (l : List α) : Prop :=
  (v = .slice none 0 0 ∧ l = []) ∨ ∃ a c, v = .slice (some a) l.length c ∧ l.length ≤ c ∧ ∀ i (h : i < l.length), ∃ es, es.length = n ∧ cellsAt w (a.add (i * n)) es ∧ R w es l[i]
theorem cellsAt_below {w w' : World} {a : Addr} {es : List Value} (hb : Below w.heap.size w w') (h : cellsAt w a es) : cellsAt w' a es := fun j v hj => cell_below hb (h j v hj)
def Stable {α : Type} (R : RepT α) : Prop := ∀ (w w' : World) (es : List Value) (x : α), Below w.heap.size w w' → R w es x → R w' es x
theorem rdS_below {α : Type} {n : Nat} {R : RepT α} (hR : Stable R) {w w' : World} {v : Value} {l : List α} (hb : Below w.heap.size w w') (h : rdS n R w v l) : rdS n R w' v l := by
  rcases h with h | ⟨a, c, rfl, hcc, h⟩
  · exact .inl h
  · refine .inr ⟨a, c, rfl, hcc, fun i hi => ?_⟩
    obtain ⟨es, h1, h2, h3⟩ := h i hi
    exact ⟨es, h1, cellsAt_below hb h2, hR _ _ _ _ hb h3⟩
theorem rdS_len {α : Type} {n : Nat} {R : RepT α} {w : World} {v : Value} {l : List α} (h : rdS n R w v l) : ∃ p c, v = .slice p l.length c := by
  rcases h with ⟨rfl, rfl⟩ | ⟨a, c, rfl, hcc, h⟩
  · exact ⟨none, 0, rfl⟩
  · exact ⟨some a, c, rfl⟩
theorem lnl_S {α : Type} {n : Nat} {R : RepT α} {w w1 : World} {v : Value} {l : List α} {K : Value → M} {Q : Value → World → Prop} (h : rdS n R w v l) (kk : K (.int .i64 l.length) w1 Q) : lnl v K w1 Q := by
  obtain ⟨p, c, rfl⟩ := rdS_len h
  rw [lnl_e]; exact kk
/-- an element's place, the same in whatever world -/
theorem rdS_at {α : Type} {n : Nat} {R : RepT α} {w : World} {v : Value} {l : List α} (h : rdS n R w v l) {i : Nat} (hi : i < l.length) :
    ∃ ad es, es.length = n ∧ cellsAt w ad es ∧ R w es l[i] ∧ ∀ (k : IntKind) (K : Value → M) (w' : World) (Q : Value → World → Prop), ia n v (.int k (i : Int)) K w' Q = K (.pointer (some ad)) w' Q := by
  rcases h with ⟨rfl, rfl⟩ | ⟨a, c, rfl, hcc, h⟩
  · simp at hi
  · obtain ⟨es, h1, h2, h3⟩ := h i hi
    refine ⟨_, es, h1, h2, h3, fun k K w' Q => ?_⟩
    rw [ia_e, Int.toNat_natCast]
    apply propext
    constructor
    · rintro ⟨_, _, h⟩; exact h
    · intro h; exact ⟨by omega, by omega, h⟩
theorem ldn_at {n : Nat} {w : World} {a : Addr} {es : List Value} {K : Value → M} {Q : Value → World → Prop} (hc : cellsAt w a es) (hn : es.length = n) (k : K (.agg es.toArray) w Q) : ldn n (.pointer (some a)) K w Q :=
  ⟨a, es.toArray, rfl, by simpa using hn, fun j v hj => hc j v (by simpa using hj), k⟩
theorem add_zero' (a : Addr) : a.add 0 = a := rfl
section
variable {P : Program}
/-- whatever is read as a T is an α, told by R, of at most that bulk -/
def Opens (P : Program) (t : TypeId) (α : Type) (R : RepT α) (bulk : α → Nat) : Prop :=
  ∀ {H : Type} (enc : TypeId × Value → H) (w : World) (held : Bool) (fuel : Nat) (cs : List Value) (x : DataW H × List MemPlace),
    DataW.trod enc P w 0 (fun _ => true) held fuel t cs = some x → (x.1.weights P t).all (· ≤ reachBytes) = true → ∃ a, R w cs a ∧ bulk a ≤ Rows.uptoBulk x.1
theorem step_of {H : Type} {enc : TypeId × Value → H} {w : World} {sp : Nat → Bool} {held : Bool} {fuel : Nat} {t : TypeId} {cs : List Value} {x : DataW H × List MemPlace} (h : DataW.trod enc P w 0 sp held fuel t cs = some x) :
    ∃ n, fuel = n + 1 ∧ DataW.trod enc P w 0 sp held (n + 1) t cs = some x := by
  cases fuel with
  | zero => simp [DataW.trod] at h
  | succ n => exact ⟨n, rfl, h⟩
theorem mapM_all' {α β : Type} {g : α → Option β} : ∀ {l : List α} {ys : List β}, l.mapM g = some ys → ys.length = l.length ∧ ∀ (i : Nat) (h : i < l.length), ∃ y, g l[i] = some y ∧ ys[i]? = some y := by
  intro l
  induction l with
  | nil => intro ys h; simp at h; subst h; simp
  | cons a l ih =>
    intro ys h
    rw [List.mapM_cons] at h
    cases ha : g a with
    | none => simp [ha] at h
    | some y =>
      cases hl : l.mapM g with
      | none => simp [ha, hl] at h
      | some zs =>
        simp [ha, hl] at h
        subst h
        obtain ⟨h1, h2⟩ := ih hl
        refine ⟨by simp [h1], fun i hi => ?_⟩
        cases i with
        | zero => exact ⟨y, ha, rfl⟩
        | succ i => simpa using h2 i (by simpa using hi)
def iR (k : IntKind) : RepT Int := fun _ cs a => cs = [.int k a] ∧ (Lit.int k a).wf = true
/-- a slice: its cell, what it reads as, its size -/
def lR {α : Type} (n b : Nat) (R : RepT α) : RepT (List α) := fun w cs l => ∃ v, cs = [v] ∧ rdS n R w v l ∧ l.length * b ≤ reachBytes
theorem op_int {t : TypeId} {k : IntKind} (hu : P.underlying t = some (.int k)) : Opens P t Int (iR k) (fun _ => 1) := by
  intro H enc w held fuel cs x h _
  obtain ⟨a, h1, h2, h3⟩ := DataW.trod_int hu h
  refine ⟨a, ⟨h1, h3⟩, ?_⟩
  cases x with | mk d p => cases d with
    | lit l => cases l <;> simp [Rows.uptoBulk]
    | _ => simp [Rows.uptoBulk]
theorem cells?_at {w : World} {a : Addr} {n : Nat} {es : List Value} (h : w.cells? 0 a n = some es) : es.length = n ∧ cellsAt w a es := by
  unfold World.cells? at h
  rw [if_pos (Nat.zero_le _)] at h
  obtain ⟨h1, h2⟩ := mapM_all' h
  rw [List.length_range] at h1
  refine ⟨h1, fun j v hj => ?_⟩
  have hlt : j < es.length := by
    rcases Nat.lt_or_ge j es.length with h | h
    · exact h
    · simp [List.getElem?_eq_none h] at hj
  obtain ⟨y, g1, g2⟩ := h2 j (by simpa [← h1] using hlt)
  rw [List.getElem_range] at g1
  rw [hj] at g2
  cases g2
  exact g1
theorem sum_le_all {H : Type} {α : Type} {b : α → Nat} : ∀ (l : List α) (ys : List (DataW H)), l.length = ys.length → (∀ (i : Nat) (h : i < l.length) (h' : i < ys.length), b l[i] ≤ Rows.uptoBulk ys[i]) → (l.map b).sum ≤ Rows.uptoBulkAll ys := by
  intro l
  induction l with
  | nil => intro ys _ _; simp
  | cons x l ih =>
    intro ys hl h
    cases ys with
    | nil => simp at hl
    | cons y ys =>
      have h0 := h 0 (by simp) (by simp)
      have := ih ys (by simpa using hl) (fun i h1 h2 => h (i + 1) (Nat.succ_lt_succ h1) (Nat.succ_lt_succ h2))
      simp only [List.map_cons, List.sum_cons, Rows.uptoBulkAll]
      simp at h0
      omega
theorem choose_list {α : Type} {n : Nat} {p : Nat → α → Prop} (h : ∀ i, i < n → ∃ a, p i a) : ∃ l : List α, l.length = n ∧ ∀ i (hi : i < l.length), p i l[i] := by
  induction n with
  | zero => exact ⟨[], rfl, fun i hi => by simp at hi⟩
  | succ n ih =>
    obtain ⟨l, h1, h2⟩ := ih (fun i hi => h i (by omega))
    obtain ⟨a, ha⟩ := h n (by omega)
    refine ⟨l ++ [a], by simp [h1], fun i hi => ?_⟩
    by_cases c : i < l.length
    · rw [List.getElem_append_left c]; exact h2 i c
    · have : i = l.length := by simp at hi; omega
      subst this
      simp [h1, ha]
theorem weights_all {H : Type} {e : TypeId} : ∀ (l : List (DataW H)), (DataW.weightsAll P e l).all (· ≤ reachBytes) = true → ∀ (i : Nat) (h : i < l.length), (l[i].weights P e).all (· ≤ reachBytes) = true := by
  intro l
  induction l with
  | nil => intro _ i h; simp at h
  | cons d l ih =>
    intro hw i h
    simp only [DataW.weightsAll, List.all_append, Bool.and_eq_true] at hw
    cases i with
    | zero => exact hw.1
    | succ i => exact ih hw.2 i (by simpa using h)
theorem op_slice {t e : TypeId} {n : Nat} {α : Type} {R : RepT α} {b : α → Nat} (hu : P.underlying t = some (.slice e)) (hn : P.cellsOf e = n) (he : Opens P e α R b) : Opens P t (List α) (lR n (P.bytesOf e) R) (fun l => (l.map b).sum + 1) := by
  intro H enc w held fuel cs x h hw
  subst hn
  obtain ⟨f, rfl, h⟩ := step_of h
  rw [DataW.trod_step] at h
  unfold DataW.trodStep at h
  simp only [hu] at h
  split at h <;> first | (cases h; done) | (rename_i heq _; cases heq; done) | skip
  · cases h; exact ⟨[], ⟨_, rfl, .inl ⟨rfl, rfl⟩, by simp⟩, by simp [Rows.uptoBulk]⟩
  · rename_i a len cap heq _
    cases heq
    simp only [Option.ite_none_right_eq_some, Option.bind_eq_some_iff, Option.map_eq_some_iff, if_true] at h
    obtain ⟨hc, ys, hy, zs, hz, rfl⟩ := h
    obtain ⟨hl, hall⟩ := mapM_all' hy
    rw [List.length_range] at hl
    simp only [DataW.weights, hu, List.all_cons, List.all_append, Bool.and_eq_true, decide_eq_true_eq] at hw
    have hwa := fun (i : Nat) (h : i < (ys.map (·.1)).length) => weights_all (ys.map (·.1)) hw.2.1 i h
    have key : ∀ i, i < len → ∃ q : α, ∃ y es, ys[i]? = some y ∧ es.length = P.cellsOf e ∧ cellsAt w (a.add (i * P.cellsOf e)) es ∧ R w es q ∧ b q ≤ Rows.uptoBulk y.1 := by
      intro i hi
      obtain ⟨y, g1, g2⟩ := hall i (by simpa using hi)
      rw [List.getElem_range] at g1
      cases hcs : w.cells? 0 (a.add (i * P.cellsOf e)) (P.cellsOf e) with
      | none => simp [hcs] at g1
      | some es =>
        simp [hcs] at g1
        obtain ⟨k1, k2⟩ := cells?_at hcs
        have hlt : i < ys.length := by omega
        rw [List.getElem?_eq_getElem hlt] at g2
        have hww := hwa i (by simpa using hlt)
        cases g2
        obtain ⟨q, k3, k4⟩ := he enc w held f es _ g1 (by simpa using hww)
        have g2 : ys[i]? = some ys[i] := List.getElem?_eq_getElem hlt
        exact ⟨q, _, es, g2, k1, k2, k3, k4⟩
    obtain ⟨l, hll, hlp⟩ := choose_list key
    refine ⟨l, ?_, ?_⟩
    · refine ⟨_, rfl, .inr ⟨a, cap, by rw [hll], by rw [hll]; exact hc.2.1, fun i hi => ?_⟩, ?_⟩
      · obtain ⟨y, es, _, k1, k2, k3, _⟩ := hlp i hi
        exact ⟨es, k1, k2, k3⟩
      · have h9 := hw.1
        rw [List.length_map, hl] at h9
        rw [hll]
        exact Nat.le_trans (Nat.mul_le_mul_right _ (Nat.le_add_right _ _)) h9
    · simp only [Rows.uptoBulk]
      have := sum_le_all (b := b) l (ys.map (·.1)) (by simp [hll, hl]) (fun i h1 h2 => by
        obtain ⟨y, es, k0, _, _, _, k4⟩ := hlp i h1
        have h3 : i < ys.length := by simpa using h2
        rw [List.getElem?_eq_getElem h3] at k0
        cases k0
        simpa using k4)
      omega
/-- a struct's fields, one after the other -/
def OpensF (P : Program) (fs : List Field) (α : Type) (R : RepT α) (bulk : α → Nat) : Prop :=
  ∀ {H : Type} (enc : TypeId × Value → H) (w : World) (held : Bool) (fuel : Nat) (cs : List Value) (ys : List (DataW H × List MemPlace)),
    (fs.mapM fun f => DataW.trod enc P w 0 (fun _ => true) held fuel f.type ((cs.drop f.offset).take (P.cellsOf f.type))) = some ys →
    (DataW.weightsEach P (fs.map (·.type)) (ys.map (·.1))).all (· ≤ reachBytes) = true → ∃ a, R w cs a ∧ bulk a ≤ Rows.uptoBulkAll (ys.map (·.1))
theorem opf_nil : OpensF P [] Unit (fun _ _ _ => True) (fun _ => 0) := by
  intro H enc w held fuel cs ys h _
  exact ⟨(), trivial, by simp⟩
theorem opf_cons {f : Field} {fs : List Field} {n : Nat} {α β : Type} {R : RepT α} {S : RepT β} {b : α → Nat} {c : β → Nat} (hn : P.cellsOf f.type = n) (he : Opens P f.type α R b) (hf : OpensF P fs β S c) :
    OpensF P (f :: fs) (α × β) (fun w cs x => R w ((cs.drop f.offset).take n) x.1 ∧ S w cs x.2) (fun x => b x.1 + c x.2) := by
  intro H enc w held fuel cs ys h hw
  rw [List.mapM_cons] at h
  cases h1 : DataW.trod enc P w 0 (fun _ => true) held fuel f.type ((cs.drop f.offset).take (P.cellsOf f.type)) with
  | none => simp [h1] at h
  | some y =>
    simp only [h1] at h
    cases h2 : (fs.mapM fun f => DataW.trod enc P w 0 (fun _ => true) held fuel f.type ((cs.drop f.offset).take (P.cellsOf f.type))) with
    | none => simp [h2] at h
    | some zs =>
      simp [h2] at h
      subst h
      simp only [List.map_cons, DataW.weightsEach, List.all_append, Bool.and_eq_true] at hw
      obtain ⟨a, k1, k2⟩ := he enc w held fuel _ y h1 hw.1
      obtain ⟨a', k3, k4⟩ := hf enc w held fuel cs zs h2 hw.2
      rw [hn] at k1
      exact ⟨(a, a'), ⟨k1, k3⟩, by simp only [List.map_cons, Rows.uptoBulkAll]; omega⟩
theorem op_struct {t : TypeId} {fs : Array Field} {n : Nat} {α : Type} {R : RepT α} {b : α → Nat} (hu : P.underlying t = some (.struct fs)) (hn : P.cellsOf t = n) (hf : OpensF P fs.toList α R b) : Opens P t α (fun w cs x => cs.length = n ∧ R w cs x) (fun x => b x + 1) := by
  intro H enc w held fuel cs x h hw
  obtain ⟨f, rfl, h⟩ := step_of h
  rw [DataW.trod_step] at h
  unfold DataW.trodStep at h
  simp only [hu, hn] at h
  simp only [Option.ite_none_right_eq_some, Option.map_eq_some_iff] at h
  obtain ⟨hc, ys, hy, rfl⟩ := h
  have hf' : (fs.toList.mapM fun f' => DataW.trod enc P w 0 (fun _ => true) held f f'.type ((cs.drop f'.offset).take (P.cellsOf f'.type))) = some ys := by simpa using hy
  simp only [DataW.weights, hu] at hw
  obtain ⟨a, k1, k2⟩ := hf enc w held f cs ys hf' hw
  exact ⟨a, ⟨hc, k1⟩, by simp only [Rows.uptoBulk]; omega⟩
theorem Opens.mono {t : TypeId} {α : Type} {β : Type} {R : RepT α} {S : RepT β} {b : α → Nat} {c : β → Nat} (h : Opens P t α R b) (f : ∀ w cs a, R w cs a → ∃ x, S w cs x ∧ c x ≤ b a) : Opens P t β S c := by
  intro H enc w held fuel cs x hx hw
  obtain ⟨a, h1, h2⟩ := h enc w held fuel cs x hx hw
  obtain ⟨y, h3, h4⟩ := f w cs a h1
  exact ⟨y, h3, Nat.le_trans h4 h2⟩
end
/-- an argument of one cell -/
theorem open_one {P : Program} {t : TypeId} {α : Type} {R : RepT α} {b : α → Nat} (h : Opens P t α R b) (hs : isSc P t = true) (h1 : ∀ w cs a, R w cs a → ∃ v, cs = [v])
    {H : Type} {enc : TypeId × Value → H} {W : World} {held : Bool} {r : Reach} {b0 : Nat} {v : Value} {d : DataW H} {ps : List MemPlace}
    (hv : Value.okWide P W r b0 t v) (hd : DataW.Trod enc P W 0 (fun _ => true) held t v d ps) (hw : (d.weights P t).all (· ≤ reachBytes) = true) : ∃ a, R W [v] a ∧ b a ≤ Rows.uptoBulk d := by
  obtain ⟨fuel, hf⟩ := hd
  obtain ⟨a, h2, h3⟩ := h enc W held fuel _ _ hf hw
  refine ⟨a, ?_, h3⟩
  suffices v.cells = #[v] by rw [this] at h2; exact h2
  cases v with
  | agg cs =>
    exfalso
    unfold isSc at hs
    unfold Value.okWide at hv
    cases hu : P.underlying t with
    | none => simp [hu] at hs
    | some u => cases u <;> simp [hu] at hs <;> simp [hu, Cell.okWide, Cell.ok] at hv
  | _ => rfl
end Sh
end Go.Proofs.YtongpnolikkknaaGreatDoor

namespace Go.Proofs.YtongpnolikkknaaGreatDoor
namespace Sh
open RowKit
theorem wrap_u8 {x : Int} : IntKind.u8.wrap x = x % 256 := by
  unfold IntKind.wrap
  simp [IntKind.signed, IntKind.bits]
theorem wrap_u64 {x : Int} : IntKind.u64.wrap x = x % 18446744073709551616 := by
  unfold IntKind.wrap
  simp [IntKind.signed, IntKind.bits]
theorem Below_nil {w w' : World} (h : w.grownBy w' (Value.slice none 0 0).ownBlock) : Below w.heap.size w w' := (Below.refl _ _).grown h (Nat.le_refl _) (fun k hk => by cases hk)
theorem of_drw {B : Nat} {w w' : World} (h : Below B (drw w) w') : Below B w w' := ⟨h.os, h.tape, h.output, h.size, h.block⟩
section
variable {P : Program} {w : World} {Q : Value → World → Prop} {K : Value → M} {K0 : M} {B : Nat}
theorem smr_run {s : Sem Value} {v : Value} (h : s.run P w = .ok v w) : smr P s K w Q = K v w Q := by
  rw [smr_e, h]
  apply propext
  constructor
  · rintro ⟨v', h1, h2⟩; cases h1; exact h2
  · intro h2; exact ⟨v, rfl, h2⟩
theorem pn_eq {t : TypeId} {p : Option Addr} {x y : Operand} (h : P.underlying t = some (.pointer (P.pointee t))) :
    smr P (do eqGuard .eql t x y (.pointer p) (.pointer none); binOp .eql t (.pointer p) (.pointer none)) K w Q = K (.bool p.isNone) w Q :=
  smr_run (by simp [eqGuard, run_eql_pointer_nil w t p h])
theorem pn_ne {t : TypeId} {p : Option Addr} {x y : Operand} (h : P.underlying t = some (.pointer (P.pointee t))) :
    smr P (do eqGuard .neq t x y (.pointer p) (.pointer none); binOp .neq t (.pointer p) (.pointer none)) K w Q = K (.bool (!p.isNone)) w Q :=
  smr_run (by simp [eqGuard, run_neq_pointer_nil w t p h])
/-- an element of a row of the call's own stored -/
theorem ia_st {e : TypeId} {k j : IntKind} {v : Value} {l : List Int} {i : Nat} {x : Int} (h : ownI B e k w v l) (hi : i < l.length)
    (kk : ∀ w', ownI B e k w' v (l.set i x) → (∃ g, v.ownBlock = some g ∧ B ≤ g ∧ g < w.heap.size ∧ Upd g w w') → K0 w' Q) : ia 1 v (.int j (i : Int)) (fun p => st p (.int k x) K0) w Q := by
  obtain ⟨h1, h2⟩ := h
  rcases h2 with ⟨rfl, h0⟩ | ⟨g, cap, cur, rfl, hg, hb, hn, hm, hs, ht⟩
  · omega
  · rw [ia_e]
    refine ⟨by omega, by omega, ?_⟩
    rw [Int.toNat_natCast, Nat.mul_one, add_lit, Nat.zero_add]
    simp only [Nat.mul_one] at hs ht
    refine st_box hb (by omega) rfl fun w' hw hu => ?_
    refine kk w' ?_ ⟨g, rfl, hg, blk_lt hb, hu⟩
    refine ⟨by simp, .inr ⟨g, cap, cur.setIfInBounds i (.int k x), by simp, hg, hw, by simpa using hn, hm, by simp [hs], ?_⟩⟩
    have hl : (cur.setIfInBounds i (.int k x)).toList = cur.toList.set i (.int k x) := by simp
    rw [hl, List.length_set, Nat.mul_one, List.take_set, ht, List.map_set]
/-- the same row behind a change of a block that isn't its own -/
theorem ownI_chg {e : TypeId} {k : IntKind} {v : Value} {l : List Int} {p : Nat} {w' : World} (h : ownI B e k w v l) (hc : Chg p w w') (hp : v.ownBlock ≠ some p) : ownI B e k w' v l := by
  obtain ⟨h1, h2⟩ := h
  refine ⟨h1, ?_⟩
  rcases h2 with h2 | ⟨g, cap, cur, rfl, hg, hb, rest⟩
  · exact .inl h2
  · refine .inr ⟨g, cap, cur, rfl, hg, hc.keep hb (fun e => hp (by rw [e]; rfl)), rest⟩
theorem or_run {a b : Nat} (ha : a < 18446744073709551616) (hb : b < 18446744073709551616) : bws .or .u64 (.int .u64 (a : Int)) (.int .u64 (b : Int)) K w Q = K (.int .u64 ((a ||| b : Nat) : Int)) w Q := by
  have e : ∀ (P : Program) (w : World), (Op.intBits .or .u64 (a : Int) (b : Int)).run P w = .ok (.int .u64 ((a ||| b : Nat) : Int)) w := fun P w => by
    rw [Go.intBits_or, bits_or_u64_nat a b ha hb]; rfl
  apply propext
  constructor
  · rintro ⟨a', b', v, h1, h2, h3, h4⟩
    cases h1; cases h2
    have := (h3 default w).symm.trans (e _ w)
    cases this
    exact h4
  · intro h; exact ⟨_, _, _, rfl, rfl, e, h⟩
/-- the first of a slice -/
theorem sll_S {α : Type} {n : Nat} {R : RepT α} {v : Value} {l : List α} {k : Nat} {j : IntKind} (h : rdS n R w v l) (hk : k ≤ l.length) (kk : ∀ v', rdS n R w v' (l.take k) → K v' w Q) : sll n v none (some (.int j (k : Int))) K w Q := by
  rcases h with ⟨rfl, rfl⟩ | ⟨a, c, rfl, hcc, h⟩
  · have : k = 0 := by simpa using hk
    subst this
    refine ⟨none, 0, 0, 0, 0, rfl, ⟨_, _, rfl, by omega, by omega, by omega⟩, rfl, ?_⟩
    exact kk _ (.inl ⟨by simp, by simp⟩)
  · refine ⟨some a, l.length, c, 0, k, rfl, ⟨_, _, rfl, by omega, by omega, by omega⟩, rfl, ?_⟩
    have ev : (if c = 0 then some a else (some a).map (·.add (0 * n))) = some a := by split <;> simp [add_zero']
    rw [ev, Nat.sub_zero, Nat.sub_zero]
    refine kk _ (.inr ⟨a, c, by rw [List.length_take, Nat.min_eq_left hk], by rw [List.length_take]; omega, fun i hi => ?_⟩)
    have hi' : i < l.length := by simp at hi; omega
    obtain ⟨es, h1, h2, h3⟩ := h i hi'
    exact ⟨es, h1, h2, by simpa using h3⟩
end
end Sh
end Go.Proofs.YtongpnolikkknaaGreatDoor

set_option maxRecDepth 20000
namespace Go.Proofs.YtongpnolikkknaaGreatDoor
open Sh RowKit

theorem q_cong {Q : Value → World → Prop} {w : World} {b c : Bool} (h : b = c) (hq : Q (.bool b) w) : Q (.bool c) w := h ▸ hq
theorem u36 : Tryz.prog.underlying 183 = some (.pointer (Tryz.prog.pointee 183)) := by kernel_rfl
theorem u5 : Tryz.prog.underlying 5 = some (.int .u8) := by kernel_rfl
/-- how many bytes a number has -/
def wd (k : Int) : Int := if 8 < (if k < 1 then 1 else k) then 8 else (if k < 1 then 1 else k)
theorem wd_bd (k : Int) : 1 ≤ wd k ∧ wd k ≤ 8 := by unfold wd; split <;> split <;> omega
theorem f163_s (k : Int) (w : World) (Q : Value → World → Prop) (h : Q (.int .i64 (wd k)) w) : f163 (.int .i64 k) w Q := by
  unfold f163
  simp only [↓reduceIte, ↓LL, LM, Value.cells, Nat.reduceAdd, Option.some.injEq, exists_eq_left', decide_true, decide_false, if_true, if_false, reduceCtorEq, cond_true, cond_false]
  exact h
/-- the low k bytes of a number, the highest first -/
def nb (n : Nat) : Nat → List Int
  | 0 => []
  | k + 1 => ((n / 256 ^ k % 256 : Nat) : Int) :: nb n k
theorem nb_len (n : Nat) : ∀ k, (nb n k).length = k
  | 0 => rfl
  | k + 1 => by simp [nb, nb_len n k]
theorem nb_bd (n : Nat) : ∀ k, ∀ x ∈ nb n k, 0 ≤ x ∧ x ≤ 255
  | 0, x, h => by simp [nb] at h
  | k + 1, x, h => by
    rcases List.mem_cons.1 h with rfl | h
    · omega
    · exact nb_bd n k x h
theorem pow8 (i : Nat) : (2 : Nat) ^ (8 * i) = 256 ^ i := by rw [Nat.pow_mul]
theorem shr_by (n i : Nat) (hi : i ≤ 8) : (n : Int).fdiv (2 ^ (min ((8 * (i : Int)).toNat) (IntKind.u64.bits))) = ((n / 256 ^ i : Nat) : Int) := by
  have e : min ((8 * (i : Int)).toNat) (IntKind.u64.bits) = 8 * i := by
    show min _ 64 = _
    omega
  rw [e, Int.fdiv_eq_ediv_of_nonneg _ (by exact_mod_cast Nat.zero_le _)]
  rw [← pow8]
  push_cast
  rfl

theorem num_loop (j1 : Value → M) {Q : Value → World → Prop} {B : Nat} {n : Nat} : ∀ (k m : Nat) (v : Value) (l : List Int) (w : World), k ≤ 8 → k < m → B ≤ w.heap.size → ownI B 5 .u8 w v l → l.length + k ≤ 140737488355328 →
    (∀ v' w', ownI B 5 .u8 w' v' (l ++ nb n k) → Below B w w' → j1 v' w' Q) → itr (fun _ _ _ => bot) (f147_b2 j1) m v (.int .u64 (n : Int)) (.int .i64 ((k : Int) - 1)) w Q := by
  intro k
  induction k with
  | zero =>
    intro m v l w hk hm hB ho hl kk
    obtain ⟨m, rfl⟩ : ∃ x, m = x + 1 := ⟨m - 1, by omega⟩
    show f147_b2 j1 _ _ _ _ w Q
    unfold f147_b2
    have : ¬ (0 : Int) ≤ ((0 : Nat) : Int) - 1 := by omega
    simp only [↓reduceIte, ↓LL, LM, Value.cells, Nat.reduceAdd, Option.some.injEq, exists_eq_left', decide_true, decide_false, if_true, if_false, reduceCtorEq, cond_true, cond_false, this]
    exact kk _ _ (by simpa [nb] using ho) (Below.refl _ _)
  | succ k ih =>
    intro m v l w hk hm hB ho hl kk
    obtain ⟨m, rfl⟩ : ∃ x, m = x + 1 := ⟨m - 1, by omega⟩
    show f147_b2 j1 _ _ _ _ w Q
    unfold f147_b2
    have e1 : ((k + 1 : Nat) : Int) - 1 = (k : Int) := by omega
    have e2 : IntKind.i64.wrap (8 * (k : Int)) = 8 * (k : Int) := w64 (by omega) (by omega)
    have e3 : IntKind.i64.wrap ((k : Int) - 1) = (k : Int) - 1 := w64 (by omega) (by omega)
    have h0 : (0 : Int) ≤ (k : Int) := by omega
    have h1 : (0 : Int) ≤ 8 * (k : Int) := by omega
    simp only [↓reduceIte, ↓LL, LM, Value.cells, Nat.reduceAdd, Option.some.injEq, exists_eq_left', decide_true, decide_false, if_true, if_false, reduceCtorEq, cond_true, cond_false, e1, e2, e3, h0, shr_e, h1, shr_by n k (by omega), true_and, wrap_u8]
    refine bsl1 slt42 rfl rfl ?_
    have hp0 := blk_psh_new (w := w) (o := .cells #[.int .u8 (((n / 256 ^ k : Nat) : Int) % 256)] 5)
    have ho1 := ownI_psh ho (.cells #[.int .u8 (((n / 256 ^ k : Nat) : Int) % 256)] 5)
    have hb1 := b_psh w (.cells #[.int .u8 (((n / 256 ^ k : Nat) : Int) % 256)] 5)
    refine ap_rd (m := [((n / 256 ^ k : Nat) : Int) % 256]) slt42 ho1 (.inr ⟨⟨w.heap.size, 0, none⟩, 1, rfl, fun i hi => ?_⟩) (by simp; omega) (by simp; omega) (by rw [size_psh]; omega) ?_
    · have : i = 0 := by simpa using hi
      subst this
      rw [add_lit, cell_psh_new]; rfl
    · intro v' w' ho' hg
      have hb2 : Below B w w' := Below_grown (bt' (Below.refl _ _) hB hb1) ho1 (by rw [size_psh]; omega) hg
      simp only [↓reduceIte, ↓LL, LM, Value.cells, Nat.reduceAdd, Option.some.injEq, exists_eq_left', decide_true, decide_false, if_true, if_false, reduceCtorEq, cond_true, cond_false, e3]
      refine ih m v' _ w' (by omega) (by omega) (Nat.le_trans hB hb2.size) ho' (by simp; omega) ?_
      intro v'' w'' ho'' hb3
      refine kk _ _ ?_ (hb2.trans hb3)
      simp only [nb]
      rw [List.append_assoc] at ho''
      simpa using ho''
theorem f147_s {B : Nat} (n : Nat) (k : Int) (v : Value) (l : List Int) (w : World) (Q : Value → World → Prop) (hB : B ≤ w.heap.size) (ho : ownI B 5 .u8 w v l) (hl : l.length + 8 ≤ 140737488355328)
    (h : ∀ v' w', ownI B 5 .u8 w' v' (l ++ nb n (wd k).toNat) → Below B w w' → Q v' w') : f147 v (.int .u64 (n : Int)) (.int .i64 k) w Q := by
  unfold f147
  simp only [↓cl_e]
  refine f163_s k _ _ ?_
  have bd := wd_bd k
  have e : IntKind.i64.wrap (wd k - 1) = (((wd k).toNat : Nat) : Int) - 1 := by rw [w64 (by omega) (by omega)]; omega
  simp only [↓reduceIte, ↓LL, LM, Value.cells, Nat.reduceAdd, Option.some.injEq, exists_eq_left', decide_true, decide_false, if_true, if_false, reduceCtorEq, cond_true, cond_false, e]
  refine ⟨_, num_loop _ (wd k).toNat _ v l w (by omega) (Nat.lt_succ_self _) hB ho (by omega) ?_⟩
  intro v' w' ho' hb
  unfold f147_j1
  rw [rt_e]
  exact h _ _ ho' hb
/-- a text as bytes -/
def sb (s : ByteArray) : List Int := ((min s.size 255 : Nat) : Int) :: (byL s).take 255
theorem bnd_hi {d m j : Nat} (h : j ≤ m) : bnd (some (.int .i64 (j : Int))) d m j := ⟨_, _, rfl, by omega, by omega, by omega⟩
theorem bnd_none {d m : Nat} : bnd none d m d := rfl
/-- a number is told whole -/
def fitB (n : Nat) (k : Int) : Bool := decide (n < 256 ^ (wd k).toNat)
theorem f164_s (n : Nat) (hn : n < 18446744073709551616) (k : Int) (w : World) (Q : Value → World → Prop) (h : Q (.bool (fitB n k)) w) : f164 (.int .u64 (n : Int)) (.int .i64 k) w Q := by
  unfold f164
  simp only [↓cl_e]
  refine f163_s k _ _ ?_
  have bd := wd_bd k
  have e1 : IntKind.i64.wrap (8 * wd k) = 8 * wd k := w64 (by omega) (by omega)
  have e2 : IntKind.i64.wrap (8 * wd k - 1) = 8 * wd k - 1 := w64 (by omega) (by omega)
  have h0 : (0 : Int) ≤ 8 * wd k - 1 := by omega
  have h1 : (0 : Int) ≤ 1 := by omega
  simp only [↓reduceIte, ↓LL, LM, Value.cells, Nat.reduceAdd, Option.some.injEq, exists_eq_left', decide_true, decide_false, if_true, if_false, reduceCtorEq, cond_true, cond_false, e1, e2, shr_e, h0, h1, true_and]
  have e3 : min (8 * wd k - 1).toNat IntKind.u64.bits = 8 * (wd k).toNat - 1 := by show min _ 64 = _; omega
  have e4 : min (1 : Int).toNat IntKind.u64.bits = 1 := rfl
  rw [e3, e4]
  have p1 : ∀ x y : Nat, (x : Int).fdiv (2 ^ y) = ((x / 2 ^ y : Nat) : Int) := fun x y => by
    rw [Int.fdiv_eq_ediv_of_nonneg _ (by exact_mod_cast Nat.zero_le _)]
    push_cast
    rfl
  rw [p1, p1, Nat.div_div_eq_div_mul, ← Nat.pow_add, show 8 * (wd k).toNat - 1 + 1 = 8 * (wd k).toNat from by omega, pow8]
  refine q_cong ?_ h
  unfold fitB
  rw [Bool.eq_iff_iff, decide_eq_true_eq, decide_eq_true_eq]
  have : n / 256 ^ (wd k).toNat = 0 ↔ n < 256 ^ (wd k).toNat := by
    rw [Nat.div_eq_zero_iff]
    have : 256 ^ (wd k).toNat ≠ 0 := Nat.pos_iff_ne_zero.1 (Nat.pow_pos (by decide))
    omega
  rw [← this]
  omega
end Go.Proofs.YtongpnolikkknaaGreatDoor

set_option maxRecDepth 20000
namespace Go.Proofs.YtongpnolikkknaaGreatDoor
open Sh RowKit

def nos : ByteArray := ⟨#[]⟩
def rC (s : ByteArray) (e : Int) : Array Value := #[.string s, .int .i64 e]
/-- what is taken of a reader: the text, whether it was there, what is left, the error -/
def take (s : ByteArray) (e : Int) (k : Nat) : ByteArray × Bool × ByteArray × Int :=
  if e = 0 then (if s.size < k then (nos, false, s, 2) else (s.extract 0 k, true, s.extract k s.size, 0)) else (nos, false, s, e)
theorem f162_s (p : Nat) (s : ByteArray) (e : Int) (k : Nat) (w : World) (Q : Value → World → Prop) (hp : w.heap[p]? = some (.cells (rC s e) 206 (0, 0)))
    (h : ∀ w', w'.heap[p]? = some (.cells (rC (take s e k).2.2.1 (take s e k).2.2.2) 206 (0, 0)) → Chg p w w' → Q (.tuple #[.string (take s e k).1, .bool (take s e k).2.1]) w') : f162 (.pointer (some ⟨p, 0, none⟩)) (.int .i64 (k : Int)) w Q := by
  unfold f162
  have c0 := cell_of_blk (n := 0) hp
  have c1 := cell_of_blk (n := 1) hp
  rw [pn_eq u36]
  simp only [↓reduceIte, ↓LL, LM, Value.cells, Nat.reduceAdd, Option.some.injEq, exists_eq_left', decide_true, decide_false, if_true, if_false, reduceCtorEq, cond_true, cond_false, Option.isNone_some, c0, c1, rC]
  by_cases he : e = 0
  · subst he
    by_cases c : s.size < k
    · have c' : (s.size : Int) < (k : Int) := by omega
      simp only [↓reduceIte, ↓LL, LM, Value.cells, Nat.reduceAdd, Option.some.injEq, exists_eq_left', decide_true, decide_false, if_true, if_false, reduceCtorEq, cond_true, cond_false, ne_eq, c', not_true_eq_false, c0, c1, rC]
      refine st_box hp (by simp [rC]) rfl fun w' h1 hu => ?_
      try simp only [↓reduceIte, ↓LL, LM, Value.cells, Nat.reduceAdd, Option.some.injEq, exists_eq_left', decide_true, decide_false, if_true, if_false, reduceCtorEq, cond_true, cond_false]
      have := h w'
      simp only [take, if_true, c] at this
      exact this h1 hu.chg
    · have c' : ¬ (s.size : Int) < (k : Int) := by omega
      simp only [↓reduceIte, ↓LL, LM, Value.cells, Nat.reduceAdd, Option.some.injEq, exists_eq_left', decide_true, decide_false, if_true, if_false, reduceCtorEq, cond_true, cond_false, ne_eq, c', not_true_eq_false, c0, c1, rC]
      refine ⟨s, 0, k, rfl, bnd_hi (by omega), bnd_none, ?_⟩
      simp only [↓reduceIte, ↓LL, LM, Value.cells, Nat.reduceAdd, Option.some.injEq, exists_eq_left', decide_true, decide_false, if_true, if_false, reduceCtorEq, cond_true, cond_false, c0, c1, rC]
      refine ⟨s, k, s.size, rfl, bnd_none, bnd_hi (by omega), ?_⟩
      try simp only [↓reduceIte, ↓LL, LM, Value.cells, Nat.reduceAdd, Option.some.injEq, exists_eq_left', decide_true, decide_false, if_true, if_false, reduceCtorEq, cond_true, cond_false]
      refine st_box hp (by simp [rC]) rfl fun w' h1 hu => ?_
      try simp only [↓reduceIte, ↓LL, LM, Value.cells, Nat.reduceAdd, Option.some.injEq, exists_eq_left', decide_true, decide_false, if_true, if_false, reduceCtorEq, cond_true, cond_false]
      have := h w'
      simp only [take, if_true, c, if_false] at this
      exact this h1 hu.chg
  · simp only [↓reduceIte, ↓LL, LM, Value.cells, Nat.reduceAdd, Option.some.injEq, exists_eq_left', decide_true, decide_false, if_true, if_false, reduceCtorEq, cond_true, cond_false, ne_eq, he, not_false_eq_true]
    have := h w
    simp only [take, he, if_false] at this
    exact this hp (Chg.refl _ _)
theorem max0 (k : Int) : (if k < 0 then (0 : Int) else k) = ((k.toNat : Nat) : Int) := by split <;> omega
theorem f139_s (p : Nat) (s : ByteArray) (e : Int) (k : Int) (w : World) (Q : Value → World → Prop) (hp : w.heap[p]? = some (.cells (rC s e) 206 (0, 0)))
    (h : ∀ w', w'.heap[p]? = some (.cells (rC (take s e k.toNat).2.2.1 (take s e k.toNat).2.2.2) 206 (0, 0)) → Chg p w w' → Q (.string (take s e k.toNat).1) w') : f139 (.pointer (some ⟨p, 0, none⟩)) (.int .i64 k) w Q := by
  unfold f139
  simp only [↓reduceIte, ↓LL, LM, Value.cells, Nat.reduceAdd, Option.some.injEq, exists_eq_left', decide_true, decide_false, if_true, if_false, reduceCtorEq, cond_true, cond_false, max0]
  refine f162_s p s e _ _ _ hp fun w' h1 hc => ?_
  try simp only [↓reduceIte, ↓LL, LM, Value.cells, Nat.reduceAdd, Option.some.injEq, exists_eq_left', decide_true, decide_false, if_true, if_false, reduceCtorEq, cond_true, cond_false]
  exact h w' h1 hc
/-- bytes as a number -/
def ofB : List Int → Nat → Nat
  | [], n => n
  | x :: r, n => ofB r (256 * n + x.toNat)
theorem or_add (n x : Nat) (hx : x < 256) : (256 * n) ||| x = 256 * n + x := by
  have := Nat.two_pow_add_eq_or_of_lt (i := 8) (b := x) (by simpa using hx) n
  simpa using this.symm
theorem rdn_loop (j1 : Value → M) {Q : Value → World → Prop} {v : Value} {w : World} {l : List Int} (hr : rdI .u8 w v l) (hb : ∀ x ∈ l, 0 ≤ x ∧ x ≤ 255) (hl : l.length ≤ 8) : ∀ (d m i n : Nat), i + d = l.length → d < m → n < 256 ^ i →
    j1 (.int .u64 (ofB (l.drop i) n : Nat)) w Q → itr (fun _ _ _ _ => bot) (f138_b2 j1) m (.int .u64 (n : Int)) v (.int .i64 l.length) (.int .i64 i) w Q := by
  intro d
  induction d with
  | zero =>
    intro m i n hi hm hn k
    obtain ⟨m, rfl⟩ : ∃ x, m = x + 1 := ⟨m - 1, by omega⟩
    show f138_b2 j1 _ _ _ _ _ w Q
    unfold f138_b2
    have : ¬ (i : Int) < l.length := by omega
    simp only [↓reduceIte, ↓LL, LM, Value.cells, Nat.reduceAdd, Option.some.injEq, exists_eq_left', decide_true, decide_false, if_true, if_false, reduceCtorEq, cond_true, cond_false, this]
    rw [List.drop_of_length_le (by omega)] at k
    exact k
  | succ d ih =>
    intro m i n hi hm hn k
    obtain ⟨m, rfl⟩ : ∃ x, m = x + 1 := ⟨m - 1, by omega⟩
    show f138_b2 j1 _ _ _ _ _ w Q
    unfold f138_b2
    have hlt : (i : Int) < l.length := by omega
    simp only [↓reduceIte, ↓LL, LM, Value.cells, Nat.reduceAdd, Option.some.injEq, exists_eq_left', decide_true, decide_false, if_true, if_false, reduceCtorEq, cond_true, cond_false, hlt]
    refine ia_ld hr (by omega) hlt fun hh => ?_
    have h1 : IntKind.i64.wrap ((i : Int) + 1) = ((i + 1 : Nat) : Int) := by rw [w64 (by omega) (by omega)]; rfl
    have hx := hb _ (List.getElem_mem hh)
    have e0 : (i : Int).toNat = i := rfl
    have hp : 256 ^ i ≤ 256 ^ 7 := Nat.pow_le_pow_right (by decide) (by omega)
    have e2 : IntKind.u64.wrap ((n : Int) * 2 ^ (min (8 : Int).toNat IntKind.u64.bits)) = ((256 * n : Nat) : Int) := by
      rw [show min (8 : Int).toNat IntKind.u64.bits = 8 from rfl, wrap_u64]
      omega
    have e3 : IntKind.u64.wrap l[(i : Int).toNat] = (((l[(i : Int).toNat]).toNat : Nat) : Int) := by rw [wrap_u64]; omega
    have h8 : (0 : Int) ≤ 8 := by decide
    simp only [↓reduceIte, ↓LL, LM, Value.cells, Nat.reduceAdd, Option.some.injEq, exists_eq_left', decide_true, decide_false, if_true, if_false, reduceCtorEq, cond_true, cond_false, shl_e, h8, true_and, e2, e3]
    rw [or_run (by omega) (by omega), or_add _ _ (by omega)]
    simp only [↓reduceIte, ↓LL, LM, Value.cells, Nat.reduceAdd, Option.some.injEq, exists_eq_left', decide_true, decide_false, if_true, if_false, reduceCtorEq, cond_true, cond_false, h1]
    refine ih m (i + 1) _ (by omega) (by omega) (by rw [Nat.pow_succ]; omega) ?_
    rw [List.drop_eq_getElem_cons (show i < l.length by omega)] at k
    exact k
theorem take_size (s : ByteArray) (e : Int) (k : Nat) : (take s e k).1.size ≤ k := by
  unfold take
  split
  · split
    · exact Nat.zero_le _
    · rw [ByteArray.size_extract]; omega
  · exact Nat.zero_le _
theorem f138_s (p : Nat) (s : ByteArray) (e : Int) (k : Int) (w : World) (Q : Value → World → Prop) (hp : w.heap[p]? = some (.cells (rC s e) 206 (0, 0)))
    (h : ∀ w', w'.heap[p]? = some (.cells (rC (take s e (wd k).toNat).2.2.1 (take s e (wd k).toNat).2.2.2) 206 (0, 0)) → Chg p w w' → Q (.int .u64 (ofB (byL (take s e (wd k).toNat).1) 0 : Nat)) w') : f138 (.pointer (some ⟨p, 0, none⟩)) (.int .i64 k) w Q := by
  unfold f138
  try simp only [↓reduceIte, ↓LL, LM, Value.cells, Nat.reduceAdd, Option.some.injEq, exists_eq_left', decide_true, decide_false, if_true, if_false, reduceCtorEq, cond_true, cond_false]
  refine f163_s k _ _ ?_
  have bd := wd_bd k
  rw [show wd k = (((wd k).toNat : Nat) : Int) from by omega]
  try simp only [↓reduceIte, ↓LL, LM, Value.cells, Nat.reduceAdd, Option.some.injEq, exists_eq_left', decide_true, decide_false, if_true, if_false, reduceCtorEq, cond_true, cond_false]
  refine f162_s p s e _ _ _ hp fun w' h1 hc => ?_
  try simp only [↓reduceIte, ↓LL, LM, Value.cells, Nat.reduceAdd, Option.some.injEq, exists_eq_left', decide_true, decide_false, if_true, if_false, reduceCtorEq, cond_true, cond_false]
  refine cvs st9 slt42 u5 fun v w1 hr hb => ?_
  refine lnl_rd hr ?_
  rw [jn_e]
  have hts := take_size s e (wd k).toNat
  refine ⟨_, rdn_loop (i := 0) _ hr (fun x hx => byL_nn hx) (by rw [byL_len]; omega) _ _ 0 (Nat.zero_add _) (Nat.lt_succ_self _) (by decide) ?_⟩
  unfold f138_j1
  rw [rt_e]
  exact h _ (stay hb h1) (hc.trans (.of_below hb))
theorem f141_s (p : Nat) (s : ByteArray) (e : Int) (w : World) (Q : Value → World → Prop) (hp : w.heap[p]? = some (.cells (rC s e) 206 (0, 0))) (h : Q (.int .i64 e) w) : f141 (.pointer (some ⟨p, 0, none⟩)) w Q := by
  unfold f141
  have c1 := cell_of_blk (n := 1) hp
  rw [pn_eq u36]
  simp only [↓reduceIte, ↓LL, LM, Value.cells, Nat.reduceAdd, Option.some.injEq, exists_eq_left', decide_true, decide_false, if_true, if_false, reduceCtorEq, cond_true, cond_false, Option.isNone_some, c1, rC]
  exact h
theorem f140_s (p : Nat) (s : ByteArray) (e : Int) (w : World) (Q : Value → World → Prop) (hp : w.heap[p]? = some (.cells (rC s e) 206 (0, 0))) (h : Q (.int .i64 s.size) w) : f140 (.pointer (some ⟨p, 0, none⟩)) w Q := by
  unfold f140
  have c0 := cell_of_blk (n := 0) hp
  rw [pn_eq u36]
  simp only [↓reduceIte, ↓LL, LM, Value.cells, Nat.reduceAdd, Option.some.injEq, exists_eq_left', decide_true, decide_false, if_true, if_false, reduceCtorEq, cond_true, cond_false, Option.isNone_some, c0, rC]
  exact h
theorem build52 (s : ByteArray) (w : World) : (Instr.build 206 #[(0, .string s)]).run Tryz.prog w = .ok (.agg (rC s 0)) w := by
  kernel_rfl
theorem f137_s (s : ByteArray) (w : World) (Q : Value → World → Prop) (h : ∀ p w', p = w.heap.size → w'.heap[p]? = some (.cells (rC s 0) 206 (0, 0)) → Below w.heap.size w w' → Q (.pointer (some ⟨p, 0, none⟩)) w') : f137 (.string s) w Q := by
  unfold f137
  rw [smr_run (build52 s w)]
  try simp only [↓reduceIte, ↓LL, LM, Value.cells, Nat.reduceAdd, Option.some.injEq, exists_eq_left', decide_true, decide_false, if_true, if_false, reduceCtorEq, cond_true, cond_false]
  exact h _ _ rfl blk_psh_new (b_psh _ _)
end Go.Proofs.YtongpnolikkknaaGreatDoor

namespace Go.Proofs.YtongpnolikkknaaGreatDoor
namespace Sh
open RowKit Go.MapKept
/-- a map's type, its keys' -/
structure KeyK (P : Program) (t kt et : TypeId) (d : TypeDesc) {α : Type} (kv : α → Value) : Prop where
  hm : P.underlying t = some (.map kt et)
  hd : P.underlying kt = some d
  key : ∀ a, IsKey d (kv a)
  inj : ∀ a b, kv a = kv b → a = b
def MapAt {α : Type} (kv : α → Value) (w : World) (b : Nat) (L : List (α × Value)) : Prop :=
  ∃ es clock, w.heap[b]? = some (.map es clock) ∧ Stamped es clock ∧ es.toList.map (fun e => (e.key, e.val)) = L.map (fun p => (kv p.1, p.2))
def put {α : Type} [DecidableEq α] (L : List (α × Value)) (k : α) (v : Value) : List (α × Value) :=
  if k ∈ L.map (·.1) then L.map (fun p => if p.1 = k then (k, v) else p) else L ++ [(k, v)]
def del {α : Type} [DecidableEq α] (L : List (α × Value)) (k : α) : List (α × Value) := L.filter (fun p => decide (p.1 ≠ k))
def lk {α : Type} [DecidableEq α] (L : List (α × Value)) (k : α) : Option Value := (L.find? (fun p => decide (p.1 = k))).map (·.2)
theorem blk_sb {w : World} {b : Nat} {o o' : Obj} (h : w.heap[b]? = some o) : (sb w b o').heap[b]? = some o' := by simp [sb, blk_lt h]
theorem Upd_sb {w : World} {b : Nat} {o : Obj} : Upd b w (sb w b o) := ⟨rfl, rfl, rfl, by simp [sb], fun k hk => by simp [sb, Array.getElem?_setIfInBounds_ne (Ne.symm hk)]⟩
section
variable {α : Type} [DecidableEq α] {kv : α → Value} {P : Program} {t kt et : TypeId} {d : TypeDesc} {w : World} {b : Nat} {L : List (α × Value)} {K : Value → M} {K0 : M} {Q : Value → World → Prop}
omit [DecidableEq α] in
theorem MapAt.stay {w' : World} (h : MapAt kv w b L) (hb : w'.heap[b]? = w.heap[b]?) : MapAt kv w' b L := by
  obtain ⟨es, clock, h1, h2, h3⟩ := h
  exact ⟨es, clock, by rw [hb]; exact h1, h2, h3⟩
omit [DecidableEq α] in
theorem MapAt.lt (h : MapAt kv w b L) : b < w.heap.size := by obtain ⟨es, clock, h1, _⟩ := h; exact blk_lt h1
omit [DecidableEq α] in
theorem MapAt.below {w' : World} (h : MapAt kv w b L) (hb : Below w.heap.size w w') : MapAt kv w' b L := h.stay (hb.block b h.lt)
omit [DecidableEq α] in
theorem MapAt.chg {w' : World} {p : Nat} (h : MapAt kv w b L) (hc : Chg p w w') (hp : b ≠ p) : MapAt kv w' b L := h.stay (hc.block b h.lt hp)
omit [DecidableEq α] in
theorem MapAt.upd {w' : World} {p : Nat} (h : MapAt kv w b L) (hc : Upd p w w') (hp : b ≠ p) : MapAt kv w' b L := h.stay (hc.block b hp)
omit [DecidableEq α] in
theorem MapAt.nodup (h : MapAt kv w b L) : (L.map (·.1)).Nodup := by
  obtain ⟨es, clock, h1, ⟨_, _, h2⟩, h3⟩ := h
  have e : es.toList.map (·.key) = (L.map (·.1)).map kv := by
    have := congrArg (List.map Prod.fst) h3
    simpa [List.map_map, Function.comp_def] using this
  rw [e] at h2
  exact List.Pairwise.of_map kv (fun a b hab e => hab (by rw [e])) h2
omit [DecidableEq α] in
theorem isKeys {es : Array MapEntry} (KK : KeyK P t kt et d kv) (h : es.toList.map (fun e => (e.key, e.val)) = L.map (fun p => (kv p.1, p.2))) : ∀ x ∈ es.toList, IsKey d x.key := by
  intro x hx
  have : (x.key, x.val) ∈ L.map (fun p => (kv p.1, p.2)) := h ▸ List.mem_map.2 ⟨x, hx, rfl⟩
  obtain ⟨p, _, e⟩ := List.mem_map.1 this
  rw [← (Prod.mk.inj e).1]
  exact KK.key _
omit [DecidableEq α] in
theorem ent_at {es : Array MapEntry} (h : es.toList.map (fun e => (e.key, e.val)) = L.map (fun p => (kv p.1, p.2))) (i : Nat) :
    (es.toList[i]?).map (fun e => (e.key, e.val)) = (L[i]?).map (fun p => (kv p.1, p.2)) := by
  rw [← List.getElem?_map, ← List.getElem?_map, h]
theorem lk_none {k : α} : lk L k = none ↔ ∀ p ∈ L, p.1 ≠ k := by simp [lk]
theorem lk_cons {a k : α} {v : Value} : lk ((a, v) :: L) k = if a = k then some v else lk L k := by
  unfold lk
  by_cases h : a = k <;> simp [h]
theorem lk_mem {k : α} {v : Value} (h : lk L k = some v) : (k, v) ∈ L := by
  induction L with
  | nil => simp [lk] at h
  | cons p L ih =>
    obtain ⟨a, u⟩ := p
    rw [lk_cons] at h
    split at h
    · rename_i e; cases h; subst e; simp
    · exact List.mem_cons_of_mem _ (ih h)
theorem mem_lk (hn : (L.map (·.1)).Nodup) {k : α} {v : Value} (h : (k, v) ∈ L) : lk L k = some v := by
  induction L with
  | nil => cases h
  | cons p L ih =>
    obtain ⟨a, u⟩ := p
    rw [lk_cons]
    simp only [List.map_cons, List.nodup_cons] at hn
    rcases List.mem_cons.1 h with e | h
    · cases e; simp
    · have : a ≠ k := fun e => hn.1 (e ▸ List.mem_map.2 ⟨_, h, rfl⟩)
      rw [if_neg this]
      exact ih hn.2 h
/-- what a search finds -/
theorem found (KK : KeyK P t kt et d kv) {es : Array MapEntry} {clock : Nat} (hs : Stamped es clock) (h : es.toList.map (fun e => (e.key, e.val)) = L.map (fun p => (kv p.1, p.2))) (k : α) :
    (lk L k = none ∧ Instr.findNow d (kv k) es.toList 0 = some none ∧ ∀ x ∈ es.toList, x.key ≠ kv k) ∨
    ∃ (i : Nat) (e : MapEntry) (v : Value), lk L k = some v ∧ Instr.findNow d (kv k) es.toList 0 = some (some (i, v)) ∧ es[i]? = some e ∧ e.key = kv k ∧ e.val = v ∧ L[i]? = some (k, v) := by
  have hn : (L.map (·.1)).Nodup := MapAt.nodup (w := { (default : World) with heap := #[.map es clock] }) (b := 0) ⟨es, clock, rfl, hs, h⟩
  rcases findNow_spec (KK.key k) es.toList 0 (isKeys KK h) with ⟨h1, h2⟩ | ⟨j, e, h1, h2, h3⟩
  · refine .inl ⟨lk_none.2 fun p hp e => ?_, h1, h2⟩
    have : (kv p.1, p.2) ∈ es.toList.map (fun e => (e.key, e.val)) := h ▸ List.mem_map.2 ⟨p, hp, rfl⟩
    obtain ⟨x, hx, e2⟩ := List.mem_map.1 this
    exact h2 x hx (by rw [(Prod.mk.inj e2).1, e])
  · right
    have hj := ent_at h j
    rw [h2] at hj
    cases hL : L[j]? with
    | none => simp [hL] at hj
    | some p =>
      simp [hL] at hj
      have hk : p.1 = k := KK.inj _ _ (by rw [← hj.1, h3])
      have hm : (k, p.2) ∈ L := by rw [← hk]; exact List.mem_of_getElem? hL
      refine ⟨j, e, p.2, mem_lk hn hm, ?_, by simpa using h2, h3, hj.2, by rw [← hk]; exact hL⟩
      rw [h1, hj.2, Nat.zero_add]
theorem look_ok (KK : KeyK P t kt et d kv) (h : MapAt kv w b L) {z : Value} (hz : zeroIs P et z) (k : α) :
    smr P (Instr.lookup t (.map (some b)) (kv k) true) K w Q = K (.tuple #[(lk L k).getD z, .bool (lk L k).isSome]) w Q := by
  obtain ⟨es, clock, h1, h2, h3⟩ := h
  refine smr_run ?_
  rcases found KK h2 h3 k with ⟨e1, e2, _⟩ | ⟨i, e, v, e1, e2, _, _, _, _⟩
  · simp [Instr.lookup, run_underlying KK.hm, Go.MapKept.run_getObj_map h1, Go.MapKept.run_checkKey KK.hd (KK.key k), Go.MapKept.run_findKey KK.hd e2, e1, Result.andThen, zero_run hz]
  · simp [Instr.lookup, run_underlying KK.hm, Go.MapKept.run_getObj_map h1, Go.MapKept.run_checkKey KK.hd (KK.key k), Go.MapKept.run_findKey KK.hd e2, e1, Result.andThen]
theorem look_v (KK : KeyK P t kt et d kv) (h : MapAt kv w b L) {z : Value} (hz : zeroIs P et z) (k : α) :
    smr P (Instr.lookup t (.map (some b)) (kv k) false) K w Q = K ((lk L k).getD z) w Q := by
  obtain ⟨es, clock, h1, h2, h3⟩ := h
  refine smr_run ?_
  rcases found KK h2 h3 k with ⟨e1, e2, _⟩ | ⟨i, e, v, e1, e2, _, _, _, _⟩
  · simp [Instr.lookup, run_underlying KK.hm, Go.MapKept.run_getObj_map h1, Go.MapKept.run_checkKey KK.hd (KK.key k), Go.MapKept.run_findKey KK.hd e2, e1, Result.andThen, zero_run hz]
  · simp [Instr.lookup, run_underlying KK.hm, Go.MapKept.run_getObj_map h1, Go.MapKept.run_checkKey KK.hd (KK.key k), Go.MapKept.run_findKey KK.hd e2, e1, Result.andThen]
theorem put_at {i : Nat} {k : α} {u v : Value} (hn : (L.map (·.1)).Nodup) (h : L[i]? = some (k, u)) : put L k v = L.set i (k, v) := by
  unfold put
  rw [if_pos (List.mem_map.2 ⟨_, List.mem_of_getElem? h, rfl⟩)]
  apply List.ext_getElem?
  intro j
  rw [List.getElem?_map, List.getElem?_set]
  have hi : i < L.length := by
    rcases Nat.lt_or_ge i L.length with c | c
    · exact c
    · simp [List.getElem?_eq_none c] at h
  by_cases hij : i = j
  · subst hij
    rw [h]
    simp [hi]
  · simp only [hij, if_false]
    cases hj : L[j]? with
    | none => rfl
    | some p =>
      simp only [Option.map_some]
      have : p.1 ≠ k := by
        intro e
        have h1 : (L.map (·.1))[i]? = some k := by simp [h]
        have h2 : (L.map (·.1))[j]? = some k := by simp [hj, e]
        exact hij ((List.getElem?_inj (by simpa using hi) hn).1 (by rw [h1, h2]))
      simp [this]
/-- a key's value set -/
theorem upd_map (KK : KeyK P t kt et d kv) (h : MapAt kv w b L) (k : α) (v : Value) (kk : ∀ w', MapAt kv w' b (put L k v) → Upd b w w' → K0 w' Q) : smu P (Instr.mapUpdate t (.map (some b)) (kv k) v) K0 w Q := by
  have hn := h.nodup
  obtain ⟨es, clock, h1, h2, h3⟩ := h
  rcases found KK h2 h3 k with ⟨e1, e2, e3⟩ | ⟨i, e, u, e1, e2, e3, e4, e5, e6⟩
  · refine ⟨sb w b (.map (es.push { key := kv k, val := v, born := clock }) (clock + 1)), ?_, kk _ ⟨_, _, blk_sb h1, stamped_push h2 e3, ?_⟩ Upd_sb⟩
    · simp [Instr.mapUpdate, run_underlying KK.hm, Go.MapKept.run_getObj_map h1, Go.MapKept.run_checkKey KK.hd (KK.key k), Go.MapKept.run_findKey KK.hd e2, Go.MapKept.run_setObj_map _ h1, Result.andThen, sb]
    · have : ¬ k ∈ L.map (·.1) := by
        intro hm
        obtain ⟨p, hp, e⟩ := List.mem_map.1 hm
        exact lk_none.1 e1 p hp e
      simp [put, this, h3]
  · refine ⟨sb w b (.map (es.modify i fun x => { x with key := kv k, val := v }) clock), ?_, kk _ ⟨_, _, blk_sb h1, ?_, ?_⟩ Upd_sb⟩
    · simp [Instr.mapUpdate, run_underlying KK.hm, Go.MapKept.run_getObj_map h1, Go.MapKept.run_checkKey KK.hd (KK.key k), Go.MapKept.run_findKey KK.hd e2, e3, e4, Go.MapKept.run_keyThatStays (KK.key k), Go.MapKept.run_setObj_map _ h1, Result.andThen, sb]
    · exact stamped_modify h2 _ _ (fun _ _ => rfl) (fun e' _ he' => by rw [e3] at he'; cases he'; exact e4.symm)
    · rw [put_at hn e6]
      apply List.ext_getElem?
      intro j
      have hj := ent_at h3 j
      have hi := ent_at h3 i
      simp only [List.getElem?_map, Array.getElem?_toList, Array.getElem?_modify, List.getElem?_set] at hj ⊢
      by_cases hij : i = j
      · subst hij
        have hlt : i < L.length := by
          rcases Nat.lt_or_ge i L.length with c | c
          · exact c
          · simp [List.getElem?_eq_none c] at e6
        simp [e3, hlt]
      · simp only [hij, if_false]
        exact hj
omit [DecidableEq α] in
theorem map_eraseIdx' {β γ : Type} (f : β → γ) (l : List β) (i : Nat) : (l.eraseIdx i).map f = (l.map f).eraseIdx i := by
  rw [List.eraseIdx_eq_take_drop_succ, List.eraseIdx_eq_take_drop_succ, List.map_append, List.map_take, List.map_drop]
/-- a key deleted -/
theorem del_map {ts0 : Nat} {ty : TypeId} (KK : KeyK P t kt et d kv) (h : MapAt kv w b L) (k : α) (kk : ∀ w', MapAt kv w' b (del L k) → Upd b w w' → K (.tuple #[]) w' Q) : sm P (Builtin.delete_ #[t, ts0] ty #[.map (some b), kv k]) K w Q := by
  have hn := h.nodup
  obtain ⟨es, clock, h1, h2, h3⟩ := h
  rcases found KK h2 h3 k with ⟨e1, e2, e3⟩ | ⟨i, e, u, e1, e2, e3, e4, e5, e6⟩
  · refine ⟨.tuple #[], sb w b (.map es clock), ?_, kk _ ⟨_, _, blk_sb h1, h2, ?_⟩ Upd_sb⟩
    · simp [Builtin.delete_, run_underlying KK.hm, Go.MapKept.run_getObj_map h1, Go.MapKept.run_checkKey KK.hd (KK.key k), Go.MapKept.run_findKey KK.hd e2, Go.MapKept.run_setObj_map _ h1, Result.andThen, sb]
    · rw [h3]
      congr 1
      unfold del
      rw [List.filter_eq_self.2]
      intro p hp
      simpa using lk_none.1 e1 p hp
  · refine ⟨.tuple #[], sb w b (.map (es.eraseIdxIfInBounds i) clock), ?_, kk _ ⟨_, _, blk_sb h1, stamped_erase h2 _, ?_⟩ Upd_sb⟩
    · simp [Builtin.delete_, run_underlying KK.hm, Go.MapKept.run_getObj_map h1, Go.MapKept.run_checkKey KK.hd (KK.key k), Go.MapKept.run_findKey KK.hd e2, Go.MapKept.run_setObj_map _ h1, Result.andThen, sb]
    · have hi : i < es.size := by
        rcases Nat.lt_or_ge i es.size with c | c
        · exact c
        · simp [Array.getElem?_eq_none c] at e3
      have e7 : (es.eraseIdxIfInBounds i).toList = es.toList.eraseIdx i := by
        unfold Array.eraseIdxIfInBounds
        simp [hi]
      rw [e7, map_eraseIdx', h3, ← map_eraseIdx']
      congr 1
      have hiL : i < L.length := by
        rcases Nat.lt_or_ge i L.length with c | c
        · exact c
        · simp [List.getElem?_eq_none c] at e6
      have e8 : L = L.take i ++ (k, u) :: L.drop (i + 1) := by
        have hLi : L[i] = (k, u) := by rw [List.getElem?_eq_getElem hiL] at e6; exact Option.some.inj e6
        rw [← hLi, List.getElem_cons_drop, List.take_append_drop]
      have hn' := hn
      rw [e8, List.map_append, List.map_cons, List.nodup_append] at hn'
      obtain ⟨_, n2, n3⟩ := hn'
      rw [List.nodup_cons] at n2
      have f1 : ∀ p ∈ L.take i, p.1 ≠ k := fun p hp e => n3 p.1 (List.mem_map.2 ⟨p, hp, rfl⟩) k (by simp) e
      have f2 : ∀ p ∈ L.drop (i + 1), p.1 ≠ k := fun p hp e => n2.1 (List.mem_map.2 ⟨p, hp, e⟩)
      rw [List.eraseIdx_eq_take_drop_succ]
      conv => rhs; rw [e8]
      unfold del
      rw [List.filter_append, List.filter_cons]
      simp only [ne_eq, not_true_eq_false, decide_false, Bool.false_eq_true, if_false]
      rw [List.filter_eq_self.2 (fun p hp => by simpa using f1 p hp), List.filter_eq_self.2 (fun p hp => by simpa using f2 p hp)]
/-- all keys deleted -/
theorem clear_map {ty : TypeId} (KK : KeyK P t kt et d kv) (h : MapAt kv w b L) (kk : ∀ w', MapAt kv w' b [] → Upd b w w' → K (.tuple #[]) w' Q) : sm P (Builtin.clear_ #[t] ty #[.map (some b)]) K w Q := by
  obtain ⟨es, clock, h1, h2, h3⟩ := h
  refine ⟨.tuple #[], sb w b (.map #[] clock), ?_, kk _ ⟨_, _, blk_sb h1, stamped_empty _, rfl⟩ Upd_sb⟩
  simp [Builtin.clear_, run_underlying KK.hm, Go.MapKept.run_getObj_map h1, Go.MapKept.run_setObj_map _ h1, Result.andThen, sb]
omit [DecidableEq α] in
/-- a new map -/
theorem mm_map (kk : ∀ w', MapAt kv w' w.heap.size [] → Below w.heap.size w w' → K (.map (some w.heap.size)) w' Q) : mm K w Q :=
  kk _ ⟨#[], 0, blk_psh_new, stamped_empty _, rfl⟩ (b_psh _ _)
/-- an iterator over a map: what has not yet been told -/
def RangeAt {α : Type} (kv : α → Value) (w : World) (r b : Nat) (L rest : List (α × Value)) : Prop :=
  ∃ es clock since seen c0, w.heap[b]? = some (.map es clock) ∧ w.heap[r]? = some (.mapIter (some b) since seen c0) ∧ Stamped es clock ∧ (∀ x ∈ es.toList, x.born < since) ∧ since ≤ c0 ∧ since ≤ clock ∧
    es.toList.map (fun e => (e.key, e.val)) = L.map (fun p => (kv p.1, p.2)) ∧ (leftOf es seen).toList.map (fun e => (e.key, e.val)) = rest.map (fun p => (kv p.1, p.2))
omit [DecidableEq α] in
theorem RangeAt.map {r : Nat} {rest : List (α × Value)} (h : RangeAt kv w r b L rest) : MapAt kv w b L := by
  obtain ⟨es, clock, since, seen, c0, h1, h2, h3, h4, h5, h6, h7, h8⟩ := h
  exact ⟨es, clock, h1, h3, h7⟩
omit [DecidableEq α] in
theorem RangeAt.stay {r : Nat} {rest : List (α × Value)} {w' : World} (h : RangeAt kv w r b L rest) (hb : w'.heap[b]? = w.heap[b]?) (hr : w'.heap[r]? = w.heap[r]?) : RangeAt kv w' r b L rest := by
  obtain ⟨es, clock, since, seen, c0, h1, h2, h3⟩ := h
  exact ⟨es, clock, since, seen, c0, by rw [hb]; exact h1, by rw [hr]; exact h2, h3⟩
omit [DecidableEq α] in
theorem RangeAt.lt {r : Nat} {rest : List (α × Value)} (h : RangeAt kv w r b L rest) : b < w.heap.size ∧ r < w.heap.size := by
  obtain ⟨es, clock, since, seen, c0, h1, h2, _⟩ := h
  exact ⟨blk_lt h1, blk_lt h2⟩
omit [DecidableEq α] in
theorem RangeAt.below {r : Nat} {rest : List (α × Value)} {w' : World} (h : RangeAt kv w r b L rest) (hb : Below w.heap.size w w') : RangeAt kv w' r b L rest := h.stay (hb.block _ h.lt.1) (hb.block _ h.lt.2)
omit [DecidableEq α] in
theorem RangeAt.chg {r p : Nat} {rest : List (α × Value)} {w' : World} (h : RangeAt kv w r b L rest) (hb : Chg p w w') (h1 : b ≠ p) (h2 : r ≠ p) : RangeAt kv w' r b L rest := h.stay (hb.block _ h.lt.1 h1) (hb.block _ h.lt.2 h2)
omit [DecidableEq α] in
theorem range_map (KK : KeyK P t kt et d kv) (h : MapAt kv w b L) (kk : ∀ w', RangeAt kv w' w.heap.size b L L → Below w.heap.size w w' → K (.pointer (some ⟨w.heap.size, 0, none⟩)) w' Q) : sm P (Instr.range t (.map (some b))) K w Q := by
  obtain ⟨es, clock, h1, h2, h3⟩ := h
  have hlt := blk_lt h1
  refine ⟨.pointer (some ⟨w.heap.size, 0, none⟩), psh w (.mapIter (some b) clock #[] clock), ?_, kk _ ⟨es, clock, clock, #[], clock, ?_, blk_psh_new, h2, h2.1, Nat.le_refl _, Nat.le_refl _, h3, ?_⟩ (b_psh _ _)⟩
  · simp [Instr.range, run_underlying KK.hm, Go.MapKept.run_getObj_map h1, Result.andThen, newObj, psh, Sem.run]
  · rw [blk_psh_old hlt]; exact h1
  · have : leftOf es #[] = es := by simp [leftOf]
    rw [this]; exact h3
theorem filter_born : ∀ (l : List MapEntry), (l.map (·.born)).Nodup → ∀ (i : Nat) (hi : i < l.length), l.filter (fun x => !(x.born == l[i].born)) = l.eraseIdx i := by
  intro l
  induction l with
  | nil => intro _ i hi; simp at hi
  | cons a l ih =>
    intro hn i hi
    simp only [List.map_cons, List.nodup_cons] at hn
    cases i with
    | zero =>
      simp only [List.getElem_cons_zero, List.eraseIdx_cons_zero, List.filter_cons, beq_self_eq_true, Bool.not_true, Bool.false_eq_true, if_false]
      rw [List.filter_eq_self.2]
      intro x hx
      have : x.born ≠ a.born := fun e => hn.1 (e ▸ List.mem_map.2 ⟨x, hx, rfl⟩)
      simpa using this
    | succ i =>
      have hi' : i < l.length := by simpa using hi
      have : a.born ≠ l[i].born := fun e => hn.1 (e ▸ List.mem_map.2 ⟨_, List.getElem_mem hi', rfl⟩)
      simp only [List.getElem_cons_succ, List.eraseIdx_cons_succ, List.filter_cons]
      rw [if_pos (by simpa using this), ih hn.2 i hi']
end
end Sh
end Go.Proofs.YtongpnolikkknaaGreatDoor

namespace Go.Proofs.YtongpnolikkknaaGreatDoor
namespace Sh
open RowKit Go.MapKept
/-- a map's type, its keys' -/
theorem find_born : ∀ (l : List MapEntry), (l.map (·.born)).Nodup → ∀ e ∈ l, l.find? (fun x => x.born == e.born) = some e := by
  intro l
  induction l with
  | nil => intro _ e h; cases h
  | cons a l ih =>
    intro hn e he
    simp only [List.map_cons, List.nodup_cons] at hn
    rw [List.find?_cons]
    rcases List.mem_cons.1 he with rfl | he
    · simp
    · have : a.born ≠ e.born := fun c => hn.1 (c ▸ List.mem_map.2 ⟨e, he, rfl⟩)
      have h2 : (a.born == e.born) = false := by simpa using this
      rw [h2]
      exact ih hn.2 e he
section
variable {α : Type} [DecidableEq α] {kv : α → Value} {P : Program} {t kt et : TypeId} {d : TypeDesc} {w : World} {b : Nat} {L : List (α × Value)} {K : Value → M} {K0 : M} {Q : Value → World → Prop}
omit [DecidableEq α] in
theorem next_map_e {ty : TypeId} {r : Nat} {rest : List (α × Value)} (hrb : r ≠ b) (h : RangeAt kv w r b L rest) (k0 : rest = [] → K (.tuple #[.bool false]) w Q)
    (k1 : ∀ (i : Nat) (hi : i < rest.length) w', RangeAt kv w' r b L (rest.eraseIdx i) → Chg r w w' → (∀ w2 : World, w2.heap[r]? = w'.heap[r]? → w2.heap[b]? = w'.heap[b]? → (Instr.entry (.pointer (some ⟨r, 0, none⟩))).run P w2 = .ok (.tuple #[kv rest[i].1, rest[i].2]) w2) → K (.tuple #[.bool true, kv rest[i].1, rest[i].2]) w' Q) :
    sm P (Instr.next (.pointer (some ⟨r, 0, none⟩)) false ty) K w Q := by
  obtain ⟨es, clock, since, seen, c0, h1, h2, h3, h4, h5, h6, h7, h8⟩ := h
  rcases run_next_at (P := P) w ty r b since c0 seen es clock h2 h1 h4 h5 with ⟨e1, e2⟩ | ⟨e, he, w1, hw1, hrun⟩
  · refine ⟨_, w, e2, k0 ?_⟩
    have : (leftOf es seen).toList = [] := by simpa using e1
    rw [this] at h8
    simpa using h8.symm
  · obtain ⟨i, hi, hie⟩ := List.mem_iff_getElem.1 he
    have hli : i < rest.length := by have := congrArg List.length h8; simp at this; simp at hi; omega
    have hent : e.key = kv rest[i].1 ∧ e.val = rest[i].2 := by
      have := congrArg (fun l => l[i]?) h8
      simp only [List.getElem?_map, List.getElem?_eq_getElem hi, List.getElem?_eq_getElem hli, Option.map_some, hie] at this
      simpa using this
    refine ⟨_, _, hrun, ?_⟩
    rw [hent.1, hent.2]
    have hw1h : w1.heap = w.heap := by rcases hw1 with rfl | rfl <;> rfl
    refine k1 i hli _ ⟨es, clock, since, seen.push e.born, clock, ?_, ?_, h3, h4, h6, h6, h7, ?_⟩ ?_ ?_
    · show (w1.heap.setIfInBounds r _)[b]? = _
      rw [Array.getElem?_setIfInBounds_ne hrb, hw1h]; exact h1
    · show (w1.heap.setIfInBounds r _)[r]? = _
      rw [hw1h]
      have := blk_lt h2
      simp [this]
    · have : (leftOf es (seen.push e.born)).toList = (leftOf es seen).toList.eraseIdx i := by
        have hnd : ((leftOf es seen).toList.map (·.born)).Nodup := by
          unfold leftOf
          rw [Array.toList_filter]
          exact List.Nodup.sublist (List.Sublist.map _ List.filter_sublist) h3.2.1
        rw [← filter_born _ hnd i hi, hie]
        unfold leftOf
        simp only [Array.toList_filter, List.filter_filter]
        apply List.filter_congr
        intro x _
        rw [Bool.eq_iff_iff]
        simp [Array.mem_push, not_or, and_comm]
      rw [this, map_eraseIdx', h8, ← map_eraseIdx']
    · refine ⟨?_, ?_, ?_, ?_, ?_⟩
      · rcases hw1 with rfl | rfl <;> rfl
      · rcases hw1 with rfl | rfl <;> rfl
      · rcases hw1 with rfl | rfl <;> rfl
      · show _ ≤ (w1.heap.setIfInBounds r _).size
        rw [Array.size_setIfInBounds, hw1h]; exact Nat.le_refl _
      · intro k hk hne
        show (w1.heap.setIfInBounds r _)[k]? = _
        rw [Array.getElem?_setIfInBounds_ne (Ne.symm hne), hw1h]
    · intro w2 q1 q2
      have g1 : w2.heap[r]? = some (.mapIter (some b) since (seen.push e.born) clock) := by
        rw [q1]
        show (w1.heap.setIfInBounds r _)[r]? = _
        rw [hw1h]
        have := blk_lt h2
        simp [this]
      have g2 : w2.heap[b]? = some (.map es clock) := by
        rw [q2]
        show (w1.heap.setIfInBounds r _)[b]? = _
        rw [Array.getElem?_setIfInBounds_ne hrb, hw1h]; exact h1
      have hem : e ∈ es.toList := by
        have : e ∈ (leftOf es seen).toList := he
        unfold leftOf at this
        rw [Array.toList_filter] at this
        exact (List.mem_filter.1 this).1
      have hfind : es.find? (fun x => x.born == e.born) = some e := by
        rw [← Array.find?_toList]
        exact find_born es.toList h3.2.1 e hem
      have o1 : (getObj r).run P w2 = .ok (.mapIter (some b) since (seen.push e.born) clock) w2 := by simp [getObj, Sem.run, g1]
      have o2 : (getObj b).run P w2 = .ok (.map es clock) w2 := Go.MapKept.run_getObj_map g2
      rw [← hent.1, ← hent.2]
      simp [Instr.entry, o1, o2, hfind, Result.andThen]
end
end Sh
end Go.Proofs.YtongpnolikkknaaGreatDoor

namespace Go.Proofs.YtongpnolikkknaaGreatDoor
namespace Sh
open RowKit Go.MapKept
structure KeyG {α : Type} (P : Program) (t kt et : TypeId) (kv : α → Value) (ok : α → Prop) : Prop where
  hm : P.underlying t = some (.map kt et)
  law : WideMaps.KeyLaw P kt
  ko : ∀ a, ok a → ∃ l, keyOf P kt (kv a) = some l
  inj : ∀ a b, kv a = kv b → a = b
section
variable {α : Type} [DecidableEq α] {kv : α → Value} {ok : α → Prop} {P : Program} {t kt et : TypeId} {w : World} {b : Nat} {L : List (α × Value)} {K : Value → M} {K0 : M} {Q : Value → World → Prop}
/-- a map of which one entry is at hand -/
def EntryAt {α : Type} (kv : α → Value) (w : World) (b : Nat) (L : List (α × Value)) (k : α) (st : Nat) : Prop :=
  ∃ es clock, w.heap[b]? = some (.map es clock) ∧ Stamped es clock ∧ es.toList.map (fun e => (e.key, e.val)) = L.map (fun p => (kv p.1, p.2)) ∧ ∃ (i : Nat) (e : MapEntry), es[i]? = some e ∧ e.born = st ∧ e.key = kv k
omit [DecidableEq α] in
theorem EntryAt.stay {w' : World} {k : α} {st : Nat} (h : EntryAt kv w b L k st) (hb : w'.heap[b]? = w.heap[b]?) : EntryAt kv w' b L k st := by
  obtain ⟨es, clock, h1, h2⟩ := h
  exact ⟨es, clock, by rw [hb]; exact h1, h2⟩
omit [DecidableEq α] in
theorem EntryAt.lt {k : α} {st : Nat} (h : EntryAt kv w b L k st) : b < w.heap.size := by obtain ⟨es, clock, h1, _⟩ := h; exact blk_lt h1
omit [DecidableEq α] in
theorem EntryAt.map {k : α} {st : Nat} (h : EntryAt kv w b L k st) : MapAt kv w b L := by
  obtain ⟨es, clock, h1, h2, h3, _⟩ := h
  exact ⟨es, clock, h1, h2, h3⟩
end
end Sh
end Go.Proofs.YtongpnolikkknaaGreatDoor

namespace Go.Proofs.YtongpnolikkknaaGreatDoor
namespace Sh
open RowKit
section
variable {P : Program} {w : World} {Q : Value → World → Prop} {K : Value → M} {t e : TypeId} {name : String} {f : FuncId} {args : Array Value} {v : Value}
end
end Sh
end Go.Proofs.YtongpnolikkknaaGreatDoor

namespace Go.Proofs.YtongpnolikkknaaGreatDoor
namespace Sh
open RowKit
/-- of the old blocks none but those of S has changed -/
structure ChgS (S : Nat → Prop) (w w' : World) : Prop where
  os : w'.os = w.os
  tape : w'.tape = w.tape
  output : w'.output = w.output
  size : w.heap.size ≤ w'.heap.size
  block : ∀ k, k < w.heap.size → ¬ S k → w'.heap[k]? = w.heap[k]?
theorem of_drw' {w w' : World} (h : Below (Sh.drw w).heap.size (Sh.drw w) w') : Below w.heap.size w w' := ⟨h.os, h.tape, h.output, h.size, h.block⟩
section
variable {S T : Nat → Prop} {w w' w2 : World}
theorem ChgS.refl (S : Nat → Prop) (w : World) : ChgS S w w := ⟨rfl, rfl, rfl, Nat.le_refl _, fun _ _ _ => rfl⟩
theorem ChgS.mono (h : ChgS S w w') (hs : ∀ k, S k → T k) : ChgS T w w' := ⟨h.os, h.tape, h.output, h.size, fun k a b => h.block k a (fun c => b (hs k c))⟩
theorem ChgS.mono' (h : ChgS S w w') (hs : ∀ k, k < w.heap.size → S k → T k) : ChgS T w w' := ⟨h.os, h.tape, h.output, h.size, fun k a b => h.block k a (fun c => b (hs k a c))⟩
theorem ChgS.trans (h : ChgS S w w') (k : ChgS T w' w2) (hs : ∀ x, x < w.heap.size → T x → S x) : ChgS S w w2 :=
  ⟨k.os.trans h.os, k.tape.trans h.tape, k.output.trans h.output, Nat.le_trans h.size k.size, fun i hi hp => (k.block i (Nat.lt_of_lt_of_le hi h.size) (fun c => hp (hs i hi c))).trans (h.block i hi hp)⟩
theorem ChgS.of_below (h : Below w.heap.size w w') : ChgS S w w' := ⟨h.os, h.tape, h.output, h.size, fun k hk _ => h.block k hk⟩
theorem ChgS.of_upd {p : Nat} (h : Upd p w w') (hp : S p) : ChgS S w w' := ⟨h.os, h.tape, h.output, by rw [h.size]; exact Nat.le_refl _, fun k _ hk => h.block k (fun e => hk (e ▸ hp))⟩
theorem ChgS.of_chg {p : Nat} (h : Chg p w w') (hp : S p) : ChgS S w w' := ⟨h.os, h.tape, h.output, h.size, fun k hl hk => h.block k hl (fun e => hk (e ▸ hp))⟩
theorem ChgS.below {B : Nat} (h : ChgS S w w') (hB : ∀ k, S k → B ≤ k) (hw : B ≤ w.heap.size) : Below B w w' := ⟨h.os, h.tape, h.output, h.size, fun k hk => h.block k (by omega) (fun c => by have := hB k c; omega)⟩
theorem ChgS.keep {q : Nat} {o : Obj} (h : ChgS S w w') (hq : w.heap[q]? = some o) (hne : ¬ S q) : w'.heap[q]? = some o := by rw [h.block q (blk_lt hq) hne]; exact hq
theorem ChgS.drw (h : ChgS S w w') : ChgS S w (drw w') := ⟨h.os, h.tape, h.output, h.size, h.block⟩
theorem ChgS.of_drw (h : ChgS S (Sh.drw w) w') : ChgS S w w' := ⟨h.os, h.tape, h.output, h.size, h.block⟩
theorem bs {B : Nat} {w0 : World} (b : Below B w0 w) (hB : ∀ k, S k → B ≤ k) (hw : B ≤ w.heap.size) (h : ChgS S w w') : Below B w0 w' := b.trans (h.below hB hw)
theorem ChgS.grown {w' : World} {row : Option Nat} (hg : w.grownBy w' row) (hr : ∀ k, row = some k → S k) : ChgS S w w' := by
  refine ⟨hg.os, hg.tape, hg.output, hg.size, fun k hk hs => hg.block k hk (fun e => hs (hr k e.symm))⟩
end
/-- a row of one-cell values, the call's own -/
def ownV (B : Nat) (e : TypeId) (w : World) (v : Value) (xs : List Value) : Prop := w.ownsRow B e 1 v xs.length xs
section
variable {P : Program} {w : World} {Q : Value → World → Prop} {K : Value → M} {K0 : M} {B : Nat} {e : TypeId} {v : Value} {xs : List Value}
theorem ownV_nil : ownV B e w (.slice none 0 0) [] := World.ownsRow_nil w B e 1
/-- the row's block, if it has one -/
theorem ownV_cases (h : ownV B e w v xs) : (v = .slice none 0 0 ∧ xs = []) ∨ ∃ g cap cur, v = .slice (some ⟨g, 0, none⟩) xs.length cap ∧ B ≤ g ∧ w.heap[g]? = some (.cells cur e (0, 0)) ∧ xs.length ≤ cap ∧ cap ≤ maxLen ∧ cur.size = cap ∧ cur.toList.take xs.length = xs := by
  obtain ⟨h1, h2⟩ := h
  rcases h2 with ⟨rfl, h0⟩ | ⟨g, cap, cur, rfl, hg, hb, hn, hm, hs, ht⟩
  · exact .inl ⟨rfl, List.length_eq_zero_iff.1 h0⟩
  · exact .inr ⟨g, cap, cur, rfl, hg, hb, hn, hm, by simpa using hs, by simpa using ht⟩
theorem ownV_mk {g cap : Nat} {cur : Array Value} (hg : B ≤ g) (hb : w.heap[g]? = some (.cells cur e (0, 0))) (hn : xs.length ≤ cap) (hm : cap ≤ maxLen) (hs : cur.size = cap) (ht : cur.toList.take xs.length = xs) : ownV B e w (.slice (some ⟨g, 0, none⟩) xs.length cap) xs :=
  ⟨by simp, .inr ⟨g, cap, cur, rfl, hg, hb, hn, hm, by simpa using hs, by simpa using ht⟩⟩
theorem ownV_len (h : ownV B e w v xs) : ∃ p c, v = .slice p xs.length c := by
  rcases ownV_cases h with ⟨rfl, rfl⟩ | ⟨g, cap, cur, rfl, _⟩
  · exact ⟨none, 0, rfl⟩
  · exact ⟨_, _, rfl⟩
theorem ownV_blk (h : ownV B e w v xs) (hne : xs ≠ []) : ∃ g cap, v = .slice (some ⟨g, 0, none⟩) xs.length cap ∧ v.ownBlock = some g ∧ B ≤ g ∧ (∃ cur, w.heap[g]? = some (.cells cur e (0, 0))) ∧ ∀ (i : Nat) (hi : i < xs.length), w.cell? ⟨g, i, none⟩ = some xs[i] := by
  rcases ownV_cases h with ⟨rfl, rfl⟩ | ⟨g, cap, cur, rfl, hg, hb, hn, hm, hs, ht⟩
  · exact absurd rfl hne
  · refine ⟨g, cap, rfl, rfl, hg, ⟨cur, hb⟩, fun i hi => ?_⟩
    rw [cell_of_blk hb]
    have : (cur.toList.take xs.length)[i]? = xs[i]? := by rw [ht]
    rw [List.getElem?_take_of_lt hi] at this
    rw [← Array.getElem?_toList, this, List.getElem?_eq_getElem hi]
theorem lnl_V {w1 : World} (h : ownV B e w v xs) (kk : K (.int .i64 xs.length) w1 Q) : lnl v K w1 Q := by
  obtain ⟨p, c, rfl⟩ := ownV_len h
  rw [lnl_e]; exact kk
theorem ia_at {g l c i : Nat} {k : IntKind} (hi : i < l) : ia 1 (.slice (some ⟨g, 0, none⟩) l c) (.int k (i : Int)) K w Q = K (.pointer (some ⟨g, i, none⟩)) w Q := by
  rw [ia_e, Int.toNat_natCast, Nat.mul_one, add_lit, Nat.zero_add]
  apply propext
  constructor
  · rintro ⟨_, _, h⟩; exact h
  · intro h; exact ⟨by omega, by omega, h⟩
theorem ownV_stay {w' : World} (h : ownV B e w v xs) (hb : ∀ g, v.ownBlock = some g → w'.heap[g]? = w.heap[g]?) : ownV B e w' v xs := by
  rcases ownV_cases h with ⟨rfl, rfl⟩ | ⟨g, cap, cur, rfl, hg, hb', hn, hm, hs, ht⟩
  · exact ownV_nil
  · exact ownV_mk hg (by rw [hb g rfl]; exact hb') hn hm hs ht
theorem ownV_lt (h : ownV B e w v xs) : ∀ g, v.ownBlock = some g → B ≤ g ∧ g < w.heap.size ∧ ∃ cur, w.heap[g]? = some (.cells cur e (0, 0)) := by
  intro g hg
  rcases ownV_cases h with ⟨rfl, rfl⟩ | ⟨g', cap, cur, rfl, hg', hb', _⟩
  · cases hg
  · cases hg; exact ⟨hg', blk_lt hb', _, hb'⟩
theorem ownV_below {w' : World} (h : ownV B e w v xs) (hb : Below w.heap.size w w') : ownV B e w' v xs := ownV_stay h (fun g hg => hb.block g (ownV_lt h g hg).2.1)
/-- a place stored: the row behind it -/
theorem ownV_set {w' : World} {i : Nat} {x : Value} {g : Nat} (h : ownV B e w v xs) (hi : i < xs.length) (hg : v.ownBlock = some g) (hw : ∀ cur, w.heap[g]? = some (.cells cur e (0, 0)) → w'.heap[g]? = some (.cells (cur.setIfInBounds i x) e (0, 0))) : ownV B e w' v (xs.set i x) := by
  rcases ownV_cases h with ⟨rfl, rfl⟩ | ⟨g', cap, cur, rfl, hg', hb', hn, hm, hs, ht⟩
  · simp at hi
  · cases hg
    have h1 := hw cur hb'
    have := ownV_mk (xs := xs.set i x) (cap := cap) hg' h1 (by simpa using hn) hm (by simp [hs]) (by
      rw [Array.toList_setIfInBounds, List.length_set, List.take_set, ht])
    simpa using this
theorem ia_stV {j : IntKind} {i : Nat} {x : Value} (h : ownV B e w v xs) (hi : i < xs.length) (hx : x.oneCell' = true)
    (kk : ∀ w' g, v.ownBlock = some g → ownV B e w' v (xs.set i x) → Upd g w w' → K0 w' Q) : ia 1 v (.int j (i : Int)) (fun p => st p x K0) w Q := by
  have h0 := h
  rcases ownV_cases h with ⟨rfl, rfl⟩ | ⟨g, cap, cur, rfl, hg, hb, hn, hm, hs, ht⟩
  · simp at hi
  · rw [ia_at hi]
    refine st_box hb (by omega) hx fun w' hw hu => ?_
    exact kk w' g rfl (ownV_set h0 hi rfl (fun cur' h' => by rw [hb] at h'; cases h'; exact hw)) hu
/-- one more, behind a row of the call's own -/
theorem ap_V {t : TypeId} {z x : Value} {b : Nat} (ht : slT P t e z 1 b) (hz : z.cells.size = 1) (hx : x.oneCell' = true) (hxc : x.cells = #[x]) (h : ownV B e w v xs) (h63 : xs.length + 1 ≤ maxLen) (hbytes : (xs.length + 1) * b ≤ 140737488355328) (hB : B ≤ w.heap.size)
    (kk : ∀ v' w', ownV B e w' v' (xs ++ [x]) → (∀ k, k < w.heap.size → v.ownBlock ≠ some k → w'.heap[k]? = w.heap[k]?) → w.heap.size ≤ w'.heap.size → (w'.os = w.os ∧ w'.tape = w.tape ∧ w'.output = w.output) → (∀ g, v'.ownBlock = some g → v.ownBlock = some g ∨ w.heap.size ≤ g) → K v' w' Q) :
    sm P (Instr.buildSlice t 1 #[(0, x)]) (fun u => sm P (Builtin.append_ #[t, t] t #[v, u]) K) w Q := by
  refine bsl1 ht hz hxc ?_
  have h1 : (psh w (.cells #[x] e)).ownsRow B e 1 v xs.length xs := World.ownsRow.alloc h _
  obtain ⟨i, g1, g2, g3, g4, g5⟩ := slT_info ht
  obtain ⟨v', w', hr, ho, hg, _, hf⟩ := run_append_own_at (P := P) (psh w (.cells #[x] e)) B t t e i z 1 b g1 g2 g3 g4 g5 hz (by decide) v xs.length xs h1 ⟨w.heap.size, 0, none⟩ 1 1 [x] rfl (by
    intro j u hj
    cases j with
    | zero => simp at hj; subst hj; rw [add_lit, cell_psh_new]; rfl
    | succ j => simp at hj) (by intro u hu; simp at hu; subst hu; exact hx) h63 hbytes (by rw [size_psh]; omega)
  refine ⟨v', w', hr, kk v' w' ?_ (fun k hk hne => ?_) ?_ ?_ ?_⟩
  · unfold ownV; rw [List.length_append]; exact ho
  · rw [hg.block k (by rw [size_psh]; omega) (fun e => hne e.symm), blk_psh_old hk]
  · have := hg.size; rw [size_psh] at this; omega
  · exact ⟨hg.os, hg.tape, hg.output⟩
  · intro g hgv
    rcases hf with hf | hf
    · left; rw [← hf]; exact hgv
    · right
      rw [hf, size_psh] at hgv
      cases hgv; omega
/-- one number more, behind a row of the call's own -/
theorem ap_one {t : TypeId} {k : IntKind} {l : List Int} {x : Int} {b : Nat} (ht : slT P t e (.int k 0) 1 b) (ho : ownI B e k w v l) (h63 : l.length + 1 ≤ 140737488355328) (hbytes : (l.length + 1) * b ≤ 140737488355328) (hB : B ≤ w.heap.size)
    (kk : ∀ v' w', ownI B e k w' v' (l ++ [x]) → Below B w w' → (∀ (B' : Nat) (e' : TypeId) (k' : IntKind) (u : Value) (l' : List Int), e' ≠ e → ownI B' e' k' w u l' → ownI B' e' k' w' u l') → (∀ q o, w.heap[q]? = some o → v.ownBlock ≠ some q → w'.heap[q]? = some o) → K v' w' Q) :
    sm P (Instr.buildSlice t 1 #[(0, .int k x)]) (fun u => sm P (Builtin.append_ #[t, t] t #[v, u]) K) w Q := by
  refine bsl1 ht rfl rfl ?_
  have ho1 := ownI_psh ho (.cells #[.int k x] e)
  have hb1 := b_psh w (.cells #[.int k x] e)
  refine ap_rd (b := b) (m := [x]) ht ho1 (.inr ⟨⟨w.heap.size, 0, none⟩, 1, rfl, fun i hi => ?_⟩) (by simpa using hbytes) (by simpa using h63) (by rw [size_psh]; omega) ?_
  · have : i = 0 := by simpa using hi
    subst this
    rw [add_lit, cell_psh_new]; rfl
  · intro v' w' ho' hg
    have hq : ∀ q o, w.heap[q]? = some o → v.ownBlock ≠ some q → w'.heap[q]? = some o := by
      intro q o hqo hne
      rw [hg.block q (by rw [size_psh]; have := blk_lt hqo; omega) (fun e => hne e.symm), blk_psh_old (blk_lt hqo)]
      exact hqo
    refine kk v' w' ho' (Below_grown (bt' (Below.refl _ _) hB hb1) ho1 (by rw [size_psh]; omega) hg) ?_ hq
    intro B' e' k' u l' hne hu
    obtain ⟨h1, h2⟩ := hu
    refine ⟨h1, ?_⟩
    rcases h2 with h2 | ⟨g, cap, cur, rfl, hg', hb', rest⟩
    · exact .inl h2
    · refine .inr ⟨g, cap, cur, rfl, hg', hq g _ hb' ?_, rest⟩
      intro ev
      obtain ⟨_, h3⟩ := ho
      rcases h3 with ⟨rfl, _⟩ | ⟨g2, cap2, cur2, rfl, _, hb2, _⟩
      · cases ev
      · cases ev
        rw [hb'] at hb2
        cases hb2
        exact hne rfl
end
end Sh
end Go.Proofs.YtongpnolikkknaaGreatDoor

namespace Go.Proofs.YtongpnolikkknaaGreatDoor
namespace Sh
open RowKit
/-- an element's cells told by a function of it -/
def eR {α : Type} (enc : α → List Value) : RepT α := fun _ cs x => cs = enc x
theorem eR_st {α : Type} {enc : α → List Value} : Stable (eR enc) := fun _ _ _ _ _ h => h
theorem flat_len {α : Type} {enc : α → List Value} {n : Nat} (hn : ∀ x, (enc x).length = n) : ∀ l : List α, (l.flatMap enc).length = l.length * n
  | [] => by simp
  | x :: l => by rw [List.flatMap_cons, List.length_append, hn, flat_len hn l, List.length_cons, Nat.add_mul]; omega
theorem flat_get {α : Type} {enc : α → List Value} {n : Nat} (hn : ∀ x, (enc x).length = n) : ∀ (l : List α) (i j : Nat) (hi : i < l.length), j < n → (l.flatMap enc)[i * n + j]? = (enc l[i])[j]?
  | x :: l, 0, j, hi, hj => by
    rw [List.flatMap_cons, Nat.zero_mul, Nat.zero_add, List.getElem?_append_left (by rw [hn]; exact hj)]; rfl
  | x :: l, i + 1, j, hi, hj => by
    rw [List.flatMap_cons, List.getElem?_append_right (by rw [hn, Nat.add_mul]; omega), hn]
    have e : (i + 1) * n + j - n = i * n + j := by rw [Nat.add_mul]; omega
    rw [e, flat_get hn l i j (by simpa using hi) hj]
    rfl
/-- the elements, the call's own -/
def ownE {α : Type} (B : Nat) (e : TypeId) (n : Nat) (enc : α → List Value) (w : World) (v : Value) (l : List α) : Prop := w.ownsRow B e n v l.length (l.flatMap enc)
section
variable {α : Type} {enc : α → List Value} {n : Nat} {P : Program} {w : World} {Q : Value → World → Prop} {K : Value → M} {B : Nat} {e : TypeId} {v : Value} {l : List α}
theorem ownE_nil : ownE B e n enc w (.slice none 0 0) [] := World.ownsRow_nil w B e n
theorem ownE_below {w' : World} (h : ownE B e n enc w v l) (hb : Below w.heap.size w w') : ownE B e n enc w' v l := by
  obtain ⟨h1, h2⟩ := h
  refine ⟨h1, ?_⟩
  rcases h2 with h2 | ⟨g, cap, cur, h3, hg, hb', rest⟩
  · exact .inl h2
  · exact .inr ⟨g, cap, cur, h3, hg, stay hb hb', rest⟩
theorem ownE_weak {B' : Nat} (h : ownE B e n enc w v l) (hB : B' ≤ B) : ownE B' e n enc w v l := by
  obtain ⟨h1, h2⟩ := h
  refine ⟨h1, ?_⟩
  rcases h2 with h2 | ⟨g, cap, cur, h3, hg, rest⟩
  · exact .inl h2
  · exact .inr ⟨g, cap, cur, h3, Nat.le_trans hB hg, rest⟩
theorem ownE_blk (h : ownE B e n enc w v l) : ∀ g, v.ownBlock = some g → B ≤ g ∧ g < w.heap.size ∧ ∃ cur, w.heap[g]? = some (.cells cur e (0, 0)) := by
  intro g hg
  obtain ⟨h1, h2⟩ := h
  rcases h2 with ⟨rfl, _⟩ | ⟨g', cap, cur, rfl, hg', hb', _⟩
  · cases hg
  · cases hg; exact ⟨hg', blk_lt hb', _, hb'⟩
theorem ownE_stay {w' : World} (h : ownE B e n enc w v l) (hb : ∀ g, v.ownBlock = some g → w'.heap[g]? = w.heap[g]?) : ownE B e n enc w' v l := by
  obtain ⟨h1, h2⟩ := h
  refine ⟨h1, ?_⟩
  rcases h2 with h2 | ⟨g, cap, cur, rfl, hg, hb', rest⟩
  · exact .inl h2
  · exact .inr ⟨g, cap, cur, rfl, hg, by rw [hb g rfl]; exact hb', rest⟩
theorem ownE_rd (hn : ∀ x, (enc x).length = n) (hn0 : 0 < n) (h : ownE B e n enc w v l) : rdS n (eR enc) w v l := by
  obtain ⟨h1, h2⟩ := h
  rcases h2 with ⟨rfl, h0⟩ | ⟨g, cap, cur, rfl, hg, hb, hnc, hm, hs, ht⟩
  · exact .inl ⟨rfl, List.length_eq_zero_iff.1 h0⟩
  · refine .inr ⟨⟨g, 0, none⟩, cap, rfl, hnc, fun i hi => ⟨enc l[i], hn _, fun j u hj => ?_, rfl⟩⟩
    have hjn : j < n := by
      rcases Nat.lt_or_ge j n with c | c
      · exact c
      · rw [List.getElem?_eq_none (by rw [hn]; exact c)] at hj; cases hj
    rw [add_lit, add_lit, Nat.zero_add, cell_of_blk hb]
    have h3 : (cur.toList.take (l.length * n))[i * n + j]? = (l.flatMap enc)[i * n + j]? := by rw [ht]
    have hlt : i * n + j < l.length * n := by
      have : (i + 1) * n ≤ l.length * n := Nat.mul_le_mul_right _ hi
      rw [Nat.add_mul] at this; omega
    rw [List.getElem?_take_of_lt hlt, flat_get hn l i j hi hjn, hj] at h3
    simpa using h3
/-- a row of several-cell elements, as cells in a line -/
theorem rdS_flat (hn : ∀ x, (enc x).length = n) (h : rdS n (eR enc) w v l) : (v = .slice none 0 0 ∧ l = []) ∨ ∃ a c, v = .slice (some a) l.length c ∧ ∀ j u, (l.flatMap enc)[j]? = some u → w.cell? (a.add j) = some u := by
  rcases h with h | ⟨a, c, rfl, hcc, h⟩
  · exact .inl h
  · refine .inr ⟨a, c, rfl, fun j u hj => ?_⟩
    have hjl : j < (l.flatMap enc).length := by
      rcases Nat.lt_or_ge j (l.flatMap enc).length with c | c
      · exact c
      · rw [List.getElem?_eq_none c] at hj; cases hj
    rw [flat_len hn] at hjl
    have hn0 : 0 < n := by
      rcases Nat.eq_zero_or_pos n with c | c
      · rw [c, Nat.mul_zero] at hjl; omega
      · exact c
    have hi : j / n < l.length := Nat.div_lt_of_lt_mul (by rw [Nat.mul_comm]; exact hjl)
    have hr : j % n < n := Nat.mod_lt _ hn0
    have e : j = j / n * n + j % n := by rw [Nat.mul_comm]; exact (Nat.div_add_mod j n).symm
    obtain ⟨es, h1, h2, h3⟩ := h (j / n) hi
    have h3 : es = enc l[j / n] := h3
    rw [e, flat_get hn l _ _ hi hr, ← h3] at hj
    have h4 := h2 _ _ hj
    have e2 : (a.add (j / n * n)).add (j % n) = a.add j := by
      conv => rhs; rw [e]
      unfold Addr.add
      by_cases z1 : j / n * n = 0
      · simp [z1]
      · by_cases z2 : j % n = 0
        · simp [z1, z2]
        · have : ¬ (j / n * n + j % n = 0) := by omega
          simp [z1, z2, this, Nat.add_assoc]
    rw [← e2]; exact h4
/-- elements behind a row of the call's own -/
theorem ap_E {t ty : TypeId} {z u : Value} {b : Nat} {m : List α} (ht : slT P t e z n b) (hz : z.cells.size = n) (hn0 : 0 < n) (hn : ∀ x, (enc x).length = n) (h1 : ∀ x, ∀ c ∈ enc x, c.oneCell' = true) (ho : ownE B e n enc w v l) (hr : rdS n (eR enc) w u m)
    (h63 : l.length + m.length ≤ maxLen) (hbytes : (l.length + m.length) * b ≤ 140737488355328) (hB : B ≤ w.heap.size)
    (kk : ∀ v' w', ownE B e n enc w' v' (l ++ m) → w.grownBy w' v.ownBlock → (v'.ownBlock = v.ownBlock ∨ v'.ownBlock = some w.heap.size) → K v' w' Q) : sm P (Builtin.append_ #[t, t] ty #[v, u]) K w Q := by
  obtain ⟨i, g1, g2, g3, g4, g5⟩ := slT_info ht
  rcases rdS_flat hn hr with ⟨rfl, rfl⟩ | ⟨a, c, rfl, hrf⟩
  · refine ⟨v, w, run_append_owned_none w B t ty e i n g1 g2 v l.length (l.flatMap enc) ho, kk v w (by rw [List.append_nil]; exact ho) (World.grownBy.refl w _) (.inl rfl)⟩
  · obtain ⟨v', w', hrun, ho', hg, _, hf⟩ := run_append_own_at (P := P) w B t ty e i z n b g1 g2 g3 g4 g5 hz hn0 v l.length (l.flatMap enc) ho a m.length c (m.flatMap enc) (flat_len hn m) hrf (by
        intro x hx
        obtain ⟨y, _, hy⟩ := List.mem_flatMap.1 hx
        exact h1 y x hy) h63 hbytes hB
    refine ⟨v', w', hrun, kk v' w' ?_ hg hf⟩
    unfold ownE
    rw [List.length_append, List.flatMap_append]
    exact ho'
theorem fold_set : ∀ (cs : List Value) (k : Nat) (base : Array Value), k + cs.length ≤ base.size → ((cs.zipIdx k).foldl (fun a p => a.setIfInBounds (0 + p.2) p.1) base).toList = base.toList.take k ++ cs ++ base.toList.drop (k + cs.length) := by
  intro cs
  induction cs with
  | nil => intro k base h; simp
  | cons c cs ih =>
    intro k base h
    simp only [List.length_cons] at h
    rw [List.zipIdx_cons, List.foldl_cons, ih (k + 1) _ (by simp; omega)]
    simp only [Nat.zero_add, Array.toList_setIfInBounds, List.length_cons]
    have hlt : k < base.toList.length := by simp; omega
    have q1 : (base.toList.set k c).take (k + 1) = base.toList.take k ++ [c] := by
      rw [List.take_succ_eq_append_getElem (by simpa using hlt)]
      simp [List.take_set]
      rw [List.set_eq_of_length_le (by simp; omega)]
    have q2 : (base.toList.set k c).drop (k + 1 + cs.length) = base.toList.drop (k + (cs.length + 1)) := by
      rw [List.drop_set_of_lt (by omega)]; congr 1; omega
    rw [q1, q2]; simp
/-- []T{x}: an element of several cells -/
theorem bslE {t : TypeId} {z : Value} {b : Nat} {x : α} (ht : slT P t e z n b) (hz : z.cells.size = n) (hn0 : 0 < n) (hn24 : n ≤ 16777216) (hn : (enc x).length = n)
    (k : ∀ w', w'.heap[w.heap.size]? = some (.cells (enc x).toArray e (0, 0)) → Below w.heap.size w w' → K (.slice (some ⟨w.heap.size, 0, none⟩) 1 1) w' Q) : sm P (Instr.buildSlice t 1 #[(0, .agg (enc x).toArray)]) K w Q := by
  obtain ⟨i, h1, h2, h3, h4, h5⟩ := slT_info ht
  refine ⟨.slice (some ⟨w.heap.size, 0, none⟩) 1 1, psh w (.cells (enc x).toArray e), ?_, k _ blk_psh_new (b_psh _ _)⟩
  have hsz : (enc x).toArray.size = n := by simpa using hn
  have hne : ¬ n = 0 := by omega
  have hle : ¬ 2 ^ 24 < n := by omega
  have hfill : ∀ base : Array Value, base.size = n → Instr.fill (fun i => some (i * n, n)) base [(0, .agg (enc x).toArray)] = some (enc x).toArray := by
    intro base hb
    simp only [Instr.fill, Value.cells, Nat.zero_mul, hsz, ne_eq, not_true_eq_false, Nat.zero_add, hb, Nat.lt_irrefl, gt_iff_lt, or_self, decide_false, Bool.or_self, Bool.false_eq_true, if_false]
    congr 1
    apply Array.toList_inj.1
    have hf := fold_set (enc x) 0 base (by omega)
    rw [← Array.foldl_toList, Array.toList_zipIdx]
    simp only [Nat.zero_add] at hf ⊢
    refine hf.trans ?_
    rw [List.take_zero, List.drop_of_length_le (by simp; omega)]
    simp
  simp only [Instr.buildSlice, underlying, Sem.run_bind, run_program, Result.andThen_ok, h1, Sem.run_pure, sizeOf, typeInfo, h2, h4, Nat.one_mul, gt_iff_lt, hle, if_false, hne, zeroValue, h3]
  rw [hfill _ (by simp)]
  simp [newRow, newObj, psh, Sem.run]
theorem rd_lit {x : α} {g : Nat} (hn : (enc x).length = n) (h : w.heap[g]? = some (.cells (enc x).toArray e (0, 0))) : rdS n (eR enc) w (.slice (some ⟨g, 0, none⟩) 1 1) [x] := by
  refine .inr ⟨⟨g, 0, none⟩, 1, rfl, Nat.le_refl _, fun i hi => ?_⟩
  have : i = 0 := by simpa using hi
  subst this
  refine ⟨enc x, hn, fun j u hj => ?_, rfl⟩
  rw [Nat.zero_mul, add_zero', add_lit, Nat.zero_add, cell_of_blk h]
  simpa using hj
end
end Sh
end Go.Proofs.YtongpnolikkknaaGreatDoor

namespace Go.Proofs.YtongpnolikkknaaGreatDoor
open Sh RowKit
namespace Sh
/-- cells laid over a list's, from a place on -/
def ovl (l : List Value) (o : Nat) (cs : List Value) : List Value := l.take o ++ cs ++ l.drop (o + cs.length)
theorem ovl_len {l cs : List Value} {o : Nat} (h : o + cs.length ≤ l.length) : (ovl l o cs).length = l.length := by
  unfold ovl; simp; omega
theorem ovl_all {l cs : List Value} (h : cs.length = l.length) : ovl l 0 cs = cs := by
  unfold ovl; simp [h]
section
variable {α : Type} {enc : α → List Value} {n : Nat}
theorem flat_ovl (hn : ∀ x, (enc x).length = n) : ∀ (l : List α) (i o : Nat) (cs : List Value) (y : α) (hi : i < l.length), o + cs.length ≤ n → enc y = ovl (enc l[i]) o cs → ovl (l.flatMap enc) (i * n + o) cs = (l.set i y).flatMap enc
  | [], i, o, cs, y, hi, _, _ => by simp at hi
  | x :: l, 0, o, cs, y, hi, ho, he => by
    simp only [List.flatMap_cons, List.set_cons_zero, Nat.zero_mul, Nat.zero_add, List.getElem_cons_zero] at *
    rw [he]
    unfold ovl
    have hx := hn x
    rw [List.take_append_of_le_length (by omega), List.drop_append_of_le_length (by omega)]
    simp
  | x :: l, i + 1, o, cs, y, hi, ho, he => by
    have ih := flat_ovl hn l i o cs y (by simpa using hi) ho (by simpa using he)
    rw [List.flatMap_cons, List.set_cons_succ, List.flatMap_cons, ← ih]
    unfold ovl
    have hx := hn x
    have e1 : (i + 1) * n + o = (enc x).length + (i * n + o) := by rw [hx, Nat.add_mul]; omega
    rw [e1, List.take_length_add_append, Nat.add_assoc (enc x).length, List.drop_length_add_append]
    simp [List.append_assoc]
variable {P : Program} {w : World} {Q : Value → World → Prop} {K : Value → M} {K0 : M} {B : Nat} {e : TypeId} {v : Value} {l : List α}
/-- a row that is not empty, opened -/
theorem ownE_open (h : ownE B e n enc w v l) (hl : 0 < l.length) : ∃ g cap cur, v = .slice (some ⟨g, 0, none⟩) l.length cap ∧ v.ownBlock = some g ∧ B ≤ g ∧ w.heap[g]? = some (.cells cur e (0, 0)) ∧ l.length ≤ cap ∧ cap ≤ maxLen ∧ cur.size = cap * n ∧ cur.toList.take (l.length * n) = l.flatMap enc := by
  obtain ⟨h1, h2⟩ := h
  rcases h2 with ⟨rfl, h0⟩ | ⟨g, cap, cur, rfl, hg, hb, hn, hm, hs, ht⟩
  · omega
  · exact ⟨g, cap, cur, rfl, rfl, hg, hb, hn, hm, hs, ht⟩
theorem ovl_take {l cs : List Value} {o m : Nat} (h : o + cs.length ≤ m) (hm : m ≤ l.length) : (ovl l o cs).take m = ovl (l.take m) o cs := by
  unfold ovl
  have e1 : (l.take o ++ cs).length = o + cs.length := by simp; omega
  rw [List.take_append, List.take_of_length_le (by omega), e1, List.take_take, List.drop_take, Nat.min_eq_left (by omega)]
theorem ownE_put {w' : World} {i o : Nat} {cs : List Value} {y : α} (hn : ∀ x, (enc x).length = n) (h : ownE B e n enc w v l) (hi : i < l.length) (ho : o + cs.length ≤ n) (he : enc y = ovl (enc l[i]) o cs)
    (hw : ∀ g cur, v.ownBlock = some g → w.heap[g]? = some (.cells cur e (0, 0)) → ∃ cur', w'.heap[g]? = some (.cells cur' e (0, 0)) ∧ cur'.toList = ovl cur.toList (i * n + o) cs) : ownE B e n enc w' v (l.set i y) := by
  obtain ⟨g, cap, cur, rfl, hob, hg, hb, hc, hm, hs, ht⟩ := ownE_open h (by omega)
  obtain ⟨cur', h1, h2⟩ := hw g cur rfl hb
  have hin : i * n + n ≤ l.length * n := by
    have := Nat.mul_le_mul_right n (show i + 1 ≤ l.length by omega)
    rw [Nat.add_mul, Nat.one_mul] at this; exact this
  have hcap : l.length * n ≤ cap * n := Nat.mul_le_mul_right n hc
  have hsl : cur.toList.length = cap * n := by simpa using hs
  refine ⟨by rw [flat_len hn], .inr ⟨g, cap, cur', by rw [List.length_set], hg, h1, by rw [List.length_set]; exact hc, hm, ?_, ?_⟩⟩
  · have := congrArg List.length h2
    rw [ovl_len (by omega)] at this
    simpa [hs] using this
  · rw [List.length_set, h2, ovl_take (by omega) (by omega), ht, flat_ovl hn l i o cs y hi ho he]
theorem ia_E {g cap L i n : Nat} {j : IntKind} (hi : i < L) : ia n (.slice (some ⟨g, 0, none⟩) L cap) (.int j (i : Int)) K w Q = K (.pointer (some ⟨g, i * n, none⟩)) w Q := by
  rw [ia_e, Int.toNat_natCast, add_lit, Nat.zero_add]
  apply propext
  constructor
  · rintro ⟨_, _, h⟩; exact h
  · intro h; exact ⟨by omega, by omega, h⟩
/-- some cells of a block stored -/
theorem stn_at {b o m : Nat} {c cs : Array Value} {t : TypeId} (h : w.heap[b]? = some (.cells c t (0, 0))) (hm : cs.size = m) (hc : o + m ≤ c.size) (h1 : ∀ v ∈ cs.toList, v.oneCell' = true)
    (k : ∀ w' c', w'.heap[b]? = some (.cells c' t (0, 0)) → c'.toList = ovl c.toList o cs.toList → Upd b w w' → K0 w' Q) : stn m (.pointer (some ⟨b, o, none⟩)) (.agg cs) K0 w Q := by
  obtain ⟨w', c', e1, e2, e3, e4⟩ := sts_blk (o := o) cs.toList 0 w c h (by simpa [hm] using hc) h1
  exact ⟨_, cs, w', rfl, rfl, hm, e1, k w' c' e2 (by rw [e3]; rfl) e4⟩
theorem ia_stnE {j : IntKind} {i : Nat} {y : α} (hn : ∀ x, (enc x).length = n) (h1 : ∀ x, ∀ c ∈ enc x, c.oneCell' = true) (h : ownE B e n enc w v l) (hi : i < l.length)
    (kk : ∀ w' g, v.ownBlock = some g → ownE B e n enc w' v (l.set i y) → Upd g w w' → K0 w' Q) : ia n v (.int j (i : Int)) (fun p => stn n p (.agg (enc y).toArray) K0) w Q := by
  obtain ⟨g, cap, cur, rfl, hob, hg, hb, hc, hm, hs, ht⟩ := ownE_open h (by omega)
  rw [ia_E hi]
  have hcs : i * n + n ≤ cur.size := by
    rw [hs]
    have := Nat.mul_le_mul_right n (show i + 1 ≤ cap by omega)
    rw [Nat.add_mul, Nat.one_mul] at this; exact this
  refine stn_at hb (by simpa using hn y) hcs (by simpa using h1 y) fun w' c' q1 q2 q3 => kk w' g rfl ?_ q3
  refine ownE_put (o := 0) (cs := enc y) hn h hi (by rw [hn]; omega) (by rw [ovl_all (by rw [hn, hn])]) (fun g' cur' e1 e2 => ?_)
  cases e1
  rw [hb] at e2; cases e2
  exact ⟨c', q1, by simpa using q2⟩
/-- a new row of noughts -/
theorem made_eq {m : Nat} {c : Value} (hm : 0 < m) : ∀ k, (madeCells (Array.replicate m c) k).toList = List.replicate k c := by
  intro k
  apply List.ext_getElem
  · simp [madeCells]
  · intro i h1 h2
    have : i % m < m := Nat.mod_lt _ hm
    simp [madeCells, this]
theorem mkE {t : TypeId} {z c : Value} {j j' : IntKind} {b k : Nat} {x : α} (ht : slT P t e z n b) (hz : z.cells = Array.replicate n c) (hn0 : 0 < n) (hx : enc x = List.replicate n c) (hb : b * k ≤ 281474976710656) (hk : k ≤ 281474976710656) (hB : B ≤ w.heap.size)
    (kk : ∀ w' v', v' = .slice (some ⟨w.heap.size, 0, none⟩) k k → ownE B e n enc w' v' (List.replicate k x) → Below w.heap.size w w' → K v' w' Q) : sm P (Instr.makeSlice t (.int j (k : Int)) (.int j' (k : Int))) K w Q := by
  obtain ⟨i, g1, g2, g3, g4, g5⟩ := slT_info ht
  obtain ⟨w', hr, ho, hg⟩ := run_make_full (P := P) w B t e i z n g1 g2 g3 g4 j j' k (by rw [g5]; exact hb) (by unfold maxLen; omega) hB
  refine ⟨_, w', hr, kk w' _ rfl ?_ ((Below.refl _ _).grown hg (Nat.le_refl _) (fun k hk => by cases hk))⟩
  unfold ownE
  rw [List.length_replicate]
  have : (List.replicate k x).flatMap enc = (madeCells z.cells (k * n)).toList := by
    rw [hz, made_eq hn0, List.flatMap_replicate, hx, List.flatten_replicate_replicate]
  rw [this]
  exact ho
theorem run_copy_str {dT sT ty elem : TypeId} {g o dLen dCap : Nat} {s : ByteArray} {cur : Array Value} {t : TypeId} (hu : P.underlying dT = some (.slice elem)) (hs : (P.info? elem).map (·.size) = some 1)
    (hg : w.heap[g]? = some (.cells cur t (0, 0))) (hle : s.size ≤ dLen) (hfit : o + s.size ≤ cur.size) :
    (Builtin.copy_ #[dT, sT] ty #[.slice (some ⟨g, o, none⟩) dLen dCap, .string s]).run P w = .ok (.int .i64 s.size) (w.setRow g (ovl cur.toList o ((byL s).map (.int .u8))).toArray) := by
  have hc : (Builtin.firstCells 1 s.size (.string s)).run P w = .ok ((byL s).map (Value.int .u8)).toArray w := by
    have : s.extract 0 s.size = s := ByteArray.extract_zero_size
    simp only [Builtin.firstCells, this, Sem.run_pure, byL]
    congr 1
    apply Array.ext'
    simp [Function.comp_def]
  have hl : ((byL s).map (Value.int .u8)).length = s.size := by rw [List.length_map, byL_len]
  have hst := run_storeCells_at P g o t ((byL s).map (Value.int .u8)) 0 cur w hg (by rw [hl]; simpa using hfit) (by intro v hv; obtain ⟨a, _, rfl⟩ := List.mem_map.1 hv; rfl)
  have hmin : Nat.min s.size dLen = s.size := Nat.min_eq_left hle
  cases hq : P.info? elem with
  | none => simp [hq] at hs
  | some i =>
    have hi : i.size = 1 := by simpa [hq] using hs
    simp only [Nat.add_zero] at hst
    simp [Builtin.copy_, run_underlying hu, Builtin.lenOf, sizeOf, typeInfo, hq, hi, hmin, hc, hst, goInt, ovl, Result.andThen]
theorem Upd_setRow {g : Nat} {c cs : Array Value} {t : TypeId} {fr : Nat × Nat} (h : w.heap[g]? = some (.cells c t fr)) : Upd g w (w.setRow g cs) ∧ (w.setRow g cs).heap[g]? = some (.cells cs t fr) :=
  ⟨⟨rfl, rfl, rfl, by simp [World.setRow], fun k hk => setRow_other w g k cs hk⟩, setRow_heap w g c cs t fr h⟩
end
end Sh
end Go.Proofs.YtongpnolikkknaaGreatDoor

namespace Go.Proofs.YtongpnolikkknaaGreatDoor
namespace Sh
open RowKit
section
variable {P : Program} {w : World} {e t : TypeId} {k : IntKind} {n : Nat} {xa0 xb0 : List Int}
/-- an element's place and value, in whatever world -/
theorem rdI_at {v : Value} {l : List Int} (h : rdI k w v l) {i : Nat} (hi : i < l.length) : ∃ a : Addr, w.cell? a = some (.int k l[i]) ∧ ∀ (j : IntKind) (K : Value → M) (w' : World) (Q : Value → World → Prop), ia 1 v (.int j (i : Int)) K w' Q = K (.pointer (some a)) w' Q := by
  obtain ⟨p, c, rfl, h⟩ := h
  obtain ⟨a, rfl, hc⟩ := h i hi
  refine ⟨a.add i, hc, fun j K w' Q => ?_⟩
  rw [ia_e, Int.toNat_natCast, Nat.mul_one]
  apply propext
  constructor
  · rintro ⟨_, _, h⟩; exact h
  · intro h; exact ⟨by omega, by omega, h⟩
end
end Sh
end Go.Proofs.YtongpnolikkknaaGreatDoor

namespace Go.Proofs.YtongpnolikkknaaGreatDoor
namespace Srt
/-- an order that is total; ties stay -/
structure Ord {β : Type} (le : β → β → Bool) : Prop where
  total : ∀ a b, le a b = true ∨ le b a = true
  trans : ∀ a b c, le a b = true → le b c = true → le a c = true
section
variable {β : Type} {le : β → β → Bool}
/-- one is ahead of the other -/
def slt (le : β → β → Bool) (x y : β × Nat) : Prop := le x.1 y.1 = true ∧ (le y.1 x.1 = false ∨ x.2 < y.2)
/-- sorted -/
abbrev Sd (le : β → β → Bool) (l : List (β × Nat)) : Prop := l.Pairwise (slt le)
/-- places of one below those of the other -/
abbrev Pl (l m : List (β × Nat)) : Prop := ∀ x ∈ l, ∀ y ∈ m, x.2 < y.2
/-- runs of so many, the last one shorter -/
inductive Rn (le : β → β → Bool) (bs : Nat) : List (β × Nat) → Prop
  | last {S : List (β × Nat)} : Sd le S → S.length < bs → Rn le bs S
  | cons {B L : List (β × Nat)} : Sd le B → B.length = bs → Pl B L → Rn le bs L → Rn le bs (B ++ L)
/-- runs that whatever runs may follow -/
def Pre (le : β → β → Bool) (bs : Nat) (D : List (β × Nat)) : Prop := ∀ T, Rn le bs T → Pl D T → Rn le bs (D ++ T)
end
section
variable {β γ : Type} {le : β → β → Bool} {le' : γ → γ → Bool} {f : γ → β}
end
end Srt
end Go.Proofs.YtongpnolikkknaaGreatDoor

namespace Go.Proofs.YtongpnolikkknaaGreatDoor
namespace Sh
open RowKit Srt
/-- a block g of elements, n cells each -/
structure BkAt {β : Type} (e : TypeId) (enc : β → List Value) (Mm : β → Prop) (rest : List Value) (g : Nat) (w : World) (L : List (β × Nat)) : Prop where
  blk : w.heap[g]? = some (.cells ((L.flatMap fun x => enc x.1) ++ rest).toArray e (0, 0))
  mem : ∀ x ∈ L, Mm x.1
section
variable {β : Type} {e : TypeId} {enc : β → List Value} {Mm : β → Prop} {rest : List Value} {g n c N : Nat} {w : World} {L : List (β × Nat)} {Q : Value → World → Prop} {K : Value → M} {K0 : M} {k : IntKind} {i : Nat}
theorem BkAt.below {w' : World} (h : BkAt e enc Mm rest g w L) (hb : Below w.heap.size w w') : BkAt e enc Mm rest g w' L := ⟨stay hb h.blk, h.mem⟩
theorem BkAt.drw (h : BkAt e enc Mm rest g w L) : BkAt e enc Mm rest g (drw w) L := ⟨h.blk, h.mem⟩
theorem BkAt.cells (h : BkAt e enc Mm rest g w L) (hn : ∀ x, (enc x).length = n) (hi : i < L.length) : cellsAt w ⟨g, i * n, none⟩ (enc L[i].1) := by
  intro j u hj
  have hjn : j < n := by
    rcases Nat.lt_or_ge j n with c | c
    · exact c
    · rw [List.getElem?_eq_none (by rw [hn]; exact c)] at hj; cases hj
  rw [add_lit, cell_of_blk h.blk]
  have hlt : i * n + j < (L.flatMap fun x => enc x.1).length := by
    rw [flat_len (enc := fun x : β × Nat => enc x.1) (fun x => hn x.1)]
    have : (i + 1) * n ≤ L.length * n := Nat.mul_le_mul_right _ hi
    rw [Nat.add_mul] at this; omega
  rw [List.getElem?_toArray, List.getElem?_append_left hlt, flat_get (enc := fun x : β × Nat => enc x.1) (fun x => hn x.1) L i j hi hjn, hj]
theorem ia_bk {N : Nat} (hi : i < N) : ia n (.slice (some ⟨g, 0, none⟩) N c) (.int k (i : Int)) K w Q = K (.pointer (some ⟨g, i * n, none⟩)) w Q := by
  rw [ia_e, Int.toNat_natCast, add_lit, Nat.zero_add]
  apply propext
  exact ⟨fun h => h.2.2, fun h => ⟨by omega, by omega, h⟩⟩
/-- one read -/
theorem get_of {x : β × Nat} (hx : L[i]? = some x) : ∃ h : i < L.length, L[i] = x := by
  rcases Nat.lt_or_ge i L.length with c | c
  · rw [List.getElem?_eq_getElem c] at hx; exact ⟨c, Option.some.inj hx⟩
  · rw [List.getElem?_eq_none c] at hx; cases hx
theorem rdN {x : β × Nat} (h : BkAt e enc Mm rest g w L) (hN : L.length = N) (hn : ∀ x, (enc x).length = n) (h1 : ∀ x, ∀ v ∈ enc x, v.oneCell' = true) (hx : L[i]? = some x) (kk : K (.agg (enc x.1).toArray) w Q) : ia n (.slice (some ⟨g, 0, none⟩) N c) (.int k (i : Int)) (fun p => ldn n p K) w Q := by
  obtain ⟨hi, rfl⟩ := get_of hx
  rw [ia_bk (by omega)]
  exact ldn_at (h.cells hn hi) (hn _) kk
end
end Sh
end Go.Proofs.YtongpnolikkknaaGreatDoor

namespace Go.Proofs.YtongpnolikkknaaGreatDoor
open Sh RowKit Go.MapKept
def kI : Int → Value := fun i => .int .i64 i
end Go.Proofs.YtongpnolikkknaaGreatDoor

set_option maxRecDepth 20000
namespace Go.Proofs.YtongpnolikkknaaGreatDoor
open Sh RowKit Go.MapKept
abbrev pv (b : Nat) : Value := .pointer (some ⟨b, 0, none⟩)
abbrev Sct := { x : ByteArray // x.size = 64 }
def encS (x : Sct) : List Value := (byL x.1).map (.int .u8)
theorem encS_len (x : Sct) : (encS x).length = 64 := by unfold encS; rw [List.length_map, byL_len, x.2]
theorem encS_one (x : Sct) : ∀ c ∈ encS x, c.oneCell' = true := by intro c hc; obtain ⟨a, _, rfl⟩ := List.mem_map.1 hc; rfl
def padL (s : ByteArray) : List Int := (byL s).take 64 ++ List.replicate (64 - s.size) 0
theorem padL_len (s : ByteArray) : (padL s).length = 64 := by unfold padL; rw [List.length_append, List.length_take, List.length_replicate, byL_len]; omega
theorem padL_nn (s : ByteArray) : ∀ x ∈ padL s, 0 ≤ x ∧ x ≤ 255 := by
  intro x hx
  unfold padL at hx
  rcases List.mem_append.1 hx with h | h
  · exact byL_nn (List.mem_of_mem_take h)
  · rw [List.eq_of_mem_replicate h]; omega
def pad (s : ByteArray) : Sct := ⟨strOfNums (padL s), by rw [son_size, padL_len]⟩
theorem byL_pad (s : ByteArray) : byL (pad s).1 = padL s := byL_son (padL_nn s)
theorem encS_pad (s : ByteArray) : encS (pad s) = (padL s).map (.int .u8) := by unfold encS; rw [byL_pad]
/-- some of the one, the rest of the other -/
def torn (x s : Sct) (c : Nat) : Sct := ⟨strOfNums ((byL x.1).take c ++ (byL s.1).drop c), by
  rw [son_size, List.length_append, List.length_take, List.length_drop, byL_len, byL_len, x.2, s.2]; omega⟩
structure Sec where
  s : Sct
  u : Option Sct
def Sec.now (x : Sec) : Sct := x.u.getD x.s
structure Dv where
  A : List Sec
  c : Int
  h : Int
/-- sector i, if there is one -/
def Dv.at (D : Dv) (i : Int) : Option Sec := if 0 ≤ i then D.A[i.toNat]? else none
def Dv.tick (D : Dv) : Dv := { D with c := D.c + 1 }
def Dv.rd (D : Dv) (i : Int) : ByteArray := ((D.at i).map (·.now.1)).getD ⟨#[]⟩
def Dv.set (D : Dv) (i : Nat) (x : Sec) : Dv := { D with A := D.A.set i x }
def Dv.wr (D : Dv) (i : Int) (s : ByteArray) : Int × Dv :=
  if D.h < D.c + 1 then (9, D.tick) else match D.at i with
  | none => (7, D.tick)
  | some x => if 64 < s.size then (3, D.tick) else (0, D.tick.set i.toNat ⟨x.s, some (pad s)⟩)
def Dv.sync (D : Dv) : Int × Dv := if D.h < D.c + 1 then (9, D.tick) else (0, { D.tick with A := D.A.map fun x => ⟨x.now, none⟩ })
/-- the sectors that aren't sure -/
def uns (A : List Sec) : List Nat := (List.range A.length).filter fun i => ((A[i]?).bind (·.u)).isSome
/-- what is behind a crash, of the k-th that isn't sure -/
def nw (keep : List Bool) (tn cut : Int) (x : Sec) (k : Nat) : Sct :=
  if (k : Int) = tn then torn x.now x.s (min (max cut 0) 64).toNat else if keep[k % keep.length]? = some true then x.now else x.s
/-- the k-th that isn't sure, sector i (f: what is kept of what isn't sure) -/
def crash1 (f : Option Sct → Option Sct) (keep : List Bool) (tn cut : Int) (A : List Sec) (i k : Nat) : List Sec := match A[i]? with
  | none => A
  | some x => A.set i ⟨nw keep tn cut x k, f x.u⟩
def crashL (f : Option Sct → Option Sct) (keep : List Bool) (tn cut : Int) : List Sec → List Nat → Nat → List Sec
  | A, [], _ => A
  | A, i :: r, k => crashL f keep tn cut (crash1 f keep tn cut A i k) r (k + 1)
def Dv.crash (D : Dv) (keep : List Bool) (tn cut : Int) : Dv := { D with A := crashL (fun _ => none) keep tn cut D.A (uns D.A) 0, h := 4611686018427387904 }
def newD (n : Nat) : Dv := ⟨List.replicate n ⟨pad ⟨#[]⟩, none⟩, 0, 4611686018427387904⟩
/-- a device in memory -/
structure DevAt (B : Nat) (w : World) (p : Nat) (v : Value) (b : Nat) (D : Dv) : Prop where
  pB : B ≤ p
  bB : B ≤ b
  n : D.A.length ≤ 4096
  hp : w.heap[p]? = some (.cells #[v, .map (some b), .int .i64 D.c, .int .i64 D.h] 130 (0, 0))
  own : ownE B 145 64 encS w v (D.A.map (·.s))
  mp : ∃ L : List (Int × Sct), MapAt kI w b (L.map fun q => (q.1, .agg (encS q.2).toArray)) ∧ ∀ i x, (i, x) ∈ L ↔ (D.at i).bind (·.u) = some x
def fpD (p : Nat) (v : Value) (b : Nat) : Nat → Prop := fun k => k = p ∨ k = b ∨ v.ownBlock = some k
section
variable {B : Nat} {w w' : World} {p b : Nat} {v : Value} {D : Dv}
theorem DevAt.c0 (h : DevAt B w p v b D) : w.cell? ⟨p, 0, none⟩ = some v := by rw [cell_of_blk h.hp]; rfl
theorem DevAt.c1 (h : DevAt B w p v b D) : w.cell? ⟨p, 1, none⟩ = some (.map (some b)) := by rw [cell_of_blk h.hp]; rfl
theorem DevAt.c2 (h : DevAt B w p v b D) : w.cell? ⟨p, 2, none⟩ = some (.int .i64 D.c) := by rw [cell_of_blk h.hp]; rfl
theorem DevAt.c3 (h : DevAt B w p v b D) : w.cell? ⟨p, 3, none⟩ = some (.int .i64 D.h) := by rw [cell_of_blk h.hp]; rfl
theorem DevAt.plt (h : DevAt B w p v b D) : p < w.heap.size := blk_lt h.hp
theorem DevAt.below (h : DevAt B w p v b D) (hb : Below w.heap.size w w') : DevAt B w' p v b D := by
  obtain ⟨L, hm, hl⟩ := h.mp
  exact ⟨h.pB, h.bB, h.n, stay hb h.hp, ownE_below h.own hb, L, hm.below hb, hl⟩
theorem DevAt.drw (h : DevAt B w p v b D) : DevAt B (drw w) p v b D := ⟨h.pB, h.bB, h.n, h.hp, h.own, h.mp⟩
theorem DevAt.len (h : DevAt B w p v b D) : ∃ a c, v = .slice a D.A.length c := by
  obtain ⟨h1, h2⟩ := h.own
  rcases h2 with ⟨rfl, h0⟩ | ⟨g, cap, cur, rfl, _⟩
  · rw [List.length_map] at h0; exact ⟨none, 0, by rw [h0]⟩
  · exact ⟨some ⟨g, 0, none⟩, cap, by rw [List.length_map]⟩
theorem DevAt.gblk (h : DevAt B w p v b D) : ∀ g, v.ownBlock = some g → g ≠ p ∧ g ≠ b ∧ B ≤ g ∧ g < w.heap.size := by
  intro g hg
  obtain ⟨h1, h2, cur, h3⟩ := ownE_blk h.own g hg
  obtain ⟨L, ⟨es, clock, hm, _⟩, _⟩ := h.mp
  refine ⟨?_, ?_, h1, h2⟩
  · rintro rfl; rw [h.hp] at h3; cases h3
  · rintro rfl; rw [hm] at h3; cases h3
theorem DevAt.pb (h : DevAt B w p v b D) : p ≠ b := by
  obtain ⟨L, ⟨es, clock, hm, _⟩, _⟩ := h.mp
  rintro rfl; rw [h.hp] at hm; cases hm
/-- one of its own cells stored -/
theorem DevAt.upd {D' : Dv} (h : DevAt B w p v b D) (hA : D'.A = D.A) (hp : w'.heap[p]? = some (.cells #[v, .map (some b), .int .i64 D'.c, .int .i64 D'.h] 130 (0, 0))) (hu : Upd p w w') : DevAt B w' p v b D' := by
  obtain ⟨L, hm, hl⟩ := h.mp
  refine ⟨h.pB, h.bB, by rw [hA]; exact h.n, hp, by rw [hA]; exact ownE_stay h.own (fun g hg => hu.block g (h.gblk g hg).1), L, hm.upd hu h.pb.symm, fun i x => ?_⟩
  rw [hl]
  unfold Dv.at
  rw [hA]
theorem fpD_B (h : DevAt B w p v b D) : ∀ k, fpD p v b k → B ≤ k := by
  rintro k (rfl | rfl | hk)
  · exact h.pB
  · exact h.bB
  · exact (h.gblk k hk).2.2.1
end
end Go.Proofs.YtongpnolikkknaaGreatDoor

set_option maxRecDepth 20000
namespace Go.Proofs.YtongpnolikkknaaGreatDoor
open Sh RowKit Go.MapKept
theorem sl61 : slT Tryz.prog 42 5 (.int .u8 0) 1 1 := ⟨by kernel_rfl, by kernel_rfl⟩
theorem sl57 : slT Tryz.prog 127 145 (.agg (Array.replicate 64 (.int .u8 0))) 64 64 := ⟨by kernel_rfl, by kernel_rfl⟩
theorem sl29 : slT Tryz.prog 22 3 (.int .i64 0) 1 8 := ⟨by kernel_rfl, by kernel_rfl⟩
theorem str9 : isStr Tryz.prog 9 = true := by kernel_rfl
theorem ud5 : Tryz.prog.underlying 5 = some (.int .u8) := by kernel_rfl
theorem pt23 : Tryz.prog.underlying 63 = some (.pointer (Tryz.prog.pointee 63)) := by kernel_rfl
theorem KK : KeyK Tryz.prog 128 3 145 (.int .i64) kI := ⟨by kernel_rfl, by kernel_rfl, fun a => by simp [kI, IsKey], fun a b h => by simpa [kI] using h⟩
theorem z63 : zeroIs Tryz.prog 145 (.agg (Array.replicate 64 (.int .u8 0))) := by unfold zeroIs; kernel_rfl
/-- a sector of noughts -/
theorem encS_nil : encS (pad ⟨#[]⟩) = List.replicate 64 (.int .u8 0) := by
  rw [encS_pad]
  unfold padL
  rw [byL_nil, List.take_nil, List.nil_append, List.map_replicate]
  rfl
section
variable {w : World} {Q : Value → World → Prop}
/-- how many sectors -/
theorem f82_s {B p b : Nat} {v : Value} {D : Dv} (hd : DevAt B w p v b D) (h : Q (.int .i64 (D.A.length : Nat)) w) : f82 (pv p) w Q := by
  unfold f82
  obtain ⟨a, c, hv⟩ := hd.len
  have c0 := hd.c0
  rw [hv] at c0
  rw [pn_eq pt23]
  simp only [↓reduceIte, ↓LL, LM, Value.cells, Nat.reduceAdd, Option.some.injEq, exists_eq_left', decide_true, decide_false, if_true, if_false, reduceCtorEq, cond_true, cond_false, Option.isNone, c0]
  exact h
/-- a call counted -/
theorem f145_s {B p b : Nat} {v : Value} {D : Dv} (hd : DevAt B w p v b D) (h0 : 0 ≤ D.c) (h1 : D.c ≤ 1000000) (h : ∀ w', DevAt B w' p v b D.tick → Upd p w w' → Q (.int .i64 (if D.h < D.c + 1 then 9 else 0)) w') : f145 (pv p) w Q := by
  unfold f145
  have c2 := hd.c2
  have e : IntKind.i64.wrap (D.c + 1) = D.c + 1 := w64 (by omega) (by omega)
  rw [pn_eq pt23]
  simp only [↓reduceIte, ↓LL, LM, Value.cells, Nat.reduceAdd, Option.some.injEq, exists_eq_left', decide_true, decide_false, if_true, if_false, reduceCtorEq, cond_true, cond_false, Option.isNone, c2, e]
  refine st_box hd.hp (o := 2) (v := .int .i64 (D.c + 1)) (by simp) rfl fun w1 h1 hu => ?_
  have d1 : DevAt B w1 p v b D.tick := hd.upd rfl h1 hu
  have k2 := d1.c2
  have k3 := d1.c3
  have e2 : D.tick.c = D.c + 1 := rfl
  have e3 : D.tick.h = D.h := rfl
  rw [e2] at k2
  rw [e3] at k3
  simp only [↓reduceIte, ↓LL, LM, Value.cells, Nat.reduceAdd, Option.some.injEq, exists_eq_left', decide_true, decide_false, if_true, if_false, reduceCtorEq, cond_true, cond_false, k2, k3]
  by_cases c : D.h < D.c + 1
  · simp only [↓reduceIte, ↓LL, LM, Value.cells, Nat.reduceAdd, Option.some.injEq, exists_eq_left', decide_true, decide_false, if_true, if_false, reduceCtorEq, cond_true, cond_false, c]
    have := h (drw w1) d1.drw ⟨hu.os, hu.tape, hu.output, hu.size, hu.block⟩
    rw [if_pos c] at this
    exact this
  · simp only [↓reduceIte, ↓LL, LM, Value.cells, Nat.reduceAdd, Option.some.injEq, exists_eq_left', decide_true, decide_false, if_true, if_false, reduceCtorEq, cond_true, cond_false, c]
    have := h (drw w1) d1.drw ⟨hu.os, hu.tape, hu.output, hu.size, hu.block⟩
    rw [if_neg c] at this
    exact this
end
end Go.Proofs.YtongpnolikkknaaGreatDoor

namespace Go.Proofs.YtongpnolikkknaaGreatDoor
namespace Sh
open RowKit Go.MapKept
section
variable {α : Type} [DecidableEq α]
theorem lk_put {L : List (α × Value)} {k k' : α} {v : Value} : lk (put L k v) k' = if k' = k then some v else lk L k' := by
  unfold put
  split
  · rename_i h
    have gen : ∀ L : List (α × Value), lk (L.map (fun p => if p.1 = k then (k, v) else p)) k' = if k' = k then (if k ∈ L.map (·.1) then some v else none) else lk L k' := by
      intro L
      induction L with
      | nil => simp [lk]
      | cons p L ih =>
        obtain ⟨a, u⟩ := p
        rw [List.map_cons]
        by_cases ha : a = k
        · rw [if_pos ha, lk_cons, lk_cons, ih]
          by_cases hk : k' = k
          · subst hk; simp [ha]
          · have : ¬ k = k' := fun e => hk e.symm
            have h2 : ¬ a = k' := fun e => hk (by rw [← e, ha])
            simp [hk, this, h2]
        · rw [if_neg ha, lk_cons, lk_cons, ih]
          by_cases hk : k' = k
          · subst hk
            have h2 : ¬ k' = a := fun e => ha e.symm
            have h3 : (k' ∈ List.map (fun x => x.1) ((a, u) :: L)) ↔ (k' ∈ List.map (fun x => x.1) L) := by
              rw [List.map_cons, List.mem_cons]
              exact ⟨fun h => h.resolve_left h2, .inr⟩
            rw [if_neg ha, if_pos rfl, if_pos rfl]
            by_cases h4 : k' ∈ List.map (fun x => x.1) L
            · rw [if_pos h4, if_pos (h3.2 h4)]
            · rw [if_neg h4, if_neg (fun e => h4 (h3.1 e))]
          · simp [hk]
    rw [gen, if_pos h]
  · rename_i h
    have gen : ∀ L : List (α × Value), lk (L ++ [(k, v)]) k' = (lk L k').or (if k' = k then some v else none) := by
      intro L
      induction L with
      | nil =>
        rw [List.nil_append, lk_cons]
        by_cases hk : k' = k
        · subst hk; simp [lk]
        · have : ¬ k = k' := fun e => hk e.symm
          simp [lk, hk, this]
      | cons p L ih =>
        obtain ⟨a, u⟩ := p
        rw [List.cons_append, lk_cons, lk_cons, ih]
        split <;> simp
    rw [gen]
    by_cases hk : k' = k
    · subst hk
      have : lk L k' = none := lk_none.2 fun p hp e => h (e ▸ List.mem_map.2 ⟨p, hp, rfl⟩)
      simp [this]
    · simp [hk]
end
theorem cf_p {w : World} {Q : Value → World → Prop} {P : Program} {f : FuncId} {z cap args : Array Value} {K : Value → M} (he : ∀ args w, (callFunc f args).run P w = .ok (.enter f args) w) (h : Calls P f (z ++ args ++ cap) w (Rt fun v w' => K v w' Q)) : cf P (.func (.func f) z cap) args K w Q :=
  ⟨f, z, cap, rfl, he _ _, h⟩
theorem cc_of {P : Program} {f : FuncId} {args : Array Value} {K : Value → M} {w : World} {Q : Value → World → Prop} {R : Ending → World → Prop} (h : Calls P f args w R) (hR : ∀ e w', R e w' → ∃ v, e = .returned v ∧ K v w' Q) : cc P f args K w Q :=
  Calls.mono h fun e w' he => by obtain ⟨v, rfl, hk⟩ := hR e w' he; exact hk
end Sh
end Go.Proofs.YtongpnolikkknaaGreatDoor

set_option maxRecDepth 20000
set_option maxHeartbeats 4000000
namespace Go.Proofs.YtongpnolikkknaaGreatDoor
open Sh RowKit Go.MapKept
def zs (n : Nat) : ByteArray := strOfNums (List.replicate n 0)
theorem byL_zs (n : Nat) : byL (zs n) = List.replicate n 0 := byL_son fun x hx => by rw [(List.mem_replicate.1 hx).2]; decide
theorem zs_size (n : Nat) : (zs n).size = n := by rw [← byL_len, byL_zs, List.length_replicate]
theorem repL (n : Nat) : (⟨(Lib.repeatL (⟨#[0]⟩ : ByteArray).data.toList n).toArray⟩ : ByteArray) = zs n := by
  apply byL_inj
  rw [byL_zs]
  unfold byL
  have : ∀ n, Lib.repeatL (⟨#[0]⟩ : ByteArray).data.toList n = List.replicate n 0 := by
    intro n
    induction n with
    | zero => rfl
    | succ n ih => show [0] ++ Lib.repeatL _ n = _; rw [ih, List.replicate_succ]; rfl
  rw [this]
  simp
/-- a text's beginning, whole -/
theorem pad_of {l : List Int} (hl : l.length ≤ 64) (hb : ∀ x ∈ l, 0 ≤ x ∧ x ≤ 255) : strOfNums l ++ zs (64 - l.length) = (pad (strOfNums l)).1 := by
  apply byL_inj
  rw [byL_app, byL_son hb, byL_zs, byL_pad]
  unfold padL
  rw [byL_son hb, son_size, List.take_of_length_le hl]
def rightB (l : List Int) : Bool := decide (l.Nodup ∧ ∀ x ∈ l, 0 ≤ x ∧ x ≤ 65535)
theorem KKi : KeyK Tryz.prog 164 3 3 (.int .i64) kI := ⟨by kernel_rfl, by kernel_rfl, fun a => by simp [kI, IsKey], fun a b h => by simpa [kI] using h⟩
theorem z3 : zeroIs Tryz.prog 3 (.int .i64 0) := by unfold zeroIs; kernel_rfl
theorem wd2 : wd 2 = 2 := rfl
section
variable {w : World} {Q : Value → World → Prop}
theorem rep_s {n : Nat} {K : Value → M} (hn : n ≤ 1000) (kk : ∀ w', Below w.heap.size w w' → K (.string (zs n)) w' Q) : cc Tryz.prog 106 #[.string ⟨#[0]⟩, .int .i64 (n : Int)] K w Q := by
  refine cc_of (Tryz.strings_Repeat ⟨#[0]⟩ n w (by omega) (by show 1 * n ≤ _; omega)) fun e w' h => ?_
  obtain ⟨h1, h2⟩ := h
  exact ⟨_, h1, by rw [repL]; exact kk w' h2⟩
theorem f148_s {v : Value} {l : List Int} (h : rdI .u8 w v l) (hl : l.length ≤ 64) (hb : ∀ x ∈ l, 0 ≤ x ∧ x ≤ 255) (kk : ∀ w', Below w.heap.size w w' → Q (.string (pad (strOfNums l)).1) w') : f148 v w Q := by
  unfold f148
  have bd : Below w.heap.size w (drw w) := ⟨rfl, rfl, rfl, Nat.le_refl _, fun _ _ => rfl⟩
  have e1 : IntKind.i64.wrap (64 - ((l.length : Nat) : Int)) = ((64 - l.length : Nat) : Int) := by rw [w64 (by omega) (by omega)]; omega
  rw [dr_q, idv_e]
  refine Eq.mpr (smr_run (run_cvb slt42 u5 st9 (rdI_below bd h))) ?_
  rw [idv_e]
  refine lnl_rd (rdI_below bd h) ?_
  try simp only [↓reduceIte, ↓LL, LM, Value.cells, Nat.reduceAdd, Option.some.injEq, exists_eq_left', decide_true, decide_false, if_true, if_false, reduceCtorEq, cond_true, cond_false, e1]
  refine rep_s (by omega) fun w1 b1 => ?_
  have b01 := bt bd b1
  rw [kp_e]
  refine ⟨run_cvb slt42 u5 st9 (rdI_below b01 h), ?_⟩
  rw [cat_e]
  refine ⟨by rw [son_size, zs_size]; omega, ?_⟩
  rw [pad_of hl hb]
  try simp only [↓reduceIte, ↓LL, LM, Value.cells, Nat.reduceAdd, Option.some.injEq, exists_eq_left', decide_true, decide_false, if_true, if_false, reduceCtorEq, cond_true, cond_false]
  exact kk w1 b01
theorem f81_s {p j : Int} (h : 0 ≤ p ∧ p ≤ 1000000) (hj : 0 ≤ j ∧ j ≤ 1000) (kk : Q (.int .i64 (126 + 4 * p + j)) w) : f81 (.int .i64 p) (.int .i64 j) w Q := by
  unfold f81
  have e1 : IntKind.i64.wrap (4 * p) = 4 * p := w64 (by omega) (by omega)
  have e2 : IntKind.i64.wrap (126 + 4 * p) = 126 + 4 * p := w64 (by omega) (by omega)
  have e3 : IntKind.i64.wrap (126 + 4 * p + j) = 126 + 4 * p + j := w64 (by omega) (by omega)
  try simp only [↓reduceIte, ↓LL, LM, Value.cells, Nat.reduceAdd, Option.some.injEq, exists_eq_left', decide_true, decide_false, if_true, if_false, reduceCtorEq, cond_true, cond_false, e1, e2, e3]
  exact kk
theorem f111_s {p j : Int} (h : 0 ≤ p ∧ p ≤ 1000000) (hj : 0 ≤ j ∧ j ≤ 1000) (kk : Q (.int .i64 (2 + 4 * p + j)) w) : f111 (.int .i64 p) (.int .i64 j) w Q := by
  unfold f111
  have e1 : IntKind.i64.wrap (4 * p) = 4 * p := w64 (by omega) (by omega)
  have e2 : IntKind.i64.wrap (2 + 4 * p) = 2 + 4 * p := w64 (by omega) (by omega)
  have e3 : IntKind.i64.wrap (2 + 4 * p + j) = 2 + 4 * p + j := w64 (by omega) (by omega)
  try simp only [↓reduceIte, ↓LL, LM, Value.cells, Nat.reduceAdd, Option.some.injEq, exists_eq_left', decide_true, decide_false, if_true, if_false, reduceCtorEq, cond_true, cond_false, e1, e2, e3]
  exact kk
theorem f39_s {p : Int} (h : 0 ≤ p ∧ p ≤ 1000000) (kk : Q (.int .i64 (126 + 4 * p)) w) : f39 (.int .i64 p) w Q := by
  unfold f39
  try simp only [↓reduceIte, ↓LL, LM, Value.cells, Nat.reduceAdd, Option.some.injEq, exists_eq_left', decide_true, decide_false, if_true, if_false, reduceCtorEq, cond_true, cond_false]
  refine f81_s h (by omega) ?_
  try simp only [↓reduceIte, ↓LL, LM, Value.cells, Nat.reduceAdd, Option.some.injEq, exists_eq_left', decide_true, decide_false, if_true, if_false, reduceCtorEq, cond_true, cond_false]
  rw [Int.add_zero]
  exact kk
def markB (b : Bool) : Sct := pad (if b = true then ⟨#[1]⟩ else ⟨#[]⟩)
theorem f146_s {b : Bool} (kk : ∀ w', Below w.heap.size w w' → Q (.string (markB b).1) w') : f146 (.bool b) w Q := by
  unfold f146
  cases b with
  | true =>
    try simp only [↓reduceIte, ↓LL, LM, Value.cells, Nat.reduceAdd, Option.some.injEq, exists_eq_left', decide_true, decide_false, if_true, if_false, reduceCtorEq, cond_true, cond_false]
    refine bsl1 slt42 rfl rfl ?_
    have b1 := b_psh w (.cells #[.int .u8 1] 5)
    have blk := blk_psh_new (w := w) (o := .cells #[.int .u8 1] 5)
    have hr : rdI .u8 (psh w (.cells #[.int .u8 1] 5)) (.slice (some ⟨w.heap.size, 0, none⟩) 1 1) [1] := by
      refine ⟨_, 1, rfl, fun i hi => ⟨_, rfl, ?_⟩⟩
      have : i = 0 := by simpa using hi
      subst this
      rw [add_lit, cell_of_blk blk]; rfl
    generalize psh w (.cells #[.int .u8 1] 5) = w1 at *
    try simp only [↓reduceIte, ↓LL, LM, Value.cells, Nat.reduceAdd, Option.some.injEq, exists_eq_left', decide_true, decide_false, if_true, if_false, reduceCtorEq, cond_true, cond_false]
    refine f148_s hr (by decide) (by decide) fun w2 b2 => ?_
    try simp only [↓reduceIte, ↓LL, LM, Value.cells, Nat.reduceAdd, Option.some.injEq, exists_eq_left', decide_true, decide_false, if_true, if_false, reduceCtorEq, cond_true, cond_false]
    exact kk w2 (bt b1 b2)
  | false =>
    try simp only [↓reduceIte, ↓LL, LM, Value.cells, Nat.reduceAdd, Option.some.injEq, exists_eq_left', decide_true, decide_false, if_true, if_false, reduceCtorEq, cond_true, cond_false]
    refine f148_s (l := []) ⟨none, 0, rfl, fun i hi => by simp at hi⟩ (by decide) (by decide) fun w2 b2 => ?_
    try simp only [↓reduceIte, ↓LL, LM, Value.cells, Nat.reduceAdd, Option.some.injEq, exists_eq_left', decide_true, decide_false, if_true, if_false, reduceCtorEq, cond_true, cond_false]
    exact kk w2 b2
def mkd (s : ByteArray) : Bool := match byL s with | [] => false | x :: _ => decide (x ≠ 0)
theorem mkd_nil {s : ByteArray} (h : s = ⟨#[]⟩) : mkd s = false := by rw [h]; rfl
theorem mkd_cons {s : ByteArray} {c : UInt8} (h : s[0]? = some c) : mkd s = decide ((c.toNat : Int) ≠ 0) := by
  have h0 : 0 < (byL s).length := by
    rw [byL_len]
    rcases Nat.eq_zero_or_pos s.size with e | e
    · rw [getElem?_neg s 0 (by omega)] at h; cases h
    · exact e
  obtain ⟨c', h1, h2⟩ := byL_get s 0 h0
  rw [h] at h1
  cases h1
  unfold mkd
  cases e : byL s with
  | nil => rw [e] at h0; simp at h0
  | cons x l =>
    have : x = (c.toNat : Int) := by
      have := h2
      simp only [e, List.getElem_cons_zero] at this
      exact this
    rw [this]
theorem f85_s {s : ByteArray} (kk : Q (.bool (mkd s)) w) : f85 (.string s) w Q := by
  unfold f85
  by_cases h : s = ⟨#[]⟩
  · rw [mkd_nil h] at kk
    try simp only [↓reduceIte, ↓LL, LM, Value.cells, Nat.reduceAdd, Option.some.injEq, exists_eq_left', decide_true, decide_false, if_true, if_false, reduceCtorEq, cond_true, cond_false, h, ne_eq]
    exact kk
  · have h0 : 0 < s.size := by
      rcases Nat.eq_zero_or_pos s.size with e | e
      · exact absurd (ByteArray.ext (Array.eq_empty_of_size_eq_zero e)) h
      · exact e
    have h1 : s[0]? = some s[0] := getElem?_pos s 0 h0
    rw [mkd_cons h1] at kk
    try simp only [↓reduceIte, ↓LL, LM, Value.cells, Nat.reduceAdd, Option.some.injEq, exists_eq_left', decide_true, decide_false, if_true, if_false, reduceCtorEq, cond_true, cond_false, h, ne_eq]
    refine ⟨s, _, _, _, rfl, rfl, by decide, h1, ?_⟩
    try simp only [↓reduceIte, ↓LL, LM, Value.cells, Nat.reduceAdd, Option.some.injEq, exists_eq_left', decide_true, decide_false, if_true, if_false, reduceCtorEq, cond_true, cond_false, ne_eq]
    try simp only [ne_eq, decide_not] at kk
    exact kk
end
end Go.Proofs.YtongpnolikkknaaGreatDoor

set_option maxRecDepth 20000
set_option maxHeartbeats 4000000
namespace Go.Proofs.YtongpnolikkknaaGreatDoor
open Sh RowKit Go.MapKept
theorem rightB_f {l : List Int} {i : Nat} (hi : i < l.length) (h : l[i] < 0 ∨ 65535 < l[i] ∨ l[i] ∈ l.take i) : rightB l = false := by
  refine decide_eq_false fun ⟨h1, h2⟩ => ?_
  have h3 := h2 _ (List.getElem_mem hi)
  rcases h with h | h | h
  · omega
  · omega
  · rw [← List.take_append_drop i l, List.nodup_append, List.drop_eq_getElem_cons hi] at h1
    exact h1.2.2 _ h _ List.mem_cons_self rfl
theorem rightB_t {l : List Int} (h : ∀ i (hi : i < l.length), 0 ≤ l[i] ∧ l[i] ≤ 65535 ∧ ¬ l[i] ∈ l.take i) : rightB l = true := by
  refine decide_eq_true ⟨?_, fun x hx => ?_⟩
  · rw [List.nodup_iff_pairwise_ne, List.pairwise_iff_getElem]
    intro i j hi hj hij e
    refine (h j hj).2.2 ?_
    rw [← e]
    exact List.mem_take_iff_getElem.2 ⟨i, by omega, rfl⟩
  · obtain ⟨i, hi, rfl⟩ := List.mem_iff_getElem.1 hx
    exact ⟨(h i hi).1, (h i hi).2.1⟩
section
variable {W w : World} {Q : Value → World → Prop}
theorem right_loop {v : Value} {l : List Int} {b : Nat} (h : rdI .i64 W v l) (hl : l.length ≤ 140737488355328) (hwf : ∀ x ∈ l, x ≤ 9223372036854775807) (hbB : W.heap.size ≤ b) : ∀ (d m i : Nat) (w : World) (L : List (Int × Value)), i + d = l.length → d < m → Below W.heap.size W w → MapAt kI w b L →
    (∀ k, lk L k = if k ∈ l.take i then some (.int .i64 1) else none) → (∀ j (hj : j < l.length), j < i → 0 ≤ l[j] ∧ l[j] ≤ 65535 ∧ ¬ l[j] ∈ l.take j) →
    (∀ w', Below W.heap.size W w' → Q (.bool (rightB l)) w') →
    itr (fun _ _ _ _ => bot) (f142_b2 f142_j1) m (.map (some b)) v (.int .i64 (l.length : Nat)) (.int .i64 (i : Int)) w Q := by
  intro d
  induction d with
  | zero =>
    intro m i w L hi hm hb hM hL hp kk
    obtain ⟨m, rfl⟩ : ∃ x, m = x + 1 := ⟨m - 1, by omega⟩
    show f142_b2 f142_j1 _ _ _ _ _ w Q
    unfold f142_b2
    have cc : ¬ (i : Int) < (l.length : Nat) := by omega
    try simp only [↓reduceIte, ↓LL, LM, Value.cells, Nat.reduceAdd, Option.some.injEq, exists_eq_left', decide_true, decide_false, if_true, if_false, reduceCtorEq, cond_true, cond_false, cc]
    unfold f142_j1
    try simp only [↓reduceIte, ↓LL, LM, Value.cells, Nat.reduceAdd, Option.some.injEq, exists_eq_left', decide_true, decide_false, if_true, if_false, reduceCtorEq, cond_true, cond_false]
    have := kk w hb
    rw [rightB_t fun j hj => hp j hj (by omega)] at this
    exact this
  | succ d ih =>
    intro m i w L hi hm hb hM hL hp kk
    obtain ⟨m, rfl⟩ : ∃ x, m = x + 1 := ⟨m - 1, by omega⟩
    show f142_b2 f142_j1 _ _ _ _ _ w Q
    unfold f142_b2
    have cc : (i : Int) < (l.length : Nat) := by omega
    have hil : i < l.length := by omega
    have h3 : IntKind.i64.wrap ((i : Int) + 1) = ((i + 1 : Nat) : Int) := by rw [w64 (by omega) (by omega)]; rfl
    try simp only [↓reduceIte, ↓LL, LM, Value.cells, Nat.reduceAdd, Option.some.injEq, exists_eq_left', decide_true, decide_false, if_true, if_false, reduceCtorEq, cond_true, cond_false, cc]
    refine ia_ld (rdI_below hb h) (by omega) (by omega) fun hh => ?_
    have ek : l[((i : Nat) : Int).toNat] = l[i] := by simp
    rw [ek]
    have fal := fun hx => rightB_f hil hx
    have hpi : ∀ (h1 : 0 ≤ l[i] ∧ l[i] ≤ 65535 ∧ ¬ l[i] ∈ l.take i), ∀ j (hj : j < l.length), j < i + 1 → 0 ≤ l[j] ∧ l[j] ≤ 65535 ∧ ¬ l[j] ∈ l.take j := fun h1 j hj hji => by
      rcases Nat.lt_or_ge j i with c | c
      · exact hp j hj c
      · have : j = i := by omega
        subst this; exact h1
    have hts : l.take (i + 1) = l.take i ++ [l[i]] := List.take_succ_eq_append_getElem hil
    have hwx := hwf _ (List.getElem_mem hil)
    generalize l[i] = x at *
    have hlx := hL x
    rw [show (Value.int .i64 x) = kI x from rfl, look_v KKi hM z3 x]
    -- what was counted, one more
    obtain ⟨c, hc1, hc2, hcv⟩ : ∃ c : Int, (lk L x).getD (.int .i64 0) = .int .i64 c ∧ IntKind.i64.wrap (c + 1) = c + 1 ∧ (c = if x ∈ l.take i then 1 else 0) := by
      by_cases hm : x ∈ l.take i
      · rw [if_pos hm] at hlx; exact ⟨1, by rw [hlx]; rfl, rfl, by rw [if_pos hm]⟩
      · rw [if_neg hm] at hlx; exact ⟨0, by rw [hlx]; rfl, rfl, by rw [if_neg hm]⟩
    rw [hc1]
    try simp only [↓reduceIte, ↓LL, LM, Value.cells, Nat.reduceAdd, Option.some.injEq, exists_eq_left', decide_true, decide_false, if_true, if_false, reduceCtorEq, cond_true, cond_false, hc2]
    refine upd_map KKi hM x _ fun w2 hM2 u2 => ?_
    have b2 : Below W.heap.size W w2 := hb.trans (u2.below hbB)
    have f0 := fun hx => by have := kk w2 b2; rw [fal hx] at this; exact this
    have hl2 : lk (put L x (.int .i64 (c + 1))) x = some (.int .i64 (c + 1)) := by rw [lk_put, if_pos rfl]
    have hlook : ∀ (K : Value → M), smr Tryz.prog (Instr.lookup 164 (.map (some b)) (.int .i64 x) false) K w2 Q = K (.int .i64 (c + 1)) w2 Q := fun K => by
      rw [show (Value.int .i64 x) = kI x from rfl, look_v KKi hM2 z3 x, hl2]; rfl
    unfold kI
    by_cases c1 : x < 0
    · try simp only [↓reduceIte, ↓LL, LM, Value.cells, Nat.reduceAdd, Option.some.injEq, exists_eq_left', decide_true, decide_false, if_true, if_false, reduceCtorEq, cond_true, cond_false, c1]
      exact f0 (.inl c1)
    have ex : IntKind.u64.wrap x = ((x.toNat : Nat) : Int) := by rw [wu64 (by omega) (by omega)]; omega
    try simp only [↓reduceIte, ↓LL, LM, Value.cells, Nat.reduceAdd, Option.some.injEq, exists_eq_left', decide_true, decide_false, if_true, if_false, reduceCtorEq, cond_true, cond_false, c1, ex]
    refine f164_s _ (by omega) 2 _ _ ?_
    by_cases c2 : x.toNat < 256 ^ 2
    · have e2 : fitB x.toNat 2 = true := decide_eq_true (by rw [wd2]; exact c2)
      rw [e2]
      by_cases hm : x ∈ l.take i
      · rw [if_pos hm] at hcv
        subst hcv
        have g2 : (1 : Int) < 1 + 1 := by decide
        try simp only [↓reduceIte, ↓LL, LM, Value.cells, Nat.reduceAdd, Option.some.injEq, exists_eq_left', decide_true, decide_false, if_true, if_false, reduceCtorEq, cond_true, cond_false, hlook, g2]
        exact f0 (.inr (.inr hm))
      · rw [if_neg hm] at hcv
        subst hcv
        have g2 : ¬ (1 : Int) < 0 + 1 := by decide
        try simp only [↓reduceIte, ↓LL, LM, Value.cells, Nat.reduceAdd, Option.some.injEq, exists_eq_left', decide_true, decide_false, if_true, if_false, reduceCtorEq, cond_true, cond_false, hlook, g2, h3]
        refine ih m (i + 1) w2 _ (by omega) (by omega) b2 hM2 (fun k => ?_) (hpi ⟨by omega, by omega, hm⟩) kk
        rw [lk_put, hts, hL]
        by_cases hk : k = x
        · subst hk; simp
        · simp [hk]
    · have e2 : fitB x.toNat 2 = false := decide_eq_false (by rw [wd2]; exact c2)
      rw [e2]
      try simp only [↓reduceIte, ↓LL, LM, Value.cells, Nat.reduceAdd, Option.some.injEq, exists_eq_left', decide_true, decide_false, if_true, if_false, reduceCtorEq, cond_true, cond_false]
      exact f0 (.inr (.inl (by omega)))
theorem f142_s {v : Value} {l : List Int} (h : rdI .i64 w v l) (hl : l.length ≤ 140737488355328) (hwf : ∀ x ∈ l, x ≤ 9223372036854775807) (kk : ∀ w', Below w.heap.size w w' → Q (.bool (rightB l)) w') : f142 v w Q := by
  unfold f142
  refine mm_map (kv := kI) fun w1 hM b1 => ?_
  refine lnl_rd h ?_
  try simp only [↓reduceIte, ↓LL, LM, Value.cells, Nat.reduceAdd, Option.some.injEq, exists_eq_left', decide_true, decide_false, if_true, if_false, reduceCtorEq, cond_true, cond_false]
  exact ⟨_, right_loop (W := w) h hl hwf (Nat.le_refl _) l.length (l.length + 1) 0 w1 [] (by omega) (by omega) b1 hM (fun k => by simp [lk]) (fun j hj h => by omega) kk⟩
/-- a directory's bytes -/
def dirL (l : List Int) : List Int := (l.length : Int) :: l.flatMap fun x => nb x.toNat 2
theorem dirL_len (l : List Int) : (dirL l).length = 1 + 2 * l.length := by
  unfold dirL
  rw [List.length_cons]
  have : ∀ l : List Int, (l.flatMap fun x => nb x.toNat 2).length = 2 * l.length := by
    intro l
    induction l with
    | nil => rfl
    | cons x l ih => rw [List.flatMap_cons, List.length_append, nb_len, ih, List.length_cons]; omega
  rw [this]; omega
theorem dirL_bd {l : List Int} (h : l.length ≤ 31) : ∀ x ∈ dirL l, 0 ≤ x ∧ x ≤ 255 := by
  intro x hx
  rcases List.mem_cons.1 hx with rfl | hx
  · omega
  · obtain ⟨y, _, hy⟩ := List.mem_flatMap.1 hx
    exact nb_bd _ _ x hy
/-- a directory as a sector, or why not -/
def dirW (l : List Int) : ByteArray × Int := if 31 < l.length then (⟨#[]⟩, 3) else if rightB l = true then ((pad (strOfNums (dirL l))).1, 0) else (⟨#[]⟩, 1)
theorem write_loop {v : Value} {l : List Int} (h : rdI .i64 W v l) (hl : l.length ≤ 31) (hwf : ∀ x ∈ l, 0 ≤ x ∧ x ≤ 65535) {j1 : Value → M} : ∀ (d m i : Nat) (w : World) (u : Value), i + d = l.length → d < m → Below W.heap.size W w → ownI W.heap.size 5 .u8 w u (((l.length : Nat) : Int) :: (l.take i).flatMap fun x => nb x.toNat 2) →
    (∀ w' u', Below W.heap.size W w' → ownI W.heap.size 5 .u8 w' u' (dirL l) → j1 u' w' Q) →
    itr (fun _ _ _ _ => bot) (f118_b2 j1) m u v (.int .i64 (l.length : Nat)) (.int .i64 (i : Int)) w Q := by
  intro d
  induction d with
  | zero =>
    intro m i w u hi hm hb ho kk
    obtain ⟨m, rfl⟩ : ∃ x, m = x + 1 := ⟨m - 1, by omega⟩
    show f118_b2 j1 _ _ _ _ _ w Q
    unfold f118_b2
    have cc : ¬ (i : Int) < (l.length : Nat) := by omega
    try simp only [↓reduceIte, ↓LL, LM, Value.cells, Nat.reduceAdd, Option.some.injEq, exists_eq_left', decide_true, decide_false, if_true, if_false, reduceCtorEq, cond_true, cond_false, cc]
    rw [List.take_of_length_le (by omega)] at ho
    exact kk w u hb ho
  | succ d ih =>
    intro m i w u hi hm hb ho kk
    obtain ⟨m, rfl⟩ : ∃ x, m = x + 1 := ⟨m - 1, by omega⟩
    show f118_b2 j1 _ _ _ _ _ w Q
    unfold f118_b2
    have cc : (i : Int) < (l.length : Nat) := by omega
    have hil : i < l.length := by omega
    have h3 : IntKind.i64.wrap ((i : Int) + 1) = ((i + 1 : Nat) : Int) := by rw [w64 (by omega) (by omega)]; rfl
    have hwx := hwf _ (List.getElem_mem hil)
    have hts : (l.take (i + 1)).flatMap (fun x => nb x.toNat 2) = (l.take i).flatMap (fun x => nb x.toNat 2) ++ nb l[i].toNat 2 := by rw [List.take_succ_eq_append_getElem hil, List.flatMap_append]; simp
    have hlen := dirL_len (l.take i)
    unfold dirL at hlen
    rw [List.length_cons, List.length_take] at hlen
    try simp only [↓reduceIte, ↓LL, LM, Value.cells, Nat.reduceAdd, Option.some.injEq, exists_eq_left', decide_true, decide_false, if_true, if_false, reduceCtorEq, cond_true, cond_false, cc]
    refine ia_ld (rdI_below hb h) (by omega) (by omega) fun hh => ?_
    have ek : l[((i : Nat) : Int).toNat] = l[i] := by simp
    have ex : IntKind.u64.wrap l[i] = ((l[i].toNat : Nat) : Int) := by rw [wu64 (by omega) (by omega)]; omega
    rw [ek]
    try simp only [↓reduceIte, ↓LL, LM, Value.cells, Nat.reduceAdd, Option.some.injEq, exists_eq_left', decide_true, decide_false, if_true, if_false, reduceCtorEq, cond_true, cond_false, ex]
    refine f147_s _ 2 _ _ _ _ hb.size ho (by rw [List.length_cons]; omega) fun u' w1 o1 b1 => ?_
    rw [wd2] at o1
    have e2 : (2 : Int).toNat = 2 := rfl
    rw [e2, List.cons_append, ← hts] at o1
    try simp only [↓reduceIte, ↓LL, LM, Value.cells, Nat.reduceAdd, Option.some.injEq, exists_eq_left', decide_true, decide_false, if_true, if_false, reduceCtorEq, cond_true, cond_false, h3]
    exact ih m (i + 1) w1 u' (by omega) (by omega) (hb.trans b1) o1 kk
theorem f118_s {v : Value} {l : List Int} (h : rdI .i64 w v l) (hl : l.length ≤ 140737488355328) (hwf : ∀ x ∈ l, x ≤ 9223372036854775807) (kk : ∀ w', Below w.heap.size w w' → Q (.tuple #[.string (dirW l).1, .int .i64 (dirW l).2]) w') : f118 v w Q := by
  unfold f118
  refine lnl_rd h ?_
  unfold dirW at kk
  by_cases c1 : 31 < l.length
  · have c1' : (31 : Int) < (l.length : Nat) := by omega
    simp only [if_pos c1] at kk
    try simp only [↓reduceIte, ↓LL, LM, Value.cells, Nat.reduceAdd, Option.some.injEq, exists_eq_left', decide_true, decide_false, if_true, if_false, reduceCtorEq, cond_true, cond_false, c1']
    exact kk w (Below.refl _ _)
  have c1' : ¬ (31 : Int) < (l.length : Nat) := by omega
  simp only [if_neg c1] at kk
  try simp only [↓reduceIte, ↓LL, LM, Value.cells, Nat.reduceAdd, Option.some.injEq, exists_eq_left', decide_true, decide_false, if_true, if_false, reduceCtorEq, cond_true, cond_false, c1']
  refine f142_s h hl hwf fun w1 b1 => ?_
  cases hr : rightB l with
  | false =>
    simp only [hr, if_neg (show ¬ false = true by simp)] at kk
    try simp only [↓reduceIte, ↓LL, LM, Value.cells, Nat.reduceAdd, Option.some.injEq, exists_eq_left', decide_true, decide_false, if_true, if_false, reduceCtorEq, cond_true, cond_false]
    exact kk w1 b1
  | true =>
    simp only [hr, if_pos] at kk
    try simp only [↓reduceIte, ↓LL, LM, Value.cells, Nat.reduceAdd, Option.some.injEq, exists_eq_left', decide_true, decide_false, if_true, if_false, reduceCtorEq, cond_true, cond_false]
    refine lnl_rd (rdI_below b1 h) ?_
    have hrr := of_decide_eq_true hr
    have e1 : IntKind.u8.wrap ((l.length : Nat) : Int) = ((l.length : Nat) : Int) := by rw [wrap_u8]; omega
    try simp only [↓reduceIte, ↓LL, LM, Value.cells, Nat.reduceAdd, Option.some.injEq, exists_eq_left', decide_true, decide_false, if_true, if_false, reduceCtorEq, cond_true, cond_false, e1]
    refine bsl1 slt42 rfl rfl ?_
    have b2 := b_psh w1 (.cells #[.int .u8 ((l.length : Nat) : Int)] 5)
    have o2 : ownI w1.heap.size 5 .u8 (psh w1 (.cells #[.int .u8 ((l.length : Nat) : Int)] 5)) (.slice (some ⟨w1.heap.size, 0, none⟩) 1 1) [((l.length : Nat) : Int)] := ownI_lit (l := [((l.length : Nat) : Int)]) (Nat.le_refl _) (by unfold maxLen; simp)
    generalize psh w1 (.cells #[.int .u8 ((l.length : Nat) : Int)] 5) = w2 at *
    have b12 := bt b1 b2
    refine lnl_rd (rdI_below b12 h) ?_
    try simp only [↓reduceIte, ↓LL, LM, Value.cells, Nat.reduceAdd, Option.some.injEq, exists_eq_left', decide_true, decide_false, if_true, if_false, reduceCtorEq, cond_true, cond_false]
    refine ⟨_, write_loop (W := w1) (Q := Q) (j1 := f118_j1) (rdI_below b1 h) (by omega) hrr.2 l.length (l.length + 1) 0 w2 _ (by omega) (by omega) b2 (by simpa using o2) fun w3 u3 b3 o3 => ?_⟩
    unfold f118_j1
    have dl := dirL_len l
    try simp only [↓reduceIte, ↓LL, LM, Value.cells, Nat.reduceAdd, Option.some.injEq, exists_eq_left', decide_true, decide_false, if_true, if_false, reduceCtorEq, cond_true, cond_false]
    refine f148_s (ownI_rd o3) (by omega) (dirL_bd (by omega)) fun w4 b4 => ?_
    try simp only [↓reduceIte, ↓LL, LM, Value.cells, Nat.reduceAdd, Option.some.injEq, exists_eq_left', decide_true, decide_false, if_true, if_false, reduceCtorEq, cond_true, cond_false]
    exact kk w4 (bt b1 (bt b3 b4))
end
end Go.Proofs.YtongpnolikkknaaGreatDoor

set_option maxRecDepth 20000
set_option maxHeartbeats 4000000
namespace Go.Proofs.YtongpnolikkknaaGreatDoor
open Sh RowKit Go.MapKept
theorem own_ne {w : World} {k : IntKind} {e e2 : TypeId} {B2 : Nat} {u : Value} {l : List Int} {g : Nat} {cur : Array Value} (h : ownI B2 e2 k w u l) (hg : w.heap[g]? = some (.cells cur e (0, 0))) (he : e ≠ e2) : u.ownBlock ≠ some g := by
  intro e'
  obtain ⟨_, h2⟩ := h
  rcases h2 with ⟨rfl, _⟩ | ⟨g', cap, cur', rfl, _, hb, _⟩
  · cases e'
  · cases e'
    rw [hg] at hb
    cases hb
    exact he rfl
/-- so many numbers of two bytes, read -/
def rdN : Nat → ByteArray → Int → List Int × ByteArray × Int
  | 0, t, e => ([], t, e)
  | n + 1, t, e => (((ofB (byL (take t e 2).1) 0 : Nat) : Int) :: (rdN n (take t e 2).2.2.1 (take t e 2).2.2.2).1, (rdN n (take t e 2).2.2.1 (take t e 2).2.2.2).2)
def n1 (s : ByteArray) : Nat := ofB (byL (take s 0 1).1) 0
def rdA (s : ByteArray) : List Int × ByteArray × Int := rdN (n1 s) (take s 0 1).2.2.1 (take s 0 1).2.2.2
def blank (s : ByteArray) : Bool := (byL s).all fun x => decide (x = 0)
/-- is it a directory? -/
def dirB (s : ByteArray) : Bool := decide ((rdA s).2.2 = 0 ∧ n1 s ≤ 31 ∧ rightB (rdA s).1 = true ∧ s.size = 64 ∧ blank (take (rdA s).2.1 (rdA s).2.2 (rdA s).2.1.size).1 = true)
theorem ofB_lt : ∀ (l : List Int) (n k : Nat), (∀ x ∈ l, 0 ≤ x ∧ x ≤ 255) → n < 256 ^ k → ofB l n < 256 ^ (k + l.length)
  | [], n, k, _, h => by simpa [ofB] using h
  | x :: r, n, k, hb, h => by
    have hx := hb x (by simp)
    have := ofB_lt r (256 * n + x.toNat) (k + 1) (fun y hy => hb y (by simp [hy])) (by rw [Nat.pow_succ]; omega)
    rw [List.length_cons, show k + (r.length + 1) = k + 1 + r.length from by omega]
    exact this
theorem take_lt (s : ByteArray) (e : Int) (k : Nat) : ofB (byL (take s e k).1) 0 < 256 ^ k := by
  have h1 := ofB_lt (byL (take s e k).1) 0 0 (fun x hx => byL_nn hx) (by simp)
  rw [Nat.zero_add, byL_len] at h1
  exact Nat.lt_of_lt_of_le h1 (Nat.pow_le_pow_right (by decide) (take_size s e k))
theorem n1_lt (s : ByteArray) : n1 s < 256 := by have := take_lt s 0 1; simpa [n1] using this
theorem rdN_len : ∀ (n : Nat) (t : ByteArray) (e : Int), (rdN n t e).1.length = n
  | 0, _, _ => rfl
  | n + 1, t, e => by simp [rdN, rdN_len n]
theorem take_rest (s : ByteArray) (e : Int) (k : Nat) : (take s e k).2.2.1.size ≤ s.size := by
  unfold take
  by_cases h : e = 0
  · rw [if_pos h]
    by_cases h2 : s.size < k
    · rw [if_pos h2]; exact Nat.le_refl _
    · rw [if_neg h2]
      show (s.extract k s.size).size ≤ s.size
      rw [ByteArray.size_extract]; omega
  · rw [if_neg h]; exact Nat.le_refl _
theorem rdN_rest : ∀ (n : Nat) (t : ByteArray) (e : Int), (rdN n t e).2.1.size ≤ t.size
  | 0, _, _ => Nat.le_refl _
  | n + 1, t, e => Nat.le_trans (rdN_rest n _ _) (take_rest t e 2)
theorem rdN_bd : ∀ (n : Nat) (t : ByteArray) (e : Int), ∀ x ∈ (rdN n t e).1, 0 ≤ x ∧ x ≤ 65535
  | 0, _, _, x, h => by simp [rdN] at h
  | n + 1, t, e, x, h => by
    simp only [rdN] at h
    rcases List.mem_cons.1 h with rfl | h
    · have := take_lt t e 2; omega
    · exact rdN_bd n _ _ x h
theorem trim_blank (s : ByteArray) : (⟨(Lib.trimB s.data.toList 0).toArray⟩ : ByteArray) = ⟨#[]⟩ ↔ blank s = true := by
  have hb : blank s = true ↔ ∀ b ∈ s.data.toList, b = 0 := by
    unfold blank byL
    rw [List.all_map, List.all_eq_true]
    constructor
    · intro h b hb
      have := of_decide_eq_true (h b hb)
      exact UInt8.toNat_inj.1 (by simpa using this)
    · intro h b hb
      rw [h b hb]; rfl
  rw [hb]
  have hdw : ∀ l : List UInt8, l.dropWhile (· == 0) = [] ↔ ∀ b ∈ l, b = 0 := by
    intro l
    induction l with
    | nil => simp
    | cons x l ih =>
      rw [List.dropWhile_cons]
      by_cases hx : x = 0
      · simp [hx, ih]
      · simp [hx]
  have key : Lib.trimB s.data.toList 0 = [] ↔ ∀ b ∈ s.data.toList, b = 0 := by
    unfold Lib.trimB Lib.trimLeftB Lib.trimRightB
    rw [hdw]
    constructor
    · intro h
      have h2 : (s.data.toList.reverse.dropWhile (· == 0)) = [] := by
        cases e : s.data.toList.reverse.dropWhile (· == 0) with
        | nil => rfl
        | cons x r =>
          exfalso
          have hx : x = 0 := h x (by rw [e]; simp)
          have := List.head_dropWhile_not (p := fun b : UInt8 => b == 0) (l := s.data.toList.reverse) (by rw [e]; simp)
          simp only [e, List.head_cons] at this
          rw [hx] at this
          simp at this
      intro b hb
      exact (hdw _).1 h2 b (List.mem_reverse.2 hb)
    · intro h b hb
      have : b ∈ s.data.toList.reverse := (List.dropWhile_sublist _).subset (List.mem_reverse.1 hb)
      exact h b (List.mem_reverse.1 this)
  rw [← key]
  constructor
  · intro h
    have := congrArg (fun s => s.data.toList) h
    simpa using this
  · intro h
    rw [h]
section
variable {W w : World} {Q : Value → World → Prop}
theorem trim_s {s : ByteArray} {K : Value → M} (hs : s.size ≤ 9223372036854775807) (kk : ∀ w' t, (t = ⟨#[]⟩ ↔ blank s = true) → Below w.heap.size w w' → K (.string t) w' Q) : cc Tryz.prog 143 #[.string s, .string ⟨#[0]⟩] K w Q := by
  refine cc_of (Tryz.strings_Trim_one s 0 (by decide) w hs) fun e w' h => ?_
  obtain ⟨h1, h2⟩ := h
  refine ⟨_, h1, kk w' _ (trim_blank s) ?_⟩
  rcases h2 with rfl | rfl
  · exact Below.refl _ _
  · exact ⟨rfl, rfl, rfl, Nat.le_refl _, fun _ _ => rfl⟩
theorem read_loop {sv : Value} {p n : Nat} {nv : Value} (hpB : W.heap.size ≤ p) (hn : n ≤ 255) {j1 : Value → Value → Value → Value → M} : ∀ (d m i : Nat) (w : World) (u : Value) (acc : List Int) (t : ByteArray) (e : Int), i + d = n → d < m → Below W.heap.size W w → ownI W.heap.size 3 .i64 w u acc → acc.length = i →
    w.heap[p]? = some (.cells (rC t e) 206 (0, 0)) →
    (∀ w' u', Below W.heap.size W w' → ownI W.heap.size 3 .i64 w' u' (acc ++ (rdN d t e).1) → w'.heap[p]? = some (.cells (rC (rdN d t e).2.1 (rdN d t e).2.2) 206 (0, 0)) → j1 sv (.pointer (some ⟨p, 0, none⟩)) u' nv w' Q) →
    itr (fun _ _ _ _ _ _ => bot) (f109_b2 j1) m sv (.pointer (some ⟨p, 0, none⟩)) u nv (.int .u64 (n : Int)) (.int .u64 (i : Int)) w Q := by
  intro d
  induction d with
  | zero =>
    intro m i w u acc t e hi hm hb ho hl hp kk
    obtain ⟨m, rfl⟩ : ∃ x, m = x + 1 := ⟨m - 1, by omega⟩
    show f109_b2 j1 _ _ _ _ _ _ _ w Q
    unfold f109_b2
    have cc : ¬ (i : Int) < (n : Int) := by omega
    try simp only [↓reduceIte, ↓LL, LM, Value.cells, Nat.reduceAdd, Option.some.injEq, exists_eq_left', decide_true, decide_false, if_true, if_false, reduceCtorEq, cond_true, cond_false, cc]
    exact kk w u hb (by simpa [rdN] using ho) hp
  | succ d ih =>
    intro m i w u acc t e hi hm hb ho hl hp kk
    obtain ⟨m, rfl⟩ : ∃ x, m = x + 1 := ⟨m - 1, by omega⟩
    show f109_b2 j1 _ _ _ _ _ _ _ w Q
    unfold f109_b2
    have cc : (i : Int) < (n : Int) := by omega
    have h3 : IntKind.u64.wrap ((i : Int) + 1) = ((i + 1 : Nat) : Int) := by rw [wu64 (by omega) (by omega)]; rfl
    try simp only [↓reduceIte, ↓LL, LM, Value.cells, Nat.reduceAdd, Option.some.injEq, exists_eq_left', decide_true, decide_false, if_true, if_false, reduceCtorEq, cond_true, cond_false, cc]
    refine f138_s p t e 2 w _ hp fun w1 hp1 c1 => ?_
    have hlt := take_lt t e 2
    have e2 : (wd 2).toNat = 2 := rfl
    rw [e2] at hp1 ⊢
    have e3 : IntKind.i64.wrap ((ofB (byL (take t e 2).1) 0 : Nat) : Int) = ((ofB (byL (take t e 2).1) 0 : Nat) : Int) := w64 (by omega) (by omega)
    have hne := own_ne ho hp (by decide)
    have o1 := ownI_chg ho c1 hne
    have b1 : Below W.heap.size W w1 := bc hb hpB hb.size c1
    try simp only [↓reduceIte, ↓LL, LM, Value.cells, Nat.reduceAdd, Option.some.injEq, exists_eq_left', decide_true, decide_false, if_true, if_false, reduceCtorEq, cond_true, cond_false, e3]
    refine ap_one slt22 o1 (by omega) (by omega) b1.size fun u' w2 o2 b2 _ st2 => ?_
    have hne1 := own_ne o1 hp1 (by decide)
    have hp2 := st2 p _ hp1 hne1
    try simp only [↓reduceIte, ↓LL, LM, Value.cells, Nat.reduceAdd, Option.some.injEq, exists_eq_left', decide_true, decide_false, if_true, if_false, reduceCtorEq, cond_true, cond_false, h3]
    refine ih m (i + 1) w2 u' _ _ _ (by omega) (by omega) (b1.trans b2) o2 (by simp [hl]) hp2 fun w' u' b' o' p' => ?_
    refine kk w' u' b' ?_ p'
    rw [List.append_assoc] at o'
    exact o'
theorem f109_s {s : ByteArray} (hs : s.size ≤ 9223372036854775807) (kk : ∀ w', Below w.heap.size w w' → dirB s = false → Q (.tuple #[.slice none 0 0, .int .i64 10]) w') (k0 : ∀ w' u, Below w.heap.size w w' → dirB s = true → ownI w.heap.size 3 .i64 w' u (rdA s).1 → Q (.tuple #[u, .int .i64 0]) w') : f109 (.string s) w Q := by
  unfold f109
  try simp only [↓reduceIte, ↓LL, LM, Value.cells, Nat.reduceAdd, Option.some.injEq, exists_eq_left', decide_true, decide_false, if_true, if_false, reduceCtorEq, cond_true, cond_false]
  refine f137_s s w _ fun p w1 hpe hp1 b1 => ?_
  try simp only [↓reduceIte, ↓LL, LM, Value.cells, Nat.reduceAdd, Option.some.injEq, exists_eq_left', decide_true, decide_false, if_true, if_false, reduceCtorEq, cond_true, cond_false]
  refine f138_s p s 0 1 w1 _ hp1 fun w2 hp2 c2 => ?_
  have e1 : (wd 1).toNat = 1 := rfl
  rw [e1] at hp2 ⊢
  have hpB : w.heap.size ≤ p := by omega
  have b2 : Below w.heap.size w w2 := bc b1 hpB b1.size c2
  have hn1 := n1_lt s
  try simp only [↓reduceIte, ↓LL, LM, Value.cells, Nat.reduceAdd, Option.some.injEq, exists_eq_left', decide_true, decide_false, if_true, if_false, reduceCtorEq, cond_true, cond_false]
  have := read_loop (W := w) (Q := Q) (sv := .string s) (p := p) (n := n1 s) (nv := .int .u64 ((n1 s : Nat) : Int)) (j1 := f109_j1) hpB (by omega) (n1 s) (n1 s + 1) 0 w2 (.slice none 0 0) [] (take s 0 1).2.2.1 (take s 0 1).2.2.2 (by omega) (by omega) b2 ownI_nil rfl hp2 fun w3 u3 b3 o3 hp3 => ?_
  · exact ⟨_, this⟩
  rw [List.nil_append] at o3
  have hp3 : w3.heap[p]? = some (.cells (rC (rdA s).2.1 (rdA s).2.2) 206 (0, 0)) := hp3
  have o3 : ownI w.heap.size 3 .i64 w3 u3 (rdA s).1 := o3
  have hl3 : (rdA s).1.length = n1 s := rdN_len _ _ _
  have hbd : ∀ x ∈ (rdA s).1, 0 ≤ x ∧ x ≤ 65535 := rdN_bd _ _ _
  unfold f109_j1
  try simp only [↓reduceIte, ↓LL, LM, Value.cells, Nat.reduceAdd, Option.some.injEq, exists_eq_left', decide_true, decide_false, if_true, if_false, reduceCtorEq, cond_true, cond_false]
  refine f140_s p _ _ w3 _ hp3 ?_
  try simp only [↓reduceIte, ↓LL, LM, Value.cells, Nat.reduceAdd, Option.some.injEq, exists_eq_left', decide_true, decide_false, if_true, if_false, reduceCtorEq, cond_true, cond_false]
  refine f139_s p _ _ _ w3 _ hp3 fun w4 hp4 c4 => ?_
  rw [Int.toNat_natCast] at hp4 ⊢
  have b4 : Below w.heap.size w w4 := bc b3 hpB b3.size c4
  have o4 := ownI_chg o3 c4 (own_ne o3 hp3 (by decide))
  have esz : ∀ (t : ByteArray) (e : Int), (take t e t.size).2.2.2 = e := fun t e => by
    unfold take
    by_cases h : e = 0
    · rw [if_pos h, if_neg (by omega)]; exact h.symm
    · rw [if_neg h]
  rw [esz] at hp4
  try simp only [↓reduceIte, ↓LL, LM, Value.cells, Nat.reduceAdd, Option.some.injEq, exists_eq_left', decide_true, decide_false, if_true, if_false, reduceCtorEq, cond_true, cond_false]
  refine f141_s p _ _ w4 _ hp4 ?_
  have kf := fun w' hb => kk w' hb
  by_cases z1 : (rdA s).2.2 = 0
  rotate_left
  · try simp only [↓reduceIte, ↓LL, LM, Value.cells, Nat.reduceAdd, Option.some.injEq, exists_eq_left', decide_true, decide_false, if_true, if_false, reduceCtorEq, cond_true, cond_false, z1, ne_eq]
    exact kk w4 b4 (decide_eq_false fun h => z1 h.1)
  by_cases z2 : n1 s ≤ 31
  rotate_left
  · have z2' : (31 : Int) < ((n1 s : Nat) : Int) := by omega
    try simp only [↓reduceIte, ↓LL, LM, Value.cells, Nat.reduceAdd, Option.some.injEq, exists_eq_left', decide_true, decide_false, if_true, if_false, reduceCtorEq, cond_true, cond_false, z1, z2', ne_eq]
    exact kk w4 b4 (decide_eq_false fun h => z2 h.2.1)
  have z2' : ¬ (31 : Int) < ((n1 s : Nat) : Int) := by omega
  try simp only [↓reduceIte, ↓LL, LM, Value.cells, Nat.reduceAdd, Option.some.injEq, exists_eq_left', decide_true, decide_false, if_true, if_false, reduceCtorEq, cond_true, cond_false, z1, z2', ne_eq]
  refine f142_s (ownI_rd o4) (by omega) (fun x hx => by have := hbd x hx; omega) fun w5 b5 => ?_
  have b45 := bt b4 b5
  cases z3 : rightB (rdA s).1 with
  | false =>
    try simp only [↓reduceIte, ↓LL, LM, Value.cells, Nat.reduceAdd, Option.some.injEq, exists_eq_left', decide_true, decide_false, if_true, if_false, reduceCtorEq, cond_true, cond_false]
    exact kk w5 b45 (decide_eq_false fun h => by rw [z3] at h; cases h.2.2.1)
  | true =>
    by_cases z4 : s.size = 64
    rotate_left
    · have z4' : ¬ ((s.size : Nat) : Int) = 64 := by omega
      try simp only [↓reduceIte, ↓LL, LM, Value.cells, Nat.reduceAdd, Option.some.injEq, exists_eq_left', decide_true, decide_false, if_true, if_false, reduceCtorEq, cond_true, cond_false, z4', ne_eq]
      exact kk w5 b45 (decide_eq_false fun h => z4 h.2.2.2.1)
    have z4' : ((s.size : Nat) : Int) = 64 := by omega
    try simp only [↓reduceIte, ↓LL, LM, Value.cells, Nat.reduceAdd, Option.some.injEq, exists_eq_left', decide_true, decide_false, if_true, if_false, reduceCtorEq, cond_true, cond_false, z4', ne_eq]
    have hts := take_size (rdA s).2.1 0 (rdA s).2.1.size
    refine trim_s (Nat.le_trans hts (Nat.le_trans (rdN_rest _ _ _) (Nat.le_trans (take_rest _ _ _) hs))) fun w6 t ht b6' => ?_
    have b6 := bt b45 b6'
    by_cases z5 : t = ⟨#[]⟩
    · try simp only [↓reduceIte, ↓LL, LM, Value.cells, Nat.reduceAdd, Option.some.injEq, exists_eq_left', decide_true, decide_false, if_true, if_false, reduceCtorEq, cond_true, cond_false, z5, ne_eq]
      refine k0 w6 u3 b6 ?_ (ownI_below (ownI_below o4 b5) b6')
      exact decide_eq_true ⟨z1, z2, z3, z4, by rw [z1]; exact ht.1 z5⟩
    · try simp only [↓reduceIte, ↓LL, LM, Value.cells, Nat.reduceAdd, Option.some.injEq, exists_eq_left', decide_true, decide_false, if_true, if_false, reduceCtorEq, cond_true, cond_false, z5, ne_eq]
      exact kk w6 b6 (decide_eq_false fun h => z5 (ht.2 (by have := h.2.2.2.2; rw [z1] at this; exact this)))
end
end Go.Proofs.YtongpnolikkknaaGreatDoor

set_option maxRecDepth 20000
namespace Go.Proofs.YtongpnolikkknaaGreatDoor
open Sh RowKit

end Go.Proofs.YtongpnolikkknaaGreatDoor

set_option maxRecDepth 20000
set_option maxHeartbeats 4000000
namespace Go.Proofs.YtongpnolikkknaaGreatDoor
open Sh RowKit Go.MapKept
/-- pairs of bytes as numbers -/
def prs : Nat → List Int → List Int
  | 0, _ => []
  | n + 1, x :: y :: r => (256 * x + y) :: prs n r
  | n + 1, [x] => x :: prs n []
  | n + 1, [] => 0 :: prs n []
theorem prs_len : ∀ (n : Nat) (l : List Int), (prs n l).length = n
  | 0, _ => rfl
  | n + 1, x :: y :: r => by simp [prs, prs_len n]
  | n + 1, [x] => by simp [prs, prs_len n]
  | n + 1, [] => by simp [prs, prs_len n]
theorem nb2 {x y : Int} (hx : 0 ≤ x ∧ x ≤ 255) (hy : 0 ≤ y ∧ y ≤ 255) : nb (256 * x + y).toNat 2 = [x, y] := by
  simp only [nb]
  congr 1
  · have : (256 * x + y).toNat / 256 ^ 1 % 256 = x.toNat := by omega
    rw [this]; omega
  · congr 1
    have : (256 * x + y).toNat / 256 ^ 0 % 256 = y.toNat := by omega
    rw [this]; omega
theorem prs_flat : ∀ (n : Nat) (l : List Int), 2 * n ≤ l.length → (∀ x ∈ l, 0 ≤ x ∧ x ≤ 255) → (prs n l).flatMap (fun x => nb x.toNat 2) = l.take (2 * n)
  | 0, _, _, _ => by simp [prs]
  | n + 1, x :: y :: r, hl, hb => by
    have h := prs_flat n r (by simp at hl; omega) (fun z hz => hb z (by simp [hz]))
    rw [show 2 * (n + 1) = 2 * n + 1 + 1 from by omega, List.take_succ_cons, List.take_succ_cons, ← h]
    show nb (256 * x + y).toNat 2 ++ _ = _
    rw [nb2 (hb x (by simp)) (hb y (by simp))]; rfl
  | n + 1, [x], hl, _ => by simp at hl; omega
  | n + 1, [], hl, _ => by simp at hl
theorem flat_prs : ∀ (l : List Int) (r : List Int), (∀ x ∈ l, 0 ≤ x ∧ x ≤ 65535) → prs l.length (l.flatMap (fun x => nb x.toNat 2) ++ r) = l
  | [], _, _ => rfl
  | x :: l, r, h => by
    have hx := h x (by simp)
    have ih := flat_prs l r (fun z hz => h z (by simp [hz]))
    rw [List.flatMap_cons, List.append_assoc]
    have e : nb x.toNat 2 = [((x.toNat / 256 ^ 1 % 256 : Nat) : Int), ((x.toNat / 256 ^ 0 % 256 : Nat) : Int)] := rfl
    rw [e, List.cons_append, List.cons_append, List.nil_append]
    show (256 * ((x.toNat / 256 ^ 1 % 256 : Nat) : Int) + ((x.toNat / 256 ^ 0 % 256 : Nat) : Int)) :: prs l.length _ = _
    rw [ih]
    congr 1
    omega
theorem ofB1 (x : Int) (h : 0 ≤ x) : ((ofB [x] 0 : Nat) : Int) = x := by simp [ofB]; omega
theorem ofB2 (x y : Int) (hx : 0 ≤ x) (hy : 0 ≤ y) : ((ofB [x, y] 0 : Nat) : Int) = 256 * x + y := by simp [ofB]; omega
theorem take_ok {t : ByteArray} {k : Nat} (h : k ≤ t.size) : take t 0 k = (t.extract 0 k, true, t.extract k t.size, 0) := by
  unfold take; rw [if_pos rfl, if_neg (by omega)]
theorem take_bad {t : ByteArray} {k : Nat} (h : t.size < k) : take t 0 k = (nos, false, t, 2) := by
  unfold take; rw [if_pos rfl, if_pos h]
theorem take_err {t : ByteArray} {e : Int} {k : Nat} (h : e ≠ 0) : take t e k = (nos, false, t, e) := by
  unfold take; rw [if_neg h]
theorem rdN_err : ∀ (n : Nat) (t : ByteArray) (e : Int), e ≠ 0 → (rdN n t e).2.2 = e
  | 0, _, _, _ => rfl
  | n + 1, t, e, h => by simp only [rdN]; rw [take_err h]; exact rdN_err n t e h
theorem rdN_bad : ∀ (n : Nat) (t : ByteArray), t.size < 2 * n → (rdN n t 0).2.2 ≠ 0
  | 0, _, h => by omega
  | n + 1, t, h => by
    simp only [rdN]
    rcases Nat.lt_or_ge t.size 2 with c | c
    · rw [take_bad c]
      show (rdN n t 2).2.2 ≠ 0
      rw [rdN_err n t 2 (by decide)]; decide
    · rw [take_ok c]
      exact rdN_bad n (t.extract 2 t.size) (by rw [ByteArray.size_extract]; omega)
theorem rdN_ok : ∀ (n : Nat) (t : ByteArray), 2 * n ≤ t.size → rdN n t 0 = (prs n (byL t), t.extract (2 * n) t.size, 0)
  | 0, t, _ => by
    have : t.extract (2 * 0) t.size = t := by apply byL_inj; rw [byL_take, List.take_of_length_le (by rw [byL_len]; omega)]; rfl
    rw [this]; rfl
  | n + 1, t, h => by
    simp only [rdN]
    rw [take_ok (by omega)]
    have ih := rdN_ok n (t.extract 2 t.size) (by rw [ByteArray.size_extract]; omega)
    simp only [ih]
    have e1 : byL (t.extract 0 2) = (byL t).take 2 := by rw [byL_take]; rfl
    have e2 : byL (t.extract 2 t.size) = (byL t).drop 2 := by rw [byL_take, List.take_of_length_le (by rw [byL_len]; omega)]
    have e3 : (t.extract 2 t.size).extract (2 * n) (t.extract 2 t.size).size = t.extract (2 * (n + 1)) t.size := by
      apply byL_inj
      rw [byL_take, e2, byL_take, List.take_of_length_le (by rw [List.length_drop, byL_len, ByteArray.size_extract]; omega), List.take_of_length_le (by rw [byL_len]; omega), List.drop_drop]
      congr 1
      omega
    rw [e1, e2, e3]
    have hl : (byL t).length = t.size := byL_len t
    have hb : ∀ x ∈ byL t, 0 ≤ x ∧ x ≤ 255 := fun x hx => byL_nn hx
    cases hbt : byL t with
    | nil => rw [hbt] at hl; simp at hl; omega
    | cons x r =>
      cases r with
      | nil => rw [hbt] at hl; simp at hl; omega
      | cons y r =>
        rw [hbt] at hb
        have h1 := hb x (by simp)
        have h2 := hb y (by simp)
        simp only [List.take_succ_cons, List.take_zero, List.drop_succ_cons, List.drop_zero, prs]
        rw [ofB2 x y h1.1 h2.1]
/-- as many pages as are said are there -/
def fitsD (s : ByteArray) : Prop := 1 + 2 * n1 s ≤ s.size
def lst (s : ByteArray) : List Int := prs (n1 s) ((byL s).drop 1)
theorem n1_get {s : ByteArray} (h : 0 < s.size) : ∃ x r, byL s = x :: r ∧ x = (n1 s : Int) := by
  have hl : (byL s).length = s.size := byL_len s
  cases hb : byL s with
  | nil => rw [hb] at hl; simp at hl; omega
  | cons x r =>
    refine ⟨x, r, rfl, ?_⟩
    unfold n1
    rw [take_ok (by omega)]
    have e1 : byL (s.extract 0 1) = (byL s).take 1 := by rw [byL_take]; rfl
    simp only
    rw [e1, hb]
    have := byL_nn (s := s) (x := x) (by rw [hb]; simp)
    rw [List.take_succ_cons, List.take_zero, ofB1 x this.1]
theorem rdA_ok {s : ByteArray} (h : fitsD s) : rdA s = (lst s, s.extract (1 + 2 * n1 s) s.size, 0) := by
  unfold fitsD at h
  unfold rdA lst
  have e2 : byL (s.extract 1 s.size) = (byL s).drop 1 := by rw [byL_take, List.take_of_length_le (by rw [byL_len]; omega)]
  rw [take_ok (by omega)]
  simp only
  rw [rdN_ok _ _ (by rw [ByteArray.size_extract]; omega), e2]
  congr 2
  apply byL_inj
  rw [byL_take, e2, byL_take, List.take_of_length_le (by rw [List.length_drop, byL_len, ByteArray.size_extract]; omega), List.take_of_length_le (by rw [byL_len]; omega), List.drop_drop]
theorem rdA_bad {s : ByteArray} (h : ¬ fitsD s) : (rdA s).2.2 ≠ 0 := by
  unfold fitsD at h
  unfold rdA
  rcases Nat.eq_zero_or_pos s.size with c | c
  · rw [take_bad (by omega)]
    simp only
    rw [rdN_err _ _ 2 (by decide)]; decide
  · rw [take_ok (by omega)]
    simp only
    exact rdN_bad _ _ (by rw [ByteArray.size_extract]; omega)
theorem lst_len (s : ByteArray) : (lst s).length = n1 s := prs_len _ _
theorem blank_rest {s : ByteArray} {k : Nat} (h : blank (s.extract k s.size) = true) : (byL s).drop k = List.replicate (s.size - k) 0 := by
  unfold blank at h
  rw [byL_take, List.take_of_length_le (by rw [byL_len]; omega)] at h
  rw [List.eq_replicate_iff]
  refine ⟨by rw [List.length_drop, byL_len], fun x hx => ?_⟩
  have := List.all_eq_true.1 h x hx
  exact of_decide_eq_true this
attribute [local irreducible] n1
theorem dir_iff {s : ByteArray} : dirB s = true ↔ fitsD s ∧ dirW (lst s) = (s, 0) := by
  by_cases hf : fitsD s
  rotate_left
  · constructor
    · intro h; exact absurd (of_decide_eq_true h).1 (rdA_bad hf)
    · intro h; exact absurd h.1 hf
  have hA := rdA_ok hf
  have hfs : 1 + 2 * n1 s ≤ s.size := hf
  obtain ⟨x, r, hb, hx⟩ := n1_get (s := s) (by omega)
  have hl : (byL s).length = s.size := byL_len s
  have hbd : ∀ y ∈ byL s, 0 ≤ y ∧ y ≤ 255 := fun y hy => byL_nn hy
  -- the bytes that are told
  have hd : dirL (lst s) = (byL s).take (1 + 2 * n1 s) := by
    unfold dirL
    rw [lst_len]
    unfold lst
    rw [prs_flat _ _ (by rw [List.length_drop]; omega) (fun y hy => hbd y (List.mem_of_mem_drop hy)), hb, Nat.add_comm 1, List.take_succ_cons, hx, List.drop_succ_cons, List.drop_zero]
  have hdb : ∀ y ∈ dirL (lst s), 0 ≤ y ∧ y ≤ 255 := fun y hy => by rw [hd] at hy; exact hbd y (List.mem_of_mem_take hy)
  have hdl : (dirL (lst s)).length = 1 + 2 * n1 s := by rw [dirL_len, lst_len]
  constructor
  · intro h
    obtain ⟨_, h2, h3, h4, h5⟩ := of_decide_eq_true h
    rw [hA] at h3 h5
    simp only at h3 h5
    refine ⟨hf, ?_⟩
    unfold dirW
    rw [if_neg (by rw [lst_len]; omega), if_pos h3]
    refine Prod.ext ?_ rfl
    apply byL_inj
    show byL (pad (strOfNums (dirL (lst s)))).1 = byL s
    rw [byL_pad]
    unfold padL
    rw [byL_son hdb, son_size, hdl, List.take_of_length_le (by rw [hdl]; omega), hd]
    rw [take_ok (Nat.le_refl _)] at h5
    simp only at h5
    have e : (s.extract (1 + 2 * n1 s) s.size).extract 0 (s.extract (1 + 2 * n1 s) s.size).size = s.extract (1 + 2 * n1 s) s.size := by
      apply byL_inj
      rw [byL_take, List.take_of_length_le (by rw [byL_len]; omega)]; rfl
    rw [e] at h5
    have h6 := blank_rest h5
    rw [h4] at h6
    rw [← h6, List.take_append_drop]
  · rintro ⟨_, h⟩
    unfold dirW at h
    by_cases c1 : 31 < (lst s).length
    · rw [if_pos c1] at h; simp at h
    rw [if_neg c1] at h
    by_cases c2 : rightB (lst s) = true
    rotate_left
    · rw [if_neg c2] at h; simp at h
    rw [if_pos c2] at h
    have hs : (pad (strOfNums (dirL (lst s)))).1 = s := (Prod.mk.inj h).1
    have h64 : s.size = 64 := by rw [← hs]; exact (pad _).2
    rw [lst_len] at c1
    refine decide_eq_true ⟨by rw [hA], by omega, by rw [hA]; exact c2, h64, ?_⟩
    rw [hA]
    simp only
    rw [take_ok (Nat.le_refl _)]
    simp only
    have e : (s.extract (1 + 2 * n1 s) s.size).extract 0 (s.extract (1 + 2 * n1 s) s.size).size = s.extract (1 + 2 * n1 s) s.size := by
      apply byL_inj
      rw [byL_take, List.take_of_length_le (by rw [byL_len]; omega)]; rfl
    rw [e]
    unfold blank
    rw [byL_take, List.take_of_length_le (by rw [byL_len]; omega)]
    have hbs : byL s = (dirL (lst s)).take 64 ++ List.replicate (64 - (dirL (lst s)).length) 0 := by
      conv => lhs; rw [← hs, byL_pad]
      unfold padL
      rw [byL_son hdb, son_size]
    rw [hbs, List.take_of_length_le (by rw [hdl]; omega), List.drop_append_of_le_length (by rw [hdl]; exact Nat.le_refl _), List.drop_of_length_le (by rw [hdl]; exact Nat.le_refl _), List.nil_append, List.all_eq_true]
    intro y hy
    exact decide_eq_true (List.mem_replicate.1 hy).2
/-- what was written is a directory -/
theorem dir_back {l : List Int} (h1 : l.length ≤ 31) (h2 : rightB l = true) : fitsD (dirW l).1 ∧ lst (dirW l).1 = l ∧ (dirW l).2 = 0 ∧ dirB (dirW l).1 = true := by
  have hW : dirW l = ((pad (strOfNums (dirL l))).1, 0) := by unfold dirW; rw [if_neg (by omega), if_pos h2]
  have hr := (of_decide_eq_true h2).2
  have hdl := dirL_len l
  have hb : byL (dirW l).1 = dirL l ++ List.replicate (64 - (1 + 2 * l.length)) 0 := by
    rw [hW]
    simp only
    rw [byL_pad]
    unfold padL
    rw [byL_son (dirL_bd h1), son_size, hdl, List.take_of_length_le (by omega)]
  have hsz : (dirW l).1.size = 64 := by rw [hW]; exact (pad _).2
  have hn : n1 (dirW l).1 = l.length := by
    obtain ⟨x, r, hx, e⟩ := n1_get (s := (dirW l).1) (by omega)
    rw [hb] at hx
    unfold dirL at hx
    rw [List.cons_append] at hx
    have := (List.cons.inj hx).1
    omega
  have hf : fitsD (dirW l).1 := by unfold fitsD; omega
  have hl : lst (dirW l).1 = l := by
    unfold lst
    rw [hn, hb]
    unfold dirL
    rw [List.cons_append, List.drop_succ_cons, List.drop_zero]
    exact flat_prs l _ hr
  refine ⟨hf, hl, by rw [hW], dir_iff.2 ⟨hf, ?_⟩⟩
  rw [hl, hW]
end Go.Proofs.YtongpnolikkknaaGreatDoor

set_option maxRecDepth 20000
set_option maxHeartbeats 4000000
namespace Go.Proofs.YtongpnolikkknaaGreatDoor
open Sh RowKit Go.MapKept
section
variable {W w : World} {Q : Value → World → Prop}
theorem ld_i {v : Value} {l : List Int} {i : Nat} (h : rdI .i64 W v l) (hi : i < l.length) : ∃ a : Addr, (∀ w, Below W.heap.size W w → w.cell? a = some (.int .i64 l[i])) ∧ ∀ (K : Value → M) (w : World) (Q : Value → World → Prop), ia 1 v (.int .i64 (i : Int)) K w Q = K (.pointer (some a)) w Q := by
  obtain ⟨p, c, rfl, h⟩ := h
  obtain ⟨a, rfl, hc⟩ := h i hi
  refine ⟨a.add i, fun w hb => cell_below hb hc, fun K w Q => ?_⟩
  rw [ia_e, Int.toNat_natCast, Nat.mul_one]
  exact propext ⟨fun h => h.2.2, fun h => ⟨by omega, by omega, h⟩⟩
theorem sameI_loop {x y : Value} {l l2 : List Int} (hx : rdI .i64 W x l) (hy : rdI .i64 W y l2) (hle : l.length = l2.length) (hl : l.length ≤ 140737488355328) : ∀ (d m i : Nat) (w : World), i + d = l.length → d < m → Below W.heap.size W w → l.take i = l2.take i →
    (∀ w', Below W.heap.size W w' → Q (.bool (decide (l = l2))) w') →
    itr (fun _ _ _ => bot) (f33_b2 f33_j1) m x y (.int .i64 (i : Int)) w Q := by
  intro d
  induction d with
  | zero =>
    intro m i w hi hm hb he kk
    obtain ⟨m, rfl⟩ : ∃ x, m = x + 1 := ⟨m - 1, by omega⟩
    show f33_b2 f33_j1 _ _ _ _ w Q
    unfold f33_b2
    refine lnl_rd hx ?_
    have c : ¬ (i : Int) < (l.length : Nat) := by omega
    try simp only [↓reduceIte, ↓LL, LM, Value.cells, Nat.reduceAdd, Option.some.injEq, exists_eq_left', decide_true, decide_false, if_true, if_false, reduceCtorEq, cond_true, cond_false, c]
    unfold f33_j1
    try simp only [↓reduceIte, ↓LL, LM, Value.cells, Nat.reduceAdd, Option.some.injEq, exists_eq_left', decide_true, decide_false, if_true, if_false, reduceCtorEq, cond_true, cond_false]
    rw [List.take_of_length_le (by omega), List.take_of_length_le (by omega)] at he
    have := kk w hb
    rw [decide_eq_true he] at this
    exact this
  | succ d ih =>
    intro m i w hi hm hb he kk
    obtain ⟨m, rfl⟩ : ∃ x, m = x + 1 := ⟨m - 1, by omega⟩
    show f33_b2 f33_j1 _ _ _ _ w Q
    unfold f33_b2
    refine lnl_rd hx ?_
    have c : (i : Int) < (l.length : Nat) := by omega
    have hil : i < l.length := by omega
    have hil2 : i < l2.length := by omega
    have bd : Below W.heap.size W (drw w) := hb.trans ⟨rfl, rfl, rfl, Nat.le_refl _, fun _ _ => rfl⟩
    obtain ⟨ax, cx, hax⟩ := ld_i hx hil
    obtain ⟨ay, cy, hay⟩ := ld_i hy hil2
    have qx := cx _ bd
    have qy := cy _ bd
    have h3 : IntKind.i64.wrap ((i : Int) + 1) = ((i + 1 : Nat) : Int) := by rw [w64 (by omega) (by omega)]; rfl
    by_cases hv : l[i] = l2[i]
    · try simp only [↓reduceIte, ↓LL, LM, Value.cells, Nat.reduceAdd, Option.some.injEq, exists_eq_left', decide_true, decide_false, if_true, if_false, reduceCtorEq, cond_true, cond_false, c, hax, hay, qx, qy, ne_eq, hv, h3]
      refine ih m (i + 1) (drw w) (by omega) (by omega) bd ?_ kk
      rw [List.take_succ_eq_append_getElem hil, List.take_succ_eq_append_getElem hil2, he, hv]
    · try simp only [↓reduceIte, ↓LL, LM, Value.cells, Nat.reduceAdd, Option.some.injEq, exists_eq_left', decide_true, decide_false, if_true, if_false, reduceCtorEq, cond_true, cond_false, c, hax, hay, qx, qy, ne_eq, hv]
      have hne : l ≠ l2 := by rintro rfl; exact hv rfl
      have := kk (drw w) bd
      rw [decide_eq_false hne] at this
      exact this
theorem f33_s {x y : Value} {l l2 : List Int} (hx : rdI .i64 w x l) (hy : rdI .i64 w y l2) (hl : l.length ≤ 140737488355328) (kk : ∀ w', Below w.heap.size w w' → Q (.bool (decide (l = l2))) w') : f33 x y w Q := by
  unfold f33
  refine lnl_rd hx ?_
  refine lnl_rd hy ?_
  by_cases hle : l.length = l2.length
  · have hle' : ((l.length : Nat) : Int) = (l2.length : Nat) := by omega
    try simp only [↓reduceIte, ↓LL, LM, Value.cells, Nat.reduceAdd, Option.some.injEq, exists_eq_left', decide_true, decide_false, if_true, if_false, reduceCtorEq, cond_true, cond_false, hle', ne_eq]
    exact ⟨_, sameI_loop (W := w) hx hy hle hl l.length (l.length + 1) 0 w (by omega) (by omega) (Below.refl _ _) (by simp) kk⟩
  · have hle' : ¬ ((l.length : Nat) : Int) = (l2.length : Nat) := by omega
    have hne : l ≠ l2 := by rintro rfl; exact hle rfl
    try simp only [↓reduceIte, ↓LL, LM, Value.cells, Nat.reduceAdd, Option.some.injEq, exists_eq_left', decide_true, decide_false, if_true, if_false, reduceCtorEq, cond_true, cond_false, hle', ne_eq]
    have := kk w (Below.refl _ _)
    rw [decide_eq_false hne] at this
    exact this
end
end Go.Proofs.YtongpnolikkknaaGreatDoor

set_option maxRecDepth 20000
set_option maxHeartbeats 4000000
namespace Go.Proofs.YtongpnolikkknaaGreatDoor
open Sh RowKit Go.MapKept
section
variable {W w : World} {Q : Value → World → Prop}
end
end Go.Proofs.YtongpnolikkknaaGreatDoor

set_option maxRecDepth 20000
set_option maxHeartbeats 4000000
namespace Go.Proofs.YtongpnolikkknaaGreatDoor
open Sh RowKit Go.MapKept
theorem mkd_mark (b : Bool) : mkd (markB b).1 = b := by
  cases b <;> rfl
section
variable {W w : World} {Q : Value → World → Prop}
theorem get0 (x y : Value) : (#[x, y] : Array Value)[0]? = some x := rfl
theorem get1 (x y : Value) : (#[x, y] : Array Value)[1]? = some y := rfl
end
end Go.Proofs.YtongpnolikkknaaGreatDoor

set_option maxRecDepth 20000
set_option maxHeartbeats 4000000
namespace Go.Proofs.YtongpnolikkknaaGreatDoor
open Sh RowKit Go.MapKept
def um (x m : Int) : Int := (IntKind.u64.wrap x).tmod m
theorem um_bd (x : Int) {m : Int} (h : 0 < m) : 0 ≤ um x m ∧ um x m < m := by
  have h0 : 0 ≤ IntKind.u64.wrap x := by rw [wrap_u64]; omega
  unfold um
  exact ⟨Int.tmod_nonneg _ h0, Int.tmod_lt_of_pos _ h⟩
section
variable {W w : World} {Q : Value → World → Prop}
theorem sls_to {s : ByteArray} {k : Nat} {K : Value → M} (h : k ≤ s.size) (kk : K (.string (s.extract 0 k)) w Q) : sls (.string s) none (some (.int .i64 (k : Int))) K w Q :=
  ⟨s, 0, k, rfl, bnd_hi h, bnd_none, kk⟩
theorem sls_from {s : ByteArray} {k : Nat} {K : Value → M} (h : k ≤ s.size) (kk : K (.string (s.extract k s.size)) w Q) : sls (.string s) (some (.int .i64 (k : Int))) none K w Q :=
  ⟨s, k, s.size, rfl, bnd_none, bnd_hi h, kk⟩
end
end Go.Proofs.YtongpnolikkknaaGreatDoor

set_option maxRecDepth 20000
set_option maxHeartbeats 4000000
namespace Go.Proofs.YtongpnolikkknaaGreatDoor
open Sh RowKit Go.MapKept
/-- a slice that reads as texts -/
def rdT (w : World) (v : Value) (l : List ByteArray) : Prop := (v = .slice none 0 0 ∧ l = []) ∨ ∃ a c, v = .slice (some a) l.length c ∧ l.length ≤ c ∧ ∀ i (h : i < l.length), w.cell? (a.add i) = some (.string l[i])
/-- all of some texts -/
def catL (l : List ByteArray) : ByteArray := strOfNums (l.flatMap byL)
theorem byL_catL (l : List ByteArray) : byL (catL l) = l.flatMap byL := byL_son fun x hx => by
  obtain ⟨s, _, hs⟩ := List.mem_flatMap.1 hx
  exact byL_nn hs
theorem catL_snoc (l : List ByteArray) (s : ByteArray) : catL l ++ s = catL (l ++ [s]) := by
  apply byL_inj
  rw [byL_app, byL_catL, byL_catL, List.flatMap_append]; simp
theorem catL_size (l : List ByteArray) : (catL l).size = (l.map (·.size)).sum := by
  rw [← byL_len, byL_catL]
  induction l with
  | nil => rfl
  | cons s l ih => rw [List.flatMap_cons, List.length_append, ih, byL_len, List.map_cons, List.sum_cons]
theorem catL_64 {l : List ByteArray} (h : ∀ s ∈ l, s.size = 64) : (catL l).size = 64 * l.length := by
  rw [catL_size]
  induction l with
  | nil => rfl
  | cons s l ih => rw [List.map_cons, List.sum_cons, ih (fun t ht => h t (by simp [ht])), h s (by simp), List.length_cons]; omega
/-- four sectors? -/
def four (l : List ByteArray) : Bool := decide (l.length = 4 ∧ ∀ s ∈ l, s.size = 64)
def joinB (l : List ByteArray) : ByteArray × Int := if four l = true then (catL l, 0) else (⟨#[]⟩, 1)
/-- a page's sectors -/
def chunk (s : ByteArray) (j : Nat) : ByteArray := s.extract (64 * j) (64 * j + 64)
def cutL (s : ByteArray) (n : Nat) : List ByteArray := (List.range n).map (chunk s)
theorem cutL_len (s : ByteArray) (n : Nat) : (cutL s n).length = n := by unfold cutL; rw [List.length_map, List.length_range]
theorem cutL_succ (s : ByteArray) (n : Nat) : cutL s (n + 1) = cutL s n ++ [chunk s n] := by unfold cutL; rw [List.range_succ, List.map_append]; rfl
theorem chunk_size {s : ByteArray} {j : Nat} (h : s.size = 256) (hj : j < 4) : (chunk s j).size = 64 := by unfold chunk; rw [ByteArray.size_extract]; omega
theorem cutL_cat {s : ByteArray} : ∀ n, 64 * n ≤ s.size → byL (catL (cutL s n)) = (byL s).take (64 * n)
  | 0, _ => rfl
  | n + 1, h => by
    rw [cutL_succ, ← catL_snoc, byL_app, cutL_cat n (by omega)]
    unfold chunk
    rw [byL_take, List.drop_take, show 64 * n + 64 - 64 * n = 64 from by omega, ← List.take_add, show 64 * (n + 1) = 64 * n + 64 from by omega]
theorem cut_back {s : ByteArray} (h : s.size = 256) : four (cutL s 4) = true ∧ catL (cutL s 4) = s := by
  constructor
  · refine decide_eq_true ⟨cutL_len s 4, fun t ht => ?_⟩
    obtain ⟨j, hj, rfl⟩ := List.mem_map.1 ht
    exact chunk_size h (List.mem_range.1 hj)
  · apply byL_inj
    rw [cutL_cat 4 (by omega), List.take_of_length_le (by rw [byL_len]; omega)]
theorem sl39 : slT Tryz.prog 100 9 (.string ⟨#[]⟩) 1 16 := ⟨by kernel_rfl, by kernel_rfl⟩
theorem en61 : ∀ args w, (callFunc 135 args).run Tryz.prog w = .ok (.enter 135 args) w := enters_of Tryz.func135 (by kernel_rfl) rfl
theorem join_cat (l : List ByteArray) : (⟨(Lib.join (l.map (·.data.toList)) (⟨#[]⟩ : ByteArray).data.toList).toArray⟩ : ByteArray) = catL l := by
  apply byL_inj
  rw [byL_catL]
  have e : Lib.join (l.map (·.data.toList)) (⟨#[]⟩ : ByteArray).data.toList = l.flatMap (·.data.toList) := by
    show List.intercalate [] _ = _
    unfold List.intercalate
    have : ∀ l : List (List UInt8), (l.intersperse []).flatten = l.flatten := by
      intro l
      induction l with
      | nil => rfl
      | cons x l ih =>
        cases l with
        | nil => rfl
        | cons y l => rw [List.intersperse_cons_cons, List.flatten_cons, List.flatten_cons, ih]; rfl
    rw [this, List.flatMap_def]
  rw [e]
  unfold byL
  simp only [List.toList_toArray]
  rw [List.map_flatMap]
section
variable {W w w' : World} {Q : Value → World → Prop}
theorem rdT_b {v : Value} {l : List ByteArray} (hb : Below w.heap.size w w') (h : rdT w v l) : rdT w' v l := by
  rcases h with h | ⟨a, c, rfl, hc, h⟩
  · exact .inl h
  · exact .inr ⟨a, c, rfl, hc, fun i hi => cell_below hb (h i hi)⟩
theorem rdT_own {B : Nat} {e : TypeId} {v : Value} {l : List ByteArray} (h : ownV B e w v (l.map .string)) : rdT w v l := by
  rcases ownV_cases h with ⟨rfl, h0⟩ | ⟨g, cap, cur, rfl, hg, hb, hn, hm, hs, ht⟩
  · exact .inl ⟨rfl, by simpa using h0⟩
  · rw [List.length_map] at hn ht ⊢
    refine .inr ⟨_, cap, rfl, hn, fun i hi => ?_⟩
    rw [add_lit, Nat.zero_add, cell_of_blk hb]
    have : (cur.toList.take l.length)[i]? = (l.map Value.string)[i]? := by rw [ht]
    rw [List.getElem?_take_of_lt hi, List.getElem?_map, List.getElem?_eq_getElem hi] at this
    simpa using this
theorem lnl_T {W w1 : World} {v : Value} {l : List ByteArray} (h : rdT W v l) : ∀ (K : Value → M) (Q : Value → World → Prop), lnl v K w1 Q = K (.int .i64 (l.length : Nat)) w1 Q := by
  intro K Q
  rcases h with ⟨rfl, rfl⟩ | ⟨a, c, rfl, _, _⟩ <;> rw [lnl_e] <;> rfl
theorem ld_t {v : Value} {l : List ByteArray} {i : Nat} (h : rdT W v l) (hi : i < l.length) : ∃ a : Addr, (∀ w, Below W.heap.size W w → w.cell? a = some (.string l[i])) ∧ ∀ (K : Value → M) (w : World) (Q : Value → World → Prop), ia 1 v (.int .i64 (i : Int)) K w Q = K (.pointer (some a)) w Q := by
  rcases h with ⟨rfl, rfl⟩ | ⟨a, c, rfl, _, h⟩
  · simp at hi
  · refine ⟨a.add i, fun w hb => cell_below hb (h i hi), fun K w Q => ?_⟩
    rw [ia_e, Int.toNat_natCast, Nat.mul_one]
    exact propext ⟨fun h => h.2.2, fun h => ⟨by omega, by omega, h⟩⟩
/-- one text more -/
theorem ap_T {v : Value} {l : List ByteArray} {s : ByteArray} {K : Value → M} (h : ownV W.heap.size 9 w v (l.map .string)) (hb : Below W.heap.size W w) (hl : l.length ≤ 1000000) (kk : ∀ w' u, ownV W.heap.size 9 w' u ((l ++ [s]).map .string) → Below W.heap.size W w' → K u w' Q) :
    sm Tryz.prog (Instr.buildSlice 100 1 #[(0, .string s)]) (fun t => sm Tryz.prog (Builtin.append_ #[100, 100] 100 #[v, t]) K) w Q := by
  refine ap_V (x := .string s) sl39 rfl rfl rfl h (by rw [List.length_map]; unfold maxLen; omega) (by rw [List.length_map]; omega) hb.size fun v' w' ho' hf hsz hos hown => ?_
  refine kk w' v' (by rw [List.map_append]; exact ho') ⟨hos.1.trans hb.os, hos.2.1.trans hb.tape, hos.2.2.trans hb.output, Nat.le_trans hb.size hsz, fun k hk => ?_⟩
  rw [hf k (Nat.lt_of_lt_of_le hk hb.size) (fun e => by have := (ownV_lt h k e).1; omega)]
  exact hb.block k hk
theorem byL_ext (s : ByteArray) (k : Nat) : byL (s.extract k s.size) = (byL s).drop k := by rw [byL_take, List.take_of_length_le (by rw [byL_len]; exact Nat.le_refl _)]
theorem cut_loop {s : ByteArray} (hs : s.size = 256) {j1 : Value → M} : ∀ (d m i : Nat) (w : World) (u : Value), i + d = 4 → d < m → Below W.heap.size W w → ownV W.heap.size 9 w u ((cutL s i).map .string) →
    (∀ w' u', Below W.heap.size W w' → ownV W.heap.size 9 w' u' ((cutL s 4).map .string) → j1 u' w' Q) →
    itr (fun _ _ => bot) (f144_b2 j1) m (.string (s.extract (64 * i) s.size)) u w Q := by
  intro d
  induction d with
  | zero =>
    intro m i w u hi hm hb ho kk
    obtain ⟨m, rfl⟩ : ∃ x, m = x + 1 := ⟨m - 1, by omega⟩
    show f144_b2 j1 _ _ _ w Q
    unfold f144_b2
    have hi4 : i = 4 := by omega
    subst hi4
    have e : s.extract (64 * 4) s.size = ⟨#[]⟩ := by
      apply byL_inj
      rw [byL_take, List.drop_of_length_le (by rw [List.length_take, byL_len]; omega)]; rfl
    rw [e]
    try simp only [↓reduceIte, ↓LL, LM, Value.cells, Nat.reduceAdd, Option.some.injEq, exists_eq_left', decide_true, decide_false, if_true, if_false, reduceCtorEq, cond_true, cond_false, ne_eq]
    exact kk w u hb ho
  | succ d ih =>
    intro m i w u hi hm hb ho kk
    obtain ⟨m, rfl⟩ : ∃ x, m = x + 1 := ⟨m - 1, by omega⟩
    show f144_b2 j1 _ _ _ w Q
    unfold f144_b2
    have hsz : (s.extract (64 * i) s.size).size = 256 - 64 * i := by rw [ByteArray.size_extract]; omega
    have hne : ¬ s.extract (64 * i) s.size = ⟨#[]⟩ := fun e => by rw [e] at hsz; have h0 : (⟨#[]⟩ : ByteArray).size = 0 := rfl; omega
    have e1 : (s.extract (64 * i) s.size).extract 0 64 = chunk s i := by
      apply byL_inj
      unfold chunk
      rw [byL_take, byL_ext, byL_take, List.drop_zero, List.drop_take, show 64 * i + 64 - 64 * i = 64 from by omega]
    have e2 : (s.extract (64 * i) s.size).extract 64 (s.extract (64 * i) s.size).size = s.extract (64 * (i + 1)) s.size := by
      apply byL_inj
      rw [byL_ext, byL_ext, byL_ext, List.drop_drop]
      congr 1
    try simp only [↓reduceIte, ↓LL, LM, Value.cells, Nat.reduceAdd, Option.some.injEq, exists_eq_left', decide_true, decide_false, if_true, if_false, reduceCtorEq, cond_true, cond_false, ne_eq, hne]
    refine sls_to (k := 64) (by omega) ?_
    rw [e1]
    refine ap_T ho hb (by rw [cutL_len]; omega) fun w1 u1 o1 b1 => ?_
    rw [← cutL_succ] at o1
    try simp only [↓reduceIte, ↓LL, LM, Value.cells, Nat.reduceAdd, Option.some.injEq, exists_eq_left', decide_true, decide_false, if_true, if_false, reduceCtorEq, cond_true, cond_false]
    refine sls_from (k := 64) (by omega) ?_
    rw [e2]
    exact ih m (i + 1) w1 u1 (by omega) (by omega) b1 o1 kk
theorem f144_s {s : ByteArray} (k1 : s.size ≠ 256 → Q (.tuple #[.slice none 0 0, .int .i64 1]) w) (k0 : s.size = 256 → ∀ w' u, Below w.heap.size w w' → ownV w.heap.size 9 w' u ((cutL s 4).map .string) → Q (.tuple #[u, .int .i64 0]) w') : f144 (.string s) w Q := by
  unfold f144
  by_cases h : s.size = 256
  · have h' : ((s.size : Nat) : Int) = 256 := by omega
    have e0 : s.extract (64 * 0) s.size = s := by apply byL_inj; rw [byL_take, List.take_of_length_le (by rw [byL_len]; exact Nat.le_refl _)]; rfl
    try simp only [↓reduceIte, ↓LL, LM, Value.cells, Nat.reduceAdd, Option.some.injEq, exists_eq_left', decide_true, decide_false, if_true, if_false, reduceCtorEq, cond_true, cond_false, ne_eq, h']
    have := cut_loop (W := w) (Q := Q) h (j1 := f144_j1) 4 5 0 w (.slice none 0 0) (by omega) (by omega) (Below.refl _ _) ownV_nil fun w1 u1 b1 o1 => ?_
    · rw [e0] at this
      exact ⟨_, this⟩
    · unfold f144_j1
      try simp only [↓reduceIte, ↓LL, LM, Value.cells, Nat.reduceAdd, Option.some.injEq, exists_eq_left', decide_true, decide_false, if_true, if_false, reduceCtorEq, cond_true, cond_false]
      exact k0 h w1 u1 b1 o1
  · have h' : ¬ ((s.size : Nat) : Int) = 256 := by omega
    try simp only [↓reduceIte, ↓LL, LM, Value.cells, Nat.reduceAdd, Option.some.injEq, exists_eq_left', decide_true, decide_false, if_true, if_false, reduceCtorEq, cond_true, cond_false, ne_eq, h']
    exact k1 h
end
end Go.Proofs.YtongpnolikkknaaGreatDoor

set_option maxRecDepth 20000
set_option maxHeartbeats 4000000
namespace Go.Proofs.YtongpnolikkknaaGreatDoor
open Sh RowKit Go.MapKept
theorem joinB_ok {l : List ByteArray} (h4 : l.length = 4) (c : ∀ s ∈ l, s.size = 64) : joinB l = (catL l, 0) := by
  unfold joinB; rw [if_pos (show four l = true from decide_eq_true ⟨h4, c⟩)]
theorem joinB_bad {l : List ByteArray} (c : ¬ (l.length = 4 ∧ ∀ s ∈ l, s.size = 64)) : joinB l = (⟨#[]⟩, 1) := by
  unfold joinB; rw [if_neg (fun e : four l = true => c (of_decide_eq_true e))]
section
variable {W w w' : World} {Q : Value → World → Prop}
theorem idx_loop {v : Value} {l : List ByteArray} (h : rdT W v l) (hl : l.length ≤ 140737488355328) : ∀ (d m i : Nat) (w : World), i + d = l.length → d < m → Below W.heap.size W w → (∀ s ∈ l.take i, s.size = 64) →
    (∀ w' (r : Int), Below W.heap.size W w' → (0 ≤ r ↔ ¬ ∀ s ∈ l, s.size = 64) → Q (.int .i64 r) w') →
    itr (fun _ _ _ _ => bot) (f161_b2 f161_j1) m v (.func (.func 135) #[] #[]) (.int .i64 (l.length : Nat)) (.int .i64 (i : Int)) w Q := by
  intro d
  induction d with
  | zero =>
    intro m i w hi hm hb he kk
    obtain ⟨m, rfl⟩ : ∃ x, m = x + 1 := ⟨m - 1, by omega⟩
    show f161_b2 f161_j1 _ _ _ _ _ w Q
    unfold f161_b2
    have c : ¬ (i : Int) < (l.length : Nat) := by omega
    try simp only [↓reduceIte, ↓LL, LM, Value.cells, Nat.reduceAdd, Option.some.injEq, exists_eq_left', decide_true, decide_false, if_true, if_false, reduceCtorEq, cond_true, cond_false, c]
    unfold f161_j1
    try simp only [↓reduceIte, ↓LL, LM, Value.cells, Nat.reduceAdd, Option.some.injEq, exists_eq_left', decide_true, decide_false, if_true, if_false, reduceCtorEq, cond_true, cond_false]
    rw [List.take_of_length_le (by omega)] at he
    exact kk w (-1) hb ⟨fun h => by omega, fun h => absurd he h⟩
  | succ d ih =>
    intro m i w hi hm hb he kk
    obtain ⟨m, rfl⟩ : ∃ x, m = x + 1 := ⟨m - 1, by omega⟩
    show f161_b2 f161_j1 _ _ _ _ _ w Q
    unfold f161_b2
    have c : (i : Int) < (l.length : Nat) := by omega
    have hil : i < l.length := by omega
    obtain ⟨ax, cx, hax⟩ := ld_t h hil
    have qx := cx _ hb
    have h3 : IntKind.i64.wrap ((i : Int) + 1) = ((i + 1 : Nat) : Int) := by rw [w64 (by omega) (by omega)]; rfl
    try simp only [↓reduceIte, ↓LL, LM, Value.cells, Nat.reduceAdd, Option.some.injEq, exists_eq_left', decide_true, decide_false, if_true, if_false, reduceCtorEq, cond_true, cond_false, c, hax, qx]
    refine cf_p en61 ?_
    refine s135 (.string l[i]) w _ ?_
    unfold f135
    by_cases hv : l[i].size = 64
    · have hv' : ((l[i].size : Nat) : Int) = 64 := by omega
      try simp only [↓reduceIte, ↓LL, LM, Value.cells, Nat.reduceAdd, Option.some.injEq, exists_eq_left', decide_true, decide_false, if_true, if_false, reduceCtorEq, cond_true, cond_false, ne_eq, hv', h3]
      refine ih m (i + 1) w (by omega) (by omega) hb ?_ kk
      rw [List.take_succ_eq_append_getElem hil]
      intro s hs
      rcases List.mem_append.1 hs with hs | hs
      · exact he s hs
      · rw [List.mem_singleton.1 hs]; exact hv
    · have hv' : ¬ ((l[i].size : Nat) : Int) = 64 := by omega
      try simp only [↓reduceIte, ↓LL, LM, Value.cells, Nat.reduceAdd, Option.some.injEq, exists_eq_left', decide_true, decide_false, if_true, if_false, reduceCtorEq, cond_true, cond_false, ne_eq, hv']
      exact kk w _ hb ⟨fun _ hh => hv (hh _ (List.getElem_mem hil)), fun _ => by omega⟩
theorem cfn_s {v : Value} {l : List ByteArray} (h : rdT w v l) (hl : l.length ≤ 140737488355328) (kk : ∀ w', Below w.heap.size w w' → Q (.bool (decide (¬ ∀ s ∈ l, s.size = 64))) w') : f134 v (.func (.func 135) #[] #[]) w Q := by
  unfold f134
  try simp only [↓reduceIte, ↓LL, LM, Value.cells, Nat.reduceAdd, Option.some.injEq, exists_eq_left', decide_true, decide_false, if_true, if_false, reduceCtorEq, cond_true, cond_false]
  unfold f161
  rw [lnl_T h]
  try simp only [↓reduceIte, ↓LL, LM, Value.cells, Nat.reduceAdd, Option.some.injEq, exists_eq_left', decide_true, decide_false, if_true, if_false, reduceCtorEq, cond_true, cond_false]
  refine ⟨_, idx_loop (W := w) h hl l.length (l.length + 1) 0 w (by omega) (by omega) (Below.refl _ _) (by simp) fun w1 r b1 hr => ?_⟩
  by_cases c : ∀ s ∈ l, s.size = 64
  · have : ¬ 0 ≤ r := fun e => hr.1 e c
    have e : decide (¬ ∀ s ∈ l, s.size = 64) = false := decide_eq_false fun h => h c
    have := kk w1 b1
    rw [e] at this
    have c' : ¬ r ≥ 0 := by omega
    try simp only [↓reduceIte, ↓LL, LM, Value.cells, Nat.reduceAdd, Option.some.injEq, exists_eq_left', decide_true, decide_false, if_true, if_false, reduceCtorEq, cond_true, cond_false, c', ‹¬ 0 ≤ r›]
    exact this
  · have h0 : 0 ≤ r := hr.2 c
    have e : decide (¬ ∀ s ∈ l, s.size = 64) = true := decide_eq_true c
    have := kk w1 b1
    rw [e] at this
    have c' : r ≥ 0 := h0
    try simp only [↓reduceIte, ↓LL, LM, Value.cells, Nat.reduceAdd, Option.some.injEq, exists_eq_left', decide_true, decide_false, if_true, if_false, reduceCtorEq, cond_true, cond_false, c', h0]
    exact this
theorem join_s {v : Value} {l : List ByteArray} {K : Value → M} (h : rdT w v l) (h4 : l.length = 4) (h64 : ∀ s ∈ l, s.size = 64) (kk : ∀ w', Below w.heap.size w w' → K (.string (catL l)) w' Q) : cc Tryz.prog 136 #[v, .string ⟨#[]⟩] K w Q := by
  rcases h with ⟨rfl, rfl⟩ | ⟨a, c, rfl, hc, h⟩
  · simp at h4
  · have h0 := h 0 (by omega)
    obtain ⟨b, o, sp⟩ := a
    have hs : sp = none := by
      cases sp with
      | none => rfl
      | some x =>
        exfalso
        unfold World.cell? at h0
        split at h0
        · split at h0
          · cases h0
          · rename_i hn; simp [Addr.add] at hn
        · cases h0
    subst hs
    have hbk : b < w.heap.size := by have := cell_lt h0; simpa [add_lit] using this
    refine cc_of (Tryz.strings_Join b o c l ⟨#[]⟩ w (fun j x hx => ?_) hbk (by omega) hc ?_) fun e w' he => ?_
    · obtain ⟨hj, e⟩ := List.getElem?_eq_some_iff.1 hx
      have := h j hj
      rw [add_lit, e] at this
      exact this
    · have := congrArg ByteArray.size (join_cat l)
      rw [catL_64 h64] at this
      have e : ∀ x : List UInt8, (⟨x.toArray⟩ : ByteArray).size = x.length := fun x => rfl
      rw [e] at this
      omega
    · obtain ⟨h1, h2⟩ := he
      exact ⟨_, h1, by rw [join_cat]; exact kk w' h2⟩
theorem f108_s {v : Value} {l : List ByteArray} (h : rdT w v l) (hl : l.length ≤ 140737488355328) (kk : ∀ w', Below w.heap.size w w' → Q (.tuple #[.string (joinB l).1, .int .i64 (joinB l).2]) w') : f108 v w Q := by
  unfold f108
  rw [lnl_T h]
  by_cases h4 : l.length = 4
  · have h4' : ((l.length : Nat) : Int) = 4 := by omega
    try simp only [↓reduceIte, ↓LL, LM, Value.cells, Nat.reduceAdd, Option.some.injEq, exists_eq_left', decide_true, decide_false, if_true, if_false, reduceCtorEq, cond_true, cond_false, ne_eq, h4']
    refine cfn_s h hl fun w1 b1 => ?_
    by_cases c : ∀ s ∈ l, s.size = 64
    · have e : decide (¬ ∀ s ∈ l, s.size = 64) = false := decide_eq_false fun h => h c
      rw [e]
      try simp only [↓reduceIte, ↓LL, LM, Value.cells, Nat.reduceAdd, Option.some.injEq, exists_eq_left', decide_true, decide_false, if_true, if_false, reduceCtorEq, cond_true, cond_false]
      refine join_s (rdT_b b1 h) h4 c fun w2 b2 => ?_
      have := kk w2 (bt b1 b2)
      rw [joinB_ok h4 c] at this
      try simp only [↓reduceIte, ↓LL, LM, Value.cells, Nat.reduceAdd, Option.some.injEq, exists_eq_left', decide_true, decide_false, if_true, if_false, reduceCtorEq, cond_true, cond_false]
      exact this
    · have e : decide (¬ ∀ s ∈ l, s.size = 64) = true := decide_eq_true c
      rw [e]
      try simp only [↓reduceIte, ↓LL, LM, Value.cells, Nat.reduceAdd, Option.some.injEq, exists_eq_left', decide_true, decide_false, if_true, if_false, reduceCtorEq, cond_true, cond_false]
      have := kk w1 b1
      rw [joinB_bad fun e => c e.2] at this
      exact this
  · have h4' : ¬ ((l.length : Nat) : Int) = 4 := by omega
    try simp only [↓reduceIte, ↓LL, LM, Value.cells, Nat.reduceAdd, Option.some.injEq, exists_eq_left', decide_true, decide_false, if_true, if_false, reduceCtorEq, cond_true, cond_false, ne_eq, h4']
    have := kk w (Below.refl _ _)
    rw [joinB_bad fun e => h4 e.1] at this
    exact this
end
end Go.Proofs.YtongpnolikkknaaGreatDoor

namespace Go.Proofs.YtongpnolikkknaaGreatDoor
namespace Sh
open RowKit
section
variable {H : Type} {enc : TypeId × Value → H} {P : Program}
theorem trodAll_below (hl : laidOutB P = true) {W W' : World} (hb : Below W.heap.size W W') : ∀ (ts : List TypeId) (vs : List Value) (ds : List (DataW H)) (ps : List MemPlace),
    (∀ t ∈ ts, P.readableRec t = true ∧ t < P.types.size) → DataW.TrodAll enc P W 0 (fun _ => true) true ts vs ds ps → (∀ x ∈ ps, x.block < W.heap.size) →
    DataW.TrodAll enc P W' 0 (fun b => decide (b < W.heap.size)) true ts vs ds ps := by
  intro ts
  induction ts with
  | nil =>
    intro vs ds ps _ h _
    match vs, ds, h with
    | [], [], h => exact h
  | cons t ts ih =>
    intro vs ds ps ht h hp
    match vs, ds, h with
    | v :: vs, d :: ds, ⟨p, q, h1, h2, h3⟩ =>
      subst h3
      exact ⟨p, q, Below.trod hl (ht t (by simp)).1 (ht t (by simp)).2 h1 hb (fun x hx => hp x (by simp [hx])), ih vs ds q (fun u hu => ht u (by simp [hu])) h2 (fun x hx => hp x (by simp [hx])), rfl⟩
theorem trodAll_len : ∀ (ts : List TypeId) (vs : List Value) (ds : List (DataW H)) (ps : List MemPlace) {W : World}, DataW.TrodAll enc P W 0 (fun _ => true) true ts vs ds ps → ds.length = ts.length := by
  intro ts
  induction ts with
  | nil => intro vs ds ps W h; match vs, ds, h with | [], [], h => rfl
  | cons t ts ih => intro vs ds ps W h; match vs, ds, h with | v :: vs, d :: ds, ⟨p, q, h1, h2, h3⟩ => simp [ih vs ds q h2]
theorem law_post {fn : Func} {s : ChangeSpec} {apart : Bool} {W W' : World} {args : Array Value} {ds gs : List (DataW H)} {before : List MemPlace} {tb : TypeId} (hv : s.vars = []) (hl : laidOutB P = true)
    (hp : ∀ t ∈ fn.params.toList, P.readableRec t = true ∧ t < P.types.size) (hr : fn.resultTypes = #[tb]) (hb : P.underlying tb = some .bool)
    (hs : ∀ ds : List (DataW H), ds.length = fn.params.toList.length → (s.fn H ds).results = [.lit (.bool true)] ∧ (s.fn H ds).args = ds ∧ (s.fn H ds).vars = [])
    (hW : DataW.Whole enc P fn.params.toList s.vars apart W args.toList ds gs before) (h : Below W.heap.size W W') :
    s.post enc P fn apart true false false W args (.bool true) W' := by
  have hW0 := hW
  obtain ⟨p, q, hA, hV, rfl, hfz, hnd⟩ := hW
  rw [hv] at hV
  have hg : gs = [] ∧ q = [] := by
    cases gs with
    | nil => exact ⟨rfl, hV⟩
    | cons g gs => exact hV.elim
  obtain ⟨rfl, rfl⟩ := hg
  obtain ⟨e1, e2, e3⟩ := hs ds (trodAll_len _ _ _ _ hA)
  refine ⟨ds, [], p ++ [], [], p, [], hW0, ?_, ?_, ?_, Below.frame h _, fun h => by cases h⟩
  · rw [hr, List.append_nil, e1]
    exact ⟨[], [], ⟨1, by simp [DataW.trod, hb, Value.cells]⟩, rfl, rfl⟩
  · rw [List.append_nil, e2]
    exact trodAll_below hl h _ _ _ _ hp hA (fun x hx => by have := hW0.lt x (by simp [hx]); simpa using this)
  · rw [List.append_nil, hv, e3]
    rfl
end
end Sh
end Go.Proofs.YtongpnolikkknaaGreatDoor

namespace Go.Proofs.YtongpnolikkknaaGreatDoor
namespace Sh
open RowKit ChangeShapes
/-- all arguments, told by R -/
def OpensA (P : Program) (ts : List TypeId) (α : Type) (R : World → List Value → α → Prop) (bulk : α → Nat) : Prop :=
  ∀ {H : Type} (enc : TypeId × Value → H) (W : World) (vs : List Value) (ds : List (DataW H)) (ps : List MemPlace) (base : Nat),
    (∀ (j : Nat) t v, ts[j]? = some t → vs[j]? = some v → Value.okWide P W .any base t v) →
    DataW.TrodAll enc P W 0 (fun _ => true) true ts vs ds ps → (DataW.weightsEach P ts ds).all (· ≤ reachBytes) = true → ∃ a, R W vs a ∧ bulk a ≤ Rows.uptoBulkAll ds
section
variable {P : Program}
theorem oa_nil : OpensA P [] Unit (fun _ vs _ => vs = []) (fun _ => 0) := by
  intro H enc W vs ds ps base hv h _
  match vs, ds, h with
  | [], [], _ => exact ⟨(), rfl, Nat.zero_le _⟩
theorem OpensA.mono {ts : List TypeId} {α β : Type} {R : World → List Value → α → Prop} {S : World → List Value → β → Prop} {b : α → Nat} {c : β → Nat} (h : OpensA P ts α R b)
    (f : ∀ W vs a, R W vs a → ∃ x, S W vs x ∧ c x ≤ b a) : OpensA P ts β S c := by
  intro H enc W vs ds ps base hv hd hw
  obtain ⟨a, h1, h2⟩ := h enc W vs ds ps base hv hd hw
  obtain ⟨y, h3, h4⟩ := f W vs a h1
  exact ⟨y, h3, Nat.le_trans h4 h2⟩
theorem oa_one {t : TypeId} {ts : List TypeId} {α β : Type} {R : RepT α} {S : World → List Value → β → Prop} {b : α → Nat} {c : β → Nat} (h : Opens P t α R b) (hs : isSc P t = true) (h1 : ∀ w cs a, R w cs a → ∃ v, cs = [v])
    (hr : OpensA P ts β S c) : OpensA P (t :: ts) (α × β) (fun w vs x => ∃ v r, vs = v :: r ∧ R w [v] x.1 ∧ S w r x.2) (fun x => b x.1 + c x.2) := by
  intro H enc W vs ds ps base hv hd hw
  match vs, ds, hd with
  | v :: vs, d :: ds, ⟨p, q, k1, k2, k3⟩ =>
    simp only [DataW.weightsEach, List.all_append, Bool.and_eq_true] at hw
    obtain ⟨a, e1, e2⟩ := open_one h hs h1 (hv 0 t v rfl rfl) k1 hw.1
    obtain ⟨a', e3, e4⟩ := hr enc W vs ds q base (fun j t v g1 g2 => hv (j + 1) t v g1 g2) k2 hw.2
    exact ⟨(a, a'), ⟨v, vs, rfl, e1, e3⟩, by simp only [Rows.uptoBulkAll]; omega⟩
end
section
variable {H : Type} {enc : TypeId × Value → H}
end
end Sh
end Go.Proofs.YtongpnolikkknaaGreatDoor

namespace Go.Proofs.YtongpnolikkknaaGreatDoor
namespace Sh
open RowKit ChangeShapes
def litV : DataW Unit → Value
  | .lit (.int k n) => .int k n
  | _ => .string ⟨#[]⟩
def flat1 : DataW Unit → List Value
  | .agg l => l.map litV
  | d => [litV d]
def flat2 : DataW Unit → List Value
  | .agg l => l.flatMap flat1
  | d => [litV d]
def putC (cs : List Value) : Obj → Obj
  | .cells _ t fr => .cells cs.toArray t fr
  | o => o
/-- the world in which a row's listed variables read as listed -/
noncomputable def laidW (P : Program) (l : List (String × DataW Unit)) (os : Os) : World :=
  { World.holding P os ⟨#[], #[], []⟩ with heap := l.foldl (fun h x => h.modify ((P.globalNamed x.1).getD 0) (putC (flat2 x.2))) (World.holding P os ⟨#[], #[], []⟩).heap }
section
variable {H : Type} {enc : TypeId × Value → H}
theorem law_from_laid {C : Checked} {os : Os} {f : FuncId} {fn : Func} {s : ChangeSpec} {conds : List PathCond} {X : World → Array Value → Prop} {tb : TypeId} {α : Type} {R : World → List Value → α → Prop} {b : α → Nat}
    (hX : ∀ (w w' : World) (args : Array Value), w.heap = w'.heap → X w args → X w' args)
    (own : ownKnob C.prog.godebug = none) (started : os.Started) (noInit : C.prog.inits.idxOf? f = none) (hfn : C.prog.funcs[f]? = some fn)
    (witness : ∃ (w : World) (tape : Tape) (i : Input), w.os = os ∧ (w.forCall tape i).Shaped C.prog ∧ i.vars = [] ∧ Input.okWide C.prog (w.forCall tape i) .any w.heap.size f i ∧
      ((s.pre enc C.prog fn conds false (w.forCall tape i).memory i.args ∧ X (w.forCall tape i).memory i.args) ∧ sizedMet enc C.prog fn (OpenSpec.ofChange s) false (w.forCall tape i).memory i.args) ∧ ({} : Assume).holds C.prog (lone (Frame.enter C.prog f i.args .normal) [] (w.forCall tape i)))
    (hv : s.vars = []) (hl : laidOutB C.prog = true) (hp : fn.params.toList.all (fun t => C.prog.readableRec t && decide (t < C.prog.types.size)) = true) (hr : fn.resultTypes = #[tb]) (hb : C.prog.underlying tb = some .bool)
    (hs : ∀ ds : List (DataW H), ds.length = fn.params.toList.length → (s.fn H ds).results = [.lit (.bool true)] ∧ (s.fn H ds).args = ds ∧ (s.fn H ds).vars = [])
    (oa : OpensA C.prog fn.params.toList α R b)
    (law : ∀ (W : World) (vs : List Value) (a : α), R W vs a → Calls C.prog f vs.toArray W (Rt fun v W' => v = .bool true ∧ Below W.heap.size W W')) :
    ReturnsInHanded {} C os f .any (fun w args => (s.pre enc C.prog fn conds false w args ∧ X w args) ∧ sizedMet enc C.prog fn (OpenSpec.ofChange s) false w args) (s.post enc C.prog fn false true false false) := by
  refine returnsInHanded_of_change_and (C := C) hX own started noInit hfn witness ?_
  intro W base args ds gs before hval hW _ hz _ _
  have hp' : ∀ t ∈ fn.params.toList, C.prog.readableRec t = true ∧ t < C.prog.types.size := fun t ht => by
    have := List.all_eq_true.1 hp t ht
    simpa using this
  have hW0 : DataW.Whole enc C.prog fn.params.toList s.vars false W args.toList ds gs before := hW
  obtain ⟨p, q, hA, hV, hq⟩ := hW
  have hg : gs = [] := by
    have hV : DataW.TrodVars enc C.prog W (fun _ => true) s.vars gs q := hV
    rw [hv] at hV
    cases gs with
    | nil => rfl
    | cons g gs => exact hV.elim
  subst hg
  have hvt : s.plain.varTypes C.prog = [] := by simp [ChangeSpec.plain, DataSpec.varTypes, hv]
  rw [hvt, List.append_nil, List.append_nil] at hz
  obtain ⟨a, h1, h2⟩ := oa enc W args.toList ds p base (fun j t v h1 h2 => hval j t v (by simpa using h1) (by simpa using h2)) hA hz
  refine (law W args.toList a h1).mono fun e W' he => ?_
  cases e with
  | returned v =>
    obtain ⟨hv', hbel⟩ := he
    subst hv'
    exact ⟨_, rfl, law_post hv hl hp' hr hb hs hW0 hbel⟩
  | panicked c => exact he.elim
  | outgrown => exact he.elim
end
end Sh
open Sh
theorem own : ownKnob Tryz.prog.godebug = none := by kernel_rfl
set_option maxRecDepth 1000000
theorem laidW_met (os : Os) (args : Array Value) : laidMet Tryz.prog Rows.spaceTakesRow.laid ((laidW Tryz.prog Rows.spaceTakesRow.laid os).forCall (fun _ _ => 0) ⟨#[], args, []⟩).memory :=
  laidMet_of_run' 8 (by kernel_rfl) (by kernel_rfl)
theorem laidW_metH (os : Os) (args : Array Value) : laidMetH Tryz.prog Rows.spaceTakesRow.laid ((laidW Tryz.prog Rows.spaceTakesRow.laid os).forCall (fun _ _ => 0) ⟨#[], args, []⟩).memory :=
  laidMetH_of_parts (laidW_met os args) (by kernel_rfl)
theorem no_stand {P : Program} {fn : Func} (h : fn.params.toList.all (fun t => !(P.wantsStandIn t)) = true) (j : Nat) (t : TypeId) (ht : fn.params[j]? = some t) : P.wantsStandIn t = false := by
  have := List.all_eq_true.1 h t (by rw [← Array.getElem?_toList] at ht; exact List.mem_of_getElem? ht)
  simpa using this
end Go.Proofs.YtongpnolikkknaaGreatDoor

namespace Go.Proofs.YtongpnolikkknaaGreatDoor
open Sh RowKit Go.MapKept
theorem ui : Tryz.prog.underlying 3 = some (.int .i64) := by kernel_rfl
theorem scI : isSc Tryz.prog 3 = true := by kernel_rfl
theorem one_cell {x y : Value} (h : [x] = [y]) : x = y := (List.cons.inj h).1
end Go.Proofs.YtongpnolikkknaaGreatDoor

namespace Go.Proofs.YtongpnolikkknaaGreatDoor
namespace Sh
open RowKit ChangeShapes
section
variable {H : Type} {enc : TypeId × Value → H}
end
end Sh
end Go.Proofs.YtongpnolikkknaaGreatDoor

set_option maxRecDepth 20000
namespace Go.Proofs.YtongpnolikkknaaGreatDoor
open Sh RowKit Go.MapKept
theorem build60 (g k l m : Nat) (w : World) : (Instr.build 130 #[(0, .slice (some ⟨g, 0, none⟩) k l), (1, .map (some m)), (3, .int .i64 4611686018427387904)]).run Tryz.prog w = .ok (.agg #[.slice (some ⟨g, 0, none⟩) k l, .map (some m), .int .i64 0, .int .i64 4611686018427387904]) w := by
  kernel_rfl
theorem sla_all {n g : Nat} {w : World} {K : Value → M} {Q : Value → World → Prop} (h0 : n ≠ 0) (k : K (.slice (some ⟨g, 0, none⟩) n n) w Q) : sla n 1 (.pointer (some ⟨g, 0, none⟩)) none none K w Q := by
  refine ⟨⟨g, 0, none⟩, 0, n, rfl, rfl, rfl, ?_⟩
  rw [if_neg h0]
  exact k
theorem box_rd {w : World} {g : Nat} {x : Sct} {t : TypeId} {fr : Nat × Nat} (h : w.heap[g]? = some (.cells (encS x).toArray t fr)) : rdI .u8 w (.slice (some ⟨g, 0, none⟩) 64 64) (byL x.1) := by
  have hl : (byL x.1).length = 64 := by rw [byL_len, x.2]
  refine ⟨some ⟨g, 0, none⟩, 64, by rw [hl], fun i hi => ⟨_, rfl, ?_⟩⟩
  rw [add_lit, Nat.zero_add, cell_of_blk h]
  simp [encS, hi]
section
variable {B : Nat} {w : World} {p b : Nat} {v : Value} {D : Dv} {Q : Value → World → Prop}
theorem at_lt {i : Int} {x : Sec} (h : D.at i = some x) : 0 ≤ i ∧ i < D.A.length ∧ D.A[i.toNat]? = some x := by
  unfold Dv.at at h
  split at h
  · rename_i c
    have := (List.getElem?_eq_some_iff.1 h).1
    exact ⟨c, by omega, h⟩
  · cases h
theorem at_some {i : Int} (h0 : 0 ≤ i) (h1 : i < D.A.length) : ∃ x, D.at i = some x := by
  unfold Dv.at
  rw [if_pos h0]
  exact ⟨_, List.getElem?_eq_getElem (by omega)⟩
theorem at_none {i : Int} (h : i < 0 ∨ (D.A.length : Int) ≤ i) : D.at i = none := by
  unfold Dv.at
  split
  · exact List.getElem?_eq_none (by omega)
  · rfl
/-- what the map says -/
theorem lk_dev {L : List (Int × Sct)} (hm : MapAt kI w b (L.map fun q => (q.1, .agg (encS q.2).toArray))) (hl : ∀ i x, (i, x) ∈ L ↔ (D.at i).bind (·.u) = some x) (i : Int) :
    lk (L.map fun q => (q.1, Value.agg (encS q.2).toArray)) i = ((D.at i).bind (·.u)).map fun x => .agg (encS x).toArray := by
  cases h : (D.at i).bind (·.u) with
  | none =>
    rw [Option.map_none, lk_none]
    intro q hq e
    obtain ⟨a, ha, rfl⟩ := List.mem_map.1 hq
    have := (hl a.1 a.2).1 ha
    simp only at e
    rw [e, h] at this
    cases this
  | some x =>
    rw [Option.map_some]
    exact mem_lk hm.nodup (List.mem_map.2 ⟨(i, x), (hl i x).2 h, rfl⟩)
theorem f86_j {g : Nat} {x : Sct} {t : TypeId} {fr : Nat × Nat} (h : w.heap[g]? = some (.cells (encS x).toArray t fr)) (k : Q (.string x.1) w) : f86_j1 (pv g) w Q := by
  unfold f86_j1
  refine sla_all (by decide) ?_
  refine cvb sl61 ud5 str9 (box_rd h) ?_
  rw [son_byL]
  exact k
theorem f86_s (hd : DevAt B w p v b D) (i : Int) (h : ∀ w', Below w.heap.size w w' → Q (.string (D.rd i)) w') : f86 (pv p) (.int .i64 i) w Q := by
  unfold f86
  have c0 := hd.c0
  have c1 := hd.c1
  obtain ⟨a, cp, hv⟩ := hd.len
  obtain ⟨L, hm, hl⟩ := hd.mp
  rw [pn_eq pt23]
  by_cases h0 : i < 0
  · simp only [↓reduceIte, ↓LL, LM, Value.cells, Nat.reduceAdd, Option.some.injEq, exists_eq_left', decide_true, decide_false, if_true, if_false, reduceCtorEq, cond_true, cond_false, Option.isNone, h0]
    have e : D.rd i = ⟨#[]⟩ := by unfold Dv.rd; rw [at_none (.inl h0)]; rfl
    rw [← e]; exact h w (Below.refl _ w)
  · by_cases hi : (D.A.length : Int) ≤ i
    · rw [hv] at c0
      simp only [↓reduceIte, ↓LL, LM, Value.cells, Nat.reduceAdd, Option.some.injEq, exists_eq_left', decide_true, decide_false, if_true, if_false, reduceCtorEq, cond_true, cond_false, Option.isNone, h0, c0, hi]
      have e : D.rd i = ⟨#[]⟩ := by unfold Dv.rd; rw [at_none (.inr hi)]; rfl
      rw [← e]; exact h w (Below.refl _ w)
    · obtain ⟨x, hx⟩ := at_some (D := D) (i := i) (by omega) (by omega)
      have hr : D.rd i = x.now.1 := by unfold Dv.rd; rw [hx]; rfl
      rw [hr] at h
      have c0' := c0
      rw [hv] at c0'
      simp only [↓reduceIte, ↓LL, LM, Value.cells, Nat.reduceAdd, Option.some.injEq, exists_eq_left', decide_true, decide_false, if_true, if_false, reduceCtorEq, cond_true, cond_false, Option.isNone, h0, c0', hi, c1]
      refine Eq.mpr (look_ok (kv := kI) KK hm z63 i) ?_
      rw [lk_dev hm hl, hx]
      obtain ⟨n, rfl⟩ := Int.eq_ofNat_of_zero_le (show 0 ≤ i by omega)
      have hn : n < D.A.length := by omega
      have hxn : D.A[n] = x := by
        have := (at_lt hx).2.2
        rw [Int.toNat_natCast, List.getElem?_eq_getElem hn] at this
        exact Option.some.inj this
      have hb1 := b_psh w (.cells (Array.replicate 64 (.int .u8 0)) 145)
      have blk := blk_psh_new (w := w) (o := .cells (Array.replicate 64 (.int .u8 0)) 145)
      cases hu : x.u with
      | none =>
        simp only [↓reduceIte, ↓LL, LM, Value.cells, Nat.reduceAdd, Option.some.injEq, exists_eq_left', decide_true, decide_false, if_true, if_false, reduceCtorEq, cond_true, cond_false, Option.bind_some, hu, Option.map_none, Option.getD_none, Option.isSome_none]
        refine stn_box blk (by simp) (by simp) (by intro v hv; simp at hv; rw [hv]; rfl) fun w2 h2 hu2 => ?_
        have hb2 : Below w.heap.size w w2 := hb1.trans (hu2.below (Nat.le_refl _))
        have d2 := hd.below hb2
        have e0 := d2.c0
        obtain ⟨ad, es, he1, he2, he3, hia⟩ := rdS_at (ownE_rd encS_len (by decide) d2.own) (i := n) (by rw [List.length_map]; exact hn)
        simp only [↓reduceIte, ↓LL, LM, Value.cells, Nat.reduceAdd, Option.some.injEq, exists_eq_left', decide_true, decide_false, if_true, if_false, reduceCtorEq, cond_true, cond_false, e0, hia]
        refine ldn_at he2 he1 ?_
        have he3 : es = encS x.s := by rw [he3, List.getElem_map, hxn]
        rw [he3]
        refine stn_box h2 (by simp) (by simp [encS_len]) (by simpa using encS_one x.s) fun w3 h3 hu3 => ?_
        try simp only [↓reduceIte, ↓LL, LM, Value.cells, Nat.reduceAdd, Option.some.injEq, exists_eq_left', decide_true, decide_false, if_true, if_false, reduceCtorEq, cond_true, cond_false]
        refine f86_j h3 ?_
        have : x.now = x.s := by unfold Sec.now; rw [hu]; rfl
        rw [this] at h
        exact h w3 (hb2.trans (hu3.below (Nat.le_refl _)))
      | some y =>
        simp only [↓reduceIte, ↓LL, LM, Value.cells, Nat.reduceAdd, Option.some.injEq, exists_eq_left', decide_true, decide_false, if_true, if_false, reduceCtorEq, cond_true, cond_false, Option.bind_some, hu, Option.map_some, Option.getD_some, Option.isSome_some]
        refine stn_box blk (by simp) (by simp [encS_len]) (by simpa using encS_one y) fun w2 h2 hu2 => ?_
        have hb2 : Below w.heap.size w w2 := hb1.trans (hu2.below (Nat.le_refl _))
        try simp only [↓reduceIte, ↓LL, LM, Value.cells, Nat.reduceAdd, Option.some.injEq, exists_eq_left', decide_true, decide_false, if_true, if_false, reduceCtorEq, cond_true, cond_false]
        refine f86_j h2 ?_
        have : x.now = y := by unfold Sec.now; rw [hu]; rfl
        rw [this] at h
        exact h w2 hb2
/-- a new device -/
theorem f38_s (n : Int) {k : Nat} (hk : ((k : Nat) : Int) = min (max n 0) 4096) (hB : B ≤ w.heap.size) (h : ∀ w' p v b, w.heap.size ≤ p → w.heap.size ≤ b → DevAt B w' p v b (newD k) → (∀ x, fpD p v b x → w.heap.size ≤ x) → Below w.heap.size w w' → Q (pv p) w') : f38 (.int .i64 n) w Q := by
  unfold f38
  simp only [↓reduceIte, ↓LL, LM, Value.cells, Nat.reduceAdd, Option.some.injEq, exists_eq_left', decide_true, decide_false, if_true, if_false, reduceCtorEq, cond_true, cond_false]
  have e : (if (4096 : Int) < (if n < 0 then 0 else n) then 4096 else (if n < 0 then 0 else n)) = ((k : Nat) : Int) := by omega
  rw [e]
  have hk2 : k ≤ 4096 := by omega
  refine mkE (enc := encS) (x := pad ⟨#[]⟩) (B := w.heap.size) sl57 rfl (by decide) encS_nil (by omega) (by omega) (Nat.le_refl _) fun w1 v1 hv1 ho hb1 => ?_
  subst hv1
  try simp only [↓reduceIte, ↓LL, LM, Value.cells, Nat.reduceAdd, Option.some.injEq, exists_eq_left', decide_true, decide_false, if_true, if_false, reduceCtorEq, cond_true, cond_false]
  refine mm_map (kv := kI) fun w2 hm hb2 => ?_
  try simp only [↓reduceIte, ↓LL, LM, Value.cells, Nat.reduceAdd, Option.some.injEq, exists_eq_left', decide_true, decide_false, if_true, if_false, reduceCtorEq, cond_true, cond_false]
  rw [smr_run (build60 _ _ _ _ w2)]
  simp only [↓reduceIte, ↓LL, LM, Value.cells, Nat.reduceAdd, Option.some.injEq, exists_eq_left', decide_true, decide_false, if_true, if_false, reduceCtorEq, cond_true, cond_false]
  have b12 := bt hb1 hb2
  have b3 := b_psh w2 (.cells #[.slice (some ⟨w.heap.size, 0, none⟩) k k, .map (some w1.heap.size), .int .i64 0, .int .i64 4611686018427387904] 130)
  refine h _ _ _ _ b12.size hb1.size ⟨Nat.le_trans hB b12.size, Nat.le_trans hB hb1.size, ?_, blk_psh_new, ?_, [], hm.below b3, fun i x => ?_⟩ ?_ (bt b12 b3)
  · simpa [newD] using hk2
  · have := ownE_below (ownE_below ho hb2) b3
    have e2 : (newD k).A.map (·.s) = List.replicate k (pad ⟨#[]⟩) := by simp [newD]
    rw [e2]
    exact ownE_weak this hB
  · have : ((newD k).at i).bind (·.u) = none := by
      unfold Dv.at newD
      split
      · simp only [List.getElem?_replicate]
        split <;> rfl
      · rfl
    rw [this]
    simp
  · rintro x (rfl | rfl | hx)
    · exact b12.size
    · exact hb1.size
    · cases hx; exact Nat.le_refl _
end
end Go.Proofs.YtongpnolikkknaaGreatDoor

set_option maxRecDepth 20000
namespace Go.Proofs.YtongpnolikkknaaGreatDoor
open Sh RowKit Go.MapKept
def putS (L : List (Int × Sct)) (k : Int) (v : Sct) : List (Int × Sct) := if k ∈ L.map (·.1) then L.map (fun p => if p.1 = k then (k, v) else p) else L ++ [(k, v)]
theorem put_map (L : List (Int × Sct)) (k : Int) (v : Sct) : put (L.map fun q => (q.1, Value.agg (encS q.2).toArray)) k (.agg (encS v).toArray) = (putS L k v).map fun q => (q.1, Value.agg (encS q.2).toArray) := by
  unfold put putS
  have e : (L.map fun q => (q.1, Value.agg (encS q.2).toArray)).map (·.1) = L.map (·.1) := by rw [List.map_map]; rfl
  rw [e]
  split
  · rw [List.map_map, List.map_map]
    refine List.map_congr_left fun q _ => ?_
    simp only [Function.comp]
    split <;> rfl
  · rw [List.map_append]; rfl
theorem putS_mem {L : List (Int × Sct)} {k : Int} {v : Sct} (i : Int) (x : Sct) : (i, x) ∈ putS L k v ↔ if i = k then x = v else (i, x) ∈ L := by
  unfold putS
  split
  · rename_i c
    obtain ⟨q, hq, rfl⟩ := List.mem_map.1 c
    rw [List.mem_map]
    split
    · rename_i e
      subst e
      constructor
      · rintro ⟨r, hr, e⟩
        split at e
        · cases e; rfl
        · rename_i h; exact absurd (by rw [e]) h
      · rintro rfl
        exact ⟨q, hq, by simp⟩
    · rename_i e
      constructor
      · rintro ⟨r, hr, e'⟩
        split at e'
        · cases e'; exact absurd rfl e
        · rw [← e']; exact hr
      · intro h
        exact ⟨(i, x), h, by simp [e]⟩
  · rename_i c
    rw [List.mem_append, List.mem_singleton]
    split
    · rename_i e
      subst e
      constructor
      · rintro (h | h)
        · exact absurd (List.mem_map.2 ⟨_, h, rfl⟩) c
        · cases h; rfl
      · rintro rfl; exact .inr rfl
    · rename_i e
      constructor
      · rintro (h | h)
        · exact h
        · cases h; exact absurd rfl e
      · exact .inl
section
variable {B : Nat} {w : World} {p b : Nat} {v : Value} {D : Dv} {Q : Value → World → Prop}
theorem at_set {i : Int} {x y : Sec} (h : D.at i = some x) (j : Int) : (D.set i.toNat y).at j = if j = i then some y else D.at j := by
  obtain ⟨h0, h1, h2⟩ := at_lt h
  unfold Dv.at Dv.set
  simp only [List.getElem?_set]
  by_cases c : j = i
  · subst c
    have : j.toNat < D.A.length := by omega
    simp [h0, this]
  · rw [if_neg c]
    by_cases hj : 0 ≤ j
    · have : ¬ i.toNat = j.toNat := by omega
      simp [hj, this]
    · simp [hj]
theorem set_s {i : Int} {x : Sec} (h : D.at i = some x) (u : Option Sct) : ((D.set i.toNat ⟨x.s, u⟩).A.map (·.s)) = D.A.map (·.s) := by
  obtain ⟨h0, h1, h2⟩ := at_lt h
  unfold Dv.set
  rw [List.map_set]
  apply List.ext_getElem?
  intro j
  rw [List.getElem?_set]
  split
  · rename_i e
    subst e
    rw [List.length_map, if_pos (by omega), List.getElem?_map, h2]
    rfl
  · rfl
/-- what isn't sure stored in the map -/
theorem DevAt.put {w' : World} {i : Int} {x : Sec} {y : Sct} (hd : DevAt B w p v b D) (hx : D.at i = some x) {L : List (Int × Sct)} (hl : ∀ i x, (i, x) ∈ L ↔ (D.at i).bind (·.u) = some x)
    (hm : MapAt kI w' b (put (L.map fun q => (q.1, Value.agg (encS q.2).toArray)) i (.agg (encS y).toArray))) (hu : Upd b w w') : DevAt B w' p v b (D.set i.toNat ⟨x.s, some y⟩) := by
  refine ⟨hd.pB, hd.bB, by simpa [Dv.set] using hd.n, ?_, ?_, putS L i y, by rw [← put_map]; exact hm, fun j z => ?_⟩
  · rw [hu.block p hd.pb]; exact hd.hp
  · rw [set_s hx]; exact ownE_stay hd.own (fun g hg => hu.block g (hd.gblk g hg).2.1)
  · rw [putS_mem, at_set hx]
    split
    · simp [eq_comm]
    · exact hl j z
theorem f150_s (hd : DevAt B w p v b D) (h0 : 0 ≤ D.c) (h1 : D.c ≤ 1000000) (i : Int) (s : ByteArray) (h : ∀ w', DevAt B w' p v b (D.wr i s).2 → ChgS (fpD p v b) w w' → Q (.int .i64 (D.wr i s).1) w') : f150 (pv p) (.int .i64 i) (.string s) w Q := by
  unfold f150
  simp only [↓reduceIte, ↓LL, LM, Value.cells, Nat.reduceAdd, Option.some.injEq, exists_eq_left', decide_true, decide_false, if_true, if_false, reduceCtorEq, cond_true, cond_false]
  refine f145_s hd h0 h1 fun w1 d1 hu1 => ?_
  have ch1 : ChgS (fpD p v b) w w1 := ChgS.of_upd hu1 (.inl rfl)
  by_cases ch : D.h < D.c + 1
  · simp only [↓reduceIte, ↓LL, LM, Value.cells, Nat.reduceAdd, Option.some.injEq, exists_eq_left', decide_true, decide_false, if_true, if_false, reduceCtorEq, cond_true, cond_false, ch, if_true]
    have e : D.wr i s = (9, D.tick) := by unfold Dv.wr; rw [if_pos ch]
    rw [e] at h
    exact h w1 d1 ch1
  have c0 := d1.c0
  obtain ⟨a, cp, hv⟩ := d1.len
  have c0' := c0
  rw [hv] at c0'
  have eA : D.tick.A = D.A := rfl
  rw [eA] at c0'
  by_cases hi0 : i < 0
  · have e : D.wr i s = (7, D.tick) := by unfold Dv.wr; rw [if_neg ch, at_none (.inl hi0)]
    rw [e] at h
    simp only [↓reduceIte, ↓LL, LM, Value.cells, Nat.reduceAdd, Option.some.injEq, exists_eq_left', decide_true, decide_false, if_true, if_false, reduceCtorEq, cond_true, cond_false, ch, if_false, hi0]
    exact h w1 d1 ch1
  by_cases hi1 : (D.A.length : Int) ≤ i
  · have e : D.wr i s = (7, D.tick) := by unfold Dv.wr; rw [if_neg ch, at_none (.inr hi1)]
    rw [e] at h
    simp only [↓reduceIte, ↓LL, LM, Value.cells, Nat.reduceAdd, Option.some.injEq, exists_eq_left', decide_true, decide_false, if_true, if_false, reduceCtorEq, cond_true, cond_false, ch, if_false, hi0, c0', hi1]
    exact h w1 d1 ch1
  obtain ⟨x, hx⟩ := at_some (D := D) (i := i) (by omega) (by omega)
  by_cases hs : 64 < s.size
  · have e : D.wr i s = (3, D.tick) := by unfold Dv.wr; rw [if_neg ch, hx]; simp only [hs, if_true]
    rw [e] at h
    have hs' : (64 : Int) < s.size := by omega
    simp only [↓reduceIte, ↓LL, LM, Value.cells, Nat.reduceAdd, Option.some.injEq, exists_eq_left', decide_true, decide_false, if_true, if_false, reduceCtorEq, cond_true, cond_false, ch, if_false, hi0, c0', hi1, hs']
    exact h w1 d1 ch1
  have e : D.wr i s = (0, D.tick.set i.toNat ⟨x.s, some (pad s)⟩) := by unfold Dv.wr; rw [if_neg ch, hx]; simp only [hs, if_false]
  rw [e] at h
  have hs' : ¬ (64 : Int) < s.size := by omega
  simp only [↓reduceIte, ↓LL, LM, Value.cells, Nat.reduceAdd, Option.some.injEq, exists_eq_left', decide_true, decide_false, if_true, if_false, reduceCtorEq, cond_true, cond_false, ch, if_false, hi0, c0', hi1, hs']
  have b2 := b_psh w1 (.cells (Array.replicate 64 (.int .u8 0)) 145)
  have blk := blk_psh_new (w := w1) (o := .cells (Array.replicate 64 (.int .u8 0)) 145)
  refine sla_all (by decide) ?_
  have hr := run_copy_str (P := Tryz.prog) (dT := 42) (sT := 9) (ty := 3) (o := 0) (dLen := 64) (dCap := 64) (s := s) Tryz.underlying42 (by kernel_rfl) blk (by omega) (by simp; omega)
  refine ⟨_, _, hr, ?_⟩
  obtain ⟨u3, hb3⟩ := Upd_setRow (cs := (ovl (Array.replicate 64 (Value.int .u8 0)).toList 0 ((byL s).map (.int .u8))).toArray) blk
  have eo : ovl (Array.replicate 64 (Value.int .u8 0)).toList 0 ((byL s).map (.int .u8)) = encS (pad s) := by
    rw [encS_pad]
    unfold ovl padL
    have e64 : (byL s).take 64 = byL s := List.take_of_length_le (by rw [byL_len]; omega)
    rw [List.length_map, byL_len, e64, Array.toList_replicate, List.take_zero, List.nil_append, Nat.zero_add, List.drop_replicate, List.map_append, List.map_replicate]
  rw [eo] at u3 hb3 ⊢
  generalize hw3 : (psh w1 (.cells (Array.replicate 64 (.int .u8 0)) 145)).setRow w1.heap.size (encS (pad s)).toArray = w3 at *
  have b3 : Below w1.heap.size w1 w3 := b2.trans (u3.below (Nat.le_refl _))
  have d3 := d1.below b3
  have k1 : (drw w3).cell? ⟨p, 1, none⟩ = _ := d3.c1
  simp only [↓reduceIte, ↓LL, LM, Value.cells, Nat.reduceAdd, Option.some.injEq, exists_eq_left', decide_true, decide_false, if_true, if_false, reduceCtorEq, cond_true, cond_false, k1]
  refine ldn_box (show (drw w3).heap[_]? = _ from hb3) (by simp [encS_len]) ?_
  obtain ⟨L, hm, hl⟩ := d3.mp
  refine upd_map (kv := kI) KK (show MapAt kI (drw w3) b _ from hm) i _ fun w4 hm4 hu4 => ?_
  simp only [↓reduceIte, ↓LL, LM, Value.cells, Nat.reduceAdd, Option.some.injEq, exists_eq_left', decide_true, decide_false, if_true, if_false, reduceCtorEq, cond_true, cond_false]
  refine h w4 (d3.drw.put (D := D.tick) hx hl hm4 hu4) ?_
  refine ch1.trans (T := fpD p v b) (ChgS.of_below b3 |>.trans ((ChgS.refl (fpD p v b) w3).drw |>.trans (ChgS.of_upd hu4 (.inr (.inl rfl))) (fun _ _ h => h)) (fun _ _ h => h)) (fun _ _ h => h)
end
end Go.Proofs.YtongpnolikkknaaGreatDoor
