/- What the tables of types say, by program. -/
import Derived.Test.YtnckcgpmidgggaaProg
import Derived.Test.YtnckcgpmidgggaaSh10
set_option linter.unusedVariables false
set_option maxRecDepth 20000
set_option maxHeartbeats 4000000
namespace Go.Proofs.Ytnckcgpmidgggaa
open Sh
attribute [local irreducible] wpL anyG act jn lo gdB amb kp smr nc fa ld ldn st stn ad su mu qu re lt le gt ge eqi nei bws shl shr cat eqs nes lts gts eqb neb nt pk cv al bx ex fld fldn lnl lns ia iaa ixs sls sll sla mif mnm mxm mm asrt sm smu cl cc cf ci cnd gd gdu
theorem ae41 : arE Try.prog 41 3 1 = true := by kernel_rfl
theorem ag23 : isAg Try.prog 23 2 = true := by kernel_rfl
theorem ag27 : isAg Try.prog 27 2 = true := by kernel_rfl
theorem ag58 : isAg Try.prog 58 3 = true := by kernel_rfl
theorem bo4 : isBool Try.prog 4 = true := by kernel_rfl
theorem co54 : isConc Try.prog 54 = true := by kernel_rfl
theorem fo23_0 : fOff Try.prog 23 0 0 = true := by kernel_rfl
theorem fo23_1 : fOff Try.prog 23 1 1 = true := by kernel_rfl
theorem fo27_0 : fOff Try.prog 27 0 0 = true := by kernel_rfl
theorem fo27_1 : fOff Try.prog 27 1 1 = true := by kernel_rfl
theorem fo58_0 : fOff Try.prog 58 0 0 = true := by kernel_rfl
theorem fo58_1 : fOff Try.prog 58 1 2 = true := by kernel_rfl
theorem is43 : isSl Try.prog 43 = true := by kernel_rfl
theorem is44 : isSl Try.prog 44 = true := by kernel_rfl
theorem is46 : isSl Try.prog 46 = true := by kernel_rfl
theorem is56 : isSl Try.prog 56 = true := by kernel_rfl
theorem on2 : isOne Try.prog 2 = true := by kernel_rfl
theorem on56 : isOne Try.prog 56 = true := by kernel_rfl
theorem sc2 : isSc Try.prog 2 = true := by kernel_rfl
theorem sc56 : isSc Try.prog 56 = true := by kernel_rfl
theorem se43 : slE Try.prog 43 2 = true := by kernel_rfl
theorem se44 : slE Try.prog 44 1 = true := by kernel_rfl
theorem se46 : slE Try.prog 46 2 = true := by kernel_rfl
theorem se56 : slE Try.prog 56 3 = true := by kernel_rfl
theorem ze27 : zeroIs Try.prog 27 (.agg #[(.int .i64 0), (.int .i64 0)]) := by unfold zeroIs; kernel_rfl
theorem slt43 : slT Try.prog 43 23 (.agg #[(.int .i64 0), (.int .i64 0)]) 2 16 := ⟨by kernel_rfl, by kernel_rfl⟩
theorem slt44 : slT Try.prog 44 2 (.int .i64 0) 1 8 := ⟨by kernel_rfl, by kernel_rfl⟩
theorem slt46 : slT Try.prog 46 27 (.agg #[(.int .i64 0), (.int .i64 0)]) 2 16 := ⟨by kernel_rfl, by kernel_rfl⟩
theorem slt55 : slT Try.prog 55 58 (.agg #[(.int .i64 0), (.int .i64 0), (.int .i64 0)]) 3 24 := ⟨by kernel_rfl, by kernel_rfl⟩
theorem slt56 : slT Try.prog 56 58 (.agg #[(.int .i64 0), (.int .i64 0), (.int .i64 0)]) 3 24 := ⟨by kernel_rfl, by kernel_rfl⟩
theorem nn7 : (Try.f7.name == "runtime.NumGoroutine") = false := by kernel_rfl
theorem nn8 : (Try.f8.name == "runtime.NumGoroutine") = false := by kernel_rfl
theorem nn9 : (Try.f9.name == "runtime.NumGoroutine") = false := by kernel_rfl
theorem nn10 : (Try.f10.name == "runtime.NumGoroutine") = false := by kernel_rfl
theorem nn11 : (Try.f11.name == "runtime.NumGoroutine") = false := by kernel_rfl
theorem nn12 : (Try.f12.name == "runtime.NumGoroutine") = false := by kernel_rfl
theorem nn13 : (Try.f13.name == "runtime.NumGoroutine") = false := by kernel_rfl
theorem nn14 : (Try.f14.name == "runtime.NumGoroutine") = false := by kernel_rfl
theorem nn15 : (Try.f15.name == "runtime.NumGoroutine") = false := by kernel_rfl
theorem nn16 : (Try.f16.name == "runtime.NumGoroutine") = false := by kernel_rfl
theorem nn17 : (Try.f17.name == "runtime.NumGoroutine") = false := by kernel_rfl
theorem nn18 : (Try.f18.name == "runtime.NumGoroutine") = false := by kernel_rfl
theorem nn19 : (Try.f19.name == "runtime.NumGoroutine") = false := by kernel_rfl
theorem nn20 : (Try.f20.name == "runtime.NumGoroutine") = false := by kernel_rfl
theorem nn21 : (Try.f21.name == "runtime.NumGoroutine") = false := by kernel_rfl
theorem nn22 : (Try.f22.name == "runtime.NumGoroutine") = false := by kernel_rfl
theorem nn23 : (Try.f23.name == "runtime.NumGoroutine") = false := by kernel_rfl
theorem nn24 : (Try.f24.name == "runtime.NumGoroutine") = false := by kernel_rfl
theorem nn25 : (Try.f25.name == "runtime.NumGoroutine") = false := by kernel_rfl
theorem nn26 : (Try.f26.name == "runtime.NumGoroutine") = false := by kernel_rfl
theorem nn27 : (Try.f27.name == "runtime.NumGoroutine") = false := by kernel_rfl
theorem nn28 : (Try.f28.name == "runtime.NumGoroutine") = false := by kernel_rfl
theorem nn29 : (Try.f29.name == "runtime.NumGoroutine") = false := by kernel_rfl
theorem nn30 : (Try.f30.name == "runtime.NumGoroutine") = false := by kernel_rfl
theorem nn31 : (Try.f31.name == "runtime.NumGoroutine") = false := by kernel_rfl
theorem nn32 : (Try.f32.name == "runtime.NumGoroutine") = false := by kernel_rfl
theorem nn33 : (Try.f33.name == "runtime.NumGoroutine") = false := by kernel_rfl
theorem nn34 : (Try.f34.name == "runtime.NumGoroutine") = false := by kernel_rfl
end Go.Proofs.Ytnckcgpmidgggaa
