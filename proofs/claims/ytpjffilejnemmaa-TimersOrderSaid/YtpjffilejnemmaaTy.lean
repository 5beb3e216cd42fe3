/- What the tables of types say, by program. -/
import Derived.Test.YtpjffilejnemmaaProg
import Derived.Test.YtpjffilejnemmaaSh10
set_option linter.unusedVariables false
set_option maxRecDepth 20000
set_option maxHeartbeats 4000000
namespace Go.Proofs.Ytpjffilejnemmaa
open Sh
attribute [local irreducible] wpL anyG act jn lo gdB amb kp smr nc fa ld ldn st stn ad su mu qu re lt le gt ge eqi nei bws shl shr cat eqs nes lts gts eqb neb nt pk cv al bx ex fld fldn lnl lns ia iaa ixs sls sll sla mif mnm mxm mm asrt sm smu cl cc cf ci cnd gd gdu
theorem ag28 : isAg Try.prog 28 3 = true := by kernel_rfl
theorem ai3 : (match Program.underlying Try.prog 3 with | some (.int _) => true | _ => false) = true := by kernel_rfl
theorem ai63 : (match Program.underlying Try.prog 63 with | some (.int _) => true | _ => false) = true := by kernel_rfl
theorem bo4 : isBool Try.prog 4 = true := by kernel_rfl
theorem co55 : isConc Try.prog 55 = true := by kernel_rfl
theorem co60 : isConc Try.prog 60 = true := by kernel_rfl
theorem fo28_0 : fOff Try.prog 28 0 0 = true := by kernel_rfl
theorem fo28_1 : fOff Try.prog 28 1 1 = true := by kernel_rfl
theorem fo28_2 : fOff Try.prog 28 2 2 = true := by kernel_rfl
theorem fo42_0 : fOff Try.prog 42 0 0 = true := by kernel_rfl
theorem fo45_0 : fOff Try.prog 45 0 0 = true := by kernel_rfl
theorem fo45_1 : fOff Try.prog 45 1 1 = true := by kernel_rfl
theorem fo54_0 : fOff Try.prog 54 0 0 = true := by kernel_rfl
theorem fo54_1 : fOff Try.prog 54 1 1 = true := by kernel_rfl
theorem fo58_0 : fOff Try.prog 58 0 0 = true := by kernel_rfl
theorem fo58_1 : fOff Try.prog 58 1 1 = true := by kernel_rfl
theorem fo58_2 : fOff Try.prog 58 2 2 = true := by kernel_rfl
theorem in3 : isInt Try.prog 3 .i64 = true := by kernel_rfl
theorem in63 : isInt Try.prog 63 .u64 = true := by kernel_rfl
theorem is22 : isSl Try.prog 22 = true := by kernel_rfl
theorem is32 : isSl Try.prog 32 = true := by kernel_rfl
theorem is40 : isSl Try.prog 40 = true := by kernel_rfl
theorem is52 : isSl Try.prog 52 = true := by kernel_rfl
theorem on2 : isOne Try.prog 2 = true := by kernel_rfl
theorem on3 : isOne Try.prog 3 = true := by kernel_rfl
theorem on40 : isOne Try.prog 40 = true := by kernel_rfl
theorem on52 : isOne Try.prog 52 = true := by kernel_rfl
theorem on55 : isOne Try.prog 55 = true := by kernel_rfl
theorem sc2 : isSc Try.prog 2 = true := by kernel_rfl
theorem sc3 : isSc Try.prog 3 = true := by kernel_rfl
theorem sc40 : isSc Try.prog 40 = true := by kernel_rfl
theorem sc50 : isSc Try.prog 50 = true := by kernel_rfl
theorem sc52 : isSc Try.prog 52 = true := by kernel_rfl
theorem sc55 : isSc Try.prog 55 = true := by kernel_rfl
theorem se22 : slE Try.prog 22 3 = true := by kernel_rfl
theorem se32 : slE Try.prog 32 1 = true := by kernel_rfl
theorem se36 : slE Try.prog 36 1 = true := by kernel_rfl
theorem se40 : slE Try.prog 40 2 = true := by kernel_rfl
theorem se52 : slE Try.prog 52 1 = true := by kernel_rfl
theorem ze28 : zeroIs Try.prog 28 (.agg #[(.int .i64 0), (.int .i64 0), (.int .i64 0)]) := by unfold zeroIs; kernel_rfl
theorem slt22 : slT Try.prog 22 28 (.agg #[(.int .i64 0), (.int .i64 0), (.int .i64 0)]) 3 24 := ⟨by kernel_rfl, by kernel_rfl⟩
theorem slt32 : slT Try.prog 32 3 (.int .i64 0) 1 8 := ⟨by kernel_rfl, by kernel_rfl⟩
theorem slt36 : slT Try.prog 36 2 (.int .i64 0) 1 8 := ⟨by kernel_rfl, by kernel_rfl⟩
theorem slt40 : slT Try.prog 40 45 (.agg #[(.int .i64 0), (.int .i64 0)]) 2 16 := ⟨by kernel_rfl, by kernel_rfl⟩
theorem slt51 : slT Try.prog 51 55 (.pointer none) 1 8 := ⟨by kernel_rfl, by kernel_rfl⟩
theorem slt52 : slT Try.prog 52 55 (.pointer none) 1 8 := ⟨by kernel_rfl, by kernel_rfl⟩
theorem nn7 : (Try.f7.name == "runtime.NumGoroutine") = false := by kernel_rfl
theorem nn8 : (Try.f8.name == "runtime.NumGoroutine") = false := by kernel_rfl
theorem nn9 : (Try.f9.name == "runtime.NumGoroutine") = false := by kernel_rfl
theorem nn10 : (Try.f10.name == "runtime.NumGoroutine") = false := by kernel_rfl
theorem nn11 : (Try.f11.name == "runtime.NumGoroutine") = false := by kernel_rfl
theorem nn12 : (Try.f12.name == "runtime.NumGoroutine") = false := by kernel_rfl
theorem nn13 : (Try.f13.name == "runtime.NumGoroutine") = false := by kernel_rfl
theorem nn14 : (Try.f14.name == "runtime.NumGoroutine") = false := by kernel_rfl
theorem nn15 : (Try.f15.name == "runtime.NumGoroutine") = false := by kernel_rfl
theorem nn16 : (Try.f16.name == "runtime.NumGoroutine") = false := by kernel_rfl
theorem nn17 : (Try.f17.name == "runtime.NumGoroutine") = false := by kernel_rfl
theorem nn18 : (Try.f18.name == "runtime.NumGoroutine") = false := by kernel_rfl
theorem nn19 : (Try.f19.name == "runtime.NumGoroutine") = false := by kernel_rfl
theorem nn20 : (Try.f20.name == "runtime.NumGoroutine") = false := by kernel_rfl
theorem nn21 : (Try.f21.name == "runtime.NumGoroutine") = false := by kernel_rfl
theorem nn22 : (Try.f22.name == "runtime.NumGoroutine") = false := by kernel_rfl
theorem nn23 : (Try.f23.name == "runtime.NumGoroutine") = false := by kernel_rfl
theorem nn24 : (Try.f24.name == "runtime.NumGoroutine") = false := by kernel_rfl
theorem nn25 : (Try.f25.name == "runtime.NumGoroutine") = false := by kernel_rfl
theorem nn26 : (Try.f26.name == "runtime.NumGoroutine") = false := by kernel_rfl
theorem nn27 : (Try.f27.name == "runtime.NumGoroutine") = false := by kernel_rfl
theorem nn47 : (Try.f47.name == "runtime.NumGoroutine") = false := by kernel_rfl
theorem nn48 : (Try.f48.name == "runtime.NumGoroutine") = false := by kernel_rfl
theorem nn49 : (Try.f49.name == "runtime.NumGoroutine") = false := by kernel_rfl
theorem nn50 : (Try.f50.name == "runtime.NumGoroutine") = false := by kernel_rfl
theorem nn51 : (Try.f51.name == "runtime.NumGoroutine") = false := by kernel_rfl
end Go.Proofs.Ytpjffilejnemmaa
