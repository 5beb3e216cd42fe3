/- What the tables of types say, by program. -/
import Derived.Test.YtoeimnflikbdbaaProg
import Derived.Test.YtoeimnflikbdbaaSh10
set_option linter.unusedVariables false
set_option maxRecDepth 20000
set_option maxHeartbeats 4000000
namespace Go.Proofs.Ytoeimnflikbdbaa
open Sh
attribute [local irreducible] wpL anyG act jn lo gdB amb kp smr nc fa ld ldn st stn ad su mu qu re lt le gt ge eqi nei bws shl shr cat eqs nes lts gts eqb neb nt pk cv al bx ex fld fldn lnl lns ia iaa ixs sls sll sla mif mnm mxm mm asrt sm smu cl cc cf ci cnd gd gdu
theorem ag23 : isAg Try.prog 23 4 = true := by kernel_rfl
theorem ag29 : isAg Try.prog 29 4 = true := by kernel_rfl
theorem ai2 : (match Program.underlying Try.prog 2 with | some (.int _) => true | _ => false) = true := by kernel_rfl
theorem ai3 : (match Program.underlying Try.prog 3 with | some (.int _) => true | _ => false) = true := by kernel_rfl
theorem ai34 : (match Program.underlying Try.prog 34 with | some (.int _) => true | _ => false) = true := by kernel_rfl
theorem ai5 : (match Program.underlying Try.prog 5 with | some (.int _) => true | _ => false) = true := by kernel_rfl
theorem bo4 : isBool Try.prog 4 = true := by kernel_rfl
theorem fo23_0 : fOff Try.prog 23 0 0 = true := by kernel_rfl
theorem fo23_1 : fOff Try.prog 23 1 1 = true := by kernel_rfl
theorem fo23_2 : fOff Try.prog 23 2 2 = true := by kernel_rfl
theorem fo23_3 : fOff Try.prog 23 3 3 = true := by kernel_rfl
theorem fo29_0 : fOff Try.prog 29 0 0 = true := by kernel_rfl
theorem fo29_1 : fOff Try.prog 29 1 1 = true := by kernel_rfl
theorem fo29_2 : fOff Try.prog 29 2 2 = true := by kernel_rfl
theorem fo29_3 : fOff Try.prog 29 3 3 = true := by kernel_rfl
theorem in2 : isInt Try.prog 2 .i64 = true := by kernel_rfl
theorem in34 : isInt Try.prog 34 .u64 = true := by kernel_rfl
theorem is25 : isSl Try.prog 25 = true := by kernel_rfl
theorem is46 : isSl Try.prog 46 = true := by kernel_rfl
theorem on2 : isOne Try.prog 2 = true := by kernel_rfl
theorem sc2 : isSc Try.prog 2 = true := by kernel_rfl
theorem sc3 : isSc Try.prog 3 = true := by kernel_rfl
theorem sc5 : isSc Try.prog 5 = true := by kernel_rfl
theorem se25 : slE Try.prog 25 1 = true := by kernel_rfl
theorem se46 : slE Try.prog 46 1 = true := by kernel_rfl
theorem st9 : isStr Try.prog 9 = true := by kernel_rfl
theorem ze29 : zeroIs Try.prog 29 (.agg #[(.int .i64 0), (.int .i64 0), (.int .i64 0), (.int .i64 0)]) := by unfold zeroIs; kernel_rfl
theorem slt25 : slT Try.prog 25 2 (.int .i64 0) 1 8 := ⟨by kernel_rfl, by kernel_rfl⟩
theorem slt46 : slT Try.prog 46 5 (.int .u8 0) 1 1 := ⟨by kernel_rfl, by kernel_rfl⟩
theorem nn7 : (Try.f7.name == "runtime.NumGoroutine") = false := by kernel_rfl
theorem nn8 : (Try.f8.name == "runtime.NumGoroutine") = false := by kernel_rfl
theorem nn9 : (Try.f9.name == "runtime.NumGoroutine") = false := by kernel_rfl
theorem nn10 : (Try.f10.name == "runtime.NumGoroutine") = false := by kernel_rfl
theorem nn11 : (Try.f11.name == "runtime.NumGoroutine") = false := by kernel_rfl
theorem nn12 : (Try.f12.name == "runtime.NumGoroutine") = false := by kernel_rfl
theorem nn13 : (Try.f13.name == "runtime.NumGoroutine") = false := by kernel_rfl
theorem nn14 : (Try.f14.name == "runtime.NumGoroutine") = false := by kernel_rfl
theorem nn15 : (Try.f15.name == "runtime.NumGoroutine") = false := by kernel_rfl
theorem nn16 : (Try.f16.name == "runtime.NumGoroutine") = false := by kernel_rfl
theorem nn17 : (Try.f17.name == "runtime.NumGoroutine") = false := by kernel_rfl
theorem nn18 : (Try.f18.name == "runtime.NumGoroutine") = false := by kernel_rfl
theorem nn19 : (Try.f19.name == "runtime.NumGoroutine") = false := by kernel_rfl
theorem nn20 : (Try.f20.name == "runtime.NumGoroutine") = false := by kernel_rfl
theorem nn21 : (Try.f21.name == "runtime.NumGoroutine") = false := by kernel_rfl
end Go.Proofs.Ytoeimnflikbdbaa
