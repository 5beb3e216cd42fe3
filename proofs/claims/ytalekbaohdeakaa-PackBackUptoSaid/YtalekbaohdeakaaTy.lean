/- What the tables of types say, by program. -/
import Derived.Test.YtalekbaohdeakaaProg
import Derived.Test.YtalekbaohdeakaaSh10
set_option linter.unusedVariables false
set_option maxRecDepth 20000
set_option maxHeartbeats 4000000
namespace Go.Proofs.Ytalekbaohdeakaa
open Sh
attribute [local irreducible] wpL anyG act jn lo gdB amb kp smr nc fa ld ldn st stn ad su mu qu re lt le gt ge eqi nei bws shl shr cat eqs nes lts gts eqb neb nt pk cv al bx ex fld fldn lnl lns ia iaa ixs sls sll sla mif mnm mxm mm asrt sm smu cl cc cf ci cnd gd gdu
theorem ag25 : isAg Try.prog 25 4 = true := by kernel_rfl
theorem ai23 : (match Program.underlying Try.prog 23 with | some (.int _) => true | _ => false) = true := by kernel_rfl
theorem ai3 : (match Program.underlying Try.prog 3 with | some (.int _) => true | _ => false) = true := by kernel_rfl
theorem ai43 : (match Program.underlying Try.prog 43 with | some (.int _) => true | _ => false) = true := by kernel_rfl
theorem ai5 : (match Program.underlying Try.prog 5 with | some (.int _) => true | _ => false) = true := by kernel_rfl
theorem bo4 : isBool Try.prog 4 = true := by kernel_rfl
theorem fo25_0 : fOff Try.prog 25 0 0 = true := by kernel_rfl
theorem fo25_1 : fOff Try.prog 25 1 1 = true := by kernel_rfl
theorem fo25_2 : fOff Try.prog 25 2 2 = true := by kernel_rfl
theorem fo25_3 : fOff Try.prog 25 3 3 = true := by kernel_rfl
theorem fo47_0 : fOff Try.prog 47 0 0 = true := by kernel_rfl
theorem fo47_1 : fOff Try.prog 47 1 1 = true := by kernel_rfl
theorem fo47_2 : fOff Try.prog 47 2 2 = true := by kernel_rfl
theorem fo52_0 : fOff Try.prog 52 0 0 = true := by kernel_rfl
theorem fo52_1 : fOff Try.prog 52 1 1 = true := by kernel_rfl
theorem in23 : isInt Try.prog 23 .u64 = true := by kernel_rfl
theorem in3 : isInt Try.prog 3 .i64 = true := by kernel_rfl
theorem in43 : isInt Try.prog 43 .u64 = true := by kernel_rfl
theorem in5 : isInt Try.prog 5 .u8 = true := by kernel_rfl
theorem is22 : isSl Try.prog 22 = true := by kernel_rfl
theorem is34 : isSl Try.prog 34 = true := by kernel_rfl
theorem on3 : isOne Try.prog 3 = true := by kernel_rfl
theorem on40 : isOne Try.prog 40 = true := by kernel_rfl
theorem on5 : isOne Try.prog 5 = true := by kernel_rfl
theorem on9 : isOne Try.prog 9 = true := by kernel_rfl
theorem sc23 : isSc Try.prog 23 = true := by kernel_rfl
theorem sc3 : isSc Try.prog 3 = true := by kernel_rfl
theorem sc40 : isSc Try.prog 40 = true := by kernel_rfl
theorem sc5 : isSc Try.prog 5 = true := by kernel_rfl
theorem sc9 : isSc Try.prog 9 = true := by kernel_rfl
theorem se22 : slE Try.prog 22 1 = true := by kernel_rfl
theorem se34 : slE Try.prog 34 4 = true := by kernel_rfl
theorem st9 : isStr Try.prog 9 = true := by kernel_rfl
theorem ze25 : zeroIs Try.prog 25 (.agg #[(.int .i64 0), (.int .i64 0), (.int .u64 0), (.string ⟨#[]⟩)]) := by unfold zeroIs; kernel_rfl
theorem slt22 : slT Try.prog 22 5 (.int .u8 0) 1 1 := ⟨by kernel_rfl, by kernel_rfl⟩
theorem slt34 : slT Try.prog 34 25 (.agg #[(.int .i64 0), (.int .i64 0), (.int .u64 0), (.string ⟨#[]⟩)]) 4 40 := ⟨by kernel_rfl, by kernel_rfl⟩
theorem nn9 : (Try.f9.name == "runtime.NumGoroutine") = false := by kernel_rfl
theorem nn10 : (Try.f10.name == "runtime.NumGoroutine") = false := by kernel_rfl
theorem nn11 : (Try.f11.name == "runtime.NumGoroutine") = false := by kernel_rfl
theorem nn12 : (Try.f12.name == "runtime.NumGoroutine") = false := by kernel_rfl
theorem nn13 : (Try.f13.name == "runtime.NumGoroutine") = false := by kernel_rfl
theorem nn14 : (Try.f14.name == "runtime.NumGoroutine") = false := by kernel_rfl
theorem nn15 : (Try.f15.name == "runtime.NumGoroutine") = false := by kernel_rfl
theorem nn16 : (Try.f16.name == "runtime.NumGoroutine") = false := by kernel_rfl
theorem nn17 : (Try.f17.name == "runtime.NumGoroutine") = false := by kernel_rfl
theorem nn18 : (Try.f18.name == "runtime.NumGoroutine") = false := by kernel_rfl
theorem nn19 : (Try.f19.name == "runtime.NumGoroutine") = false := by kernel_rfl
theorem nn20 : (Try.f20.name == "runtime.NumGoroutine") = false := by kernel_rfl
theorem nn21 : (Try.f21.name == "runtime.NumGoroutine") = false := by kernel_rfl
theorem nn22 : (Try.f22.name == "runtime.NumGoroutine") = false := by kernel_rfl
theorem nn23 : (Try.f23.name == "runtime.NumGoroutine") = false := by kernel_rfl
theorem nn24 : (Try.f24.name == "runtime.NumGoroutine") = false := by kernel_rfl
theorem nn25 : (Try.f25.name == "runtime.NumGoroutine") = false := by kernel_rfl
theorem nn26 : (Try.f26.name == "runtime.NumGoroutine") = false := by kernel_rfl
theorem nn27 : (Try.f27.name == "runtime.NumGoroutine") = false := by kernel_rfl
theorem nn28 : (Try.f28.name == "runtime.NumGoroutine") = false := by kernel_rfl
theorem nn29 : (Try.f29.name == "runtime.NumGoroutine") = false := by kernel_rfl
theorem nn30 : (Try.f30.name == "runtime.NumGoroutine") = false := by kernel_rfl
theorem nn31 : (Try.f31.name == "runtime.NumGoroutine") = false := by kernel_rfl
end Go.Proofs.Ytalekbaohdeakaa
