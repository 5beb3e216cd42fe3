/- What the tables of types say, by program. -/
import Derived.Test.YtjaiodbonffciaaProg
import Derived.Test.YtjaiodbonffciaaSh10
set_option linter.unusedVariables false
set_option maxRecDepth 20000
set_option maxHeartbeats 4000000
namespace Go.Proofs.Ytjaiodbonffciaa
open Sh
attribute [local irreducible] wpL anyG act jn lo gdB amb kp smr nc fa ld ldn st stn ad su mu qu re lt le gt ge eqi nei bws shl shr cat eqs nes lts gts eqb neb nt pk cv al bx ex fld fldn lnl lns ia iaa ixs sls sll sla mif mnm mxm mm asrt sm smu cl cc cf ci cnd gd gdu
theorem ae63 : arE Try.prog 63 64 1 = true := by kernel_rfl
theorem ag40 : isAg Try.prog 40 5 = true := by kernel_rfl
theorem ag63 : isAg Try.prog 63 64 = true := by kernel_rfl
theorem ag70 : isAg Try.prog 70 3 = true := by kernel_rfl
theorem ai25 : (match Program.underlying Try.prog 25 with | some (.int _) => true | _ => false) = true := by kernel_rfl
theorem ai3 : (match Program.underlying Try.prog 3 with | some (.int _) => true | _ => false) = true := by kernel_rfl
theorem bo4 : isBool Try.prog 4 = true := by kernel_rfl
theorem fo40_0 : fOff Try.prog 40 0 0 = true := by kernel_rfl
theorem fo40_1 : fOff Try.prog 40 1 1 = true := by kernel_rfl
theorem fo40_2 : fOff Try.prog 40 2 2 = true := by kernel_rfl
theorem fo40_3 : fOff Try.prog 40 3 3 = true := by kernel_rfl
theorem fo40_4 : fOff Try.prog 40 4 4 = true := by kernel_rfl
theorem fo44_0 : fOff Try.prog 44 0 0 = true := by kernel_rfl
theorem fo44_1 : fOff Try.prog 44 1 1 = true := by kernel_rfl
theorem fo44_2 : fOff Try.prog 44 2 2 = true := by kernel_rfl
theorem fo60_0 : fOff Try.prog 60 0 0 = true := by kernel_rfl
theorem fo60_1 : fOff Try.prog 60 1 1 = true := by kernel_rfl
theorem fo60_2 : fOff Try.prog 60 2 2 = true := by kernel_rfl
theorem fo60_3 : fOff Try.prog 60 3 3 = true := by kernel_rfl
theorem fo70_0 : fOff Try.prog 70 0 0 = true := by kernel_rfl
theorem fo70_1 : fOff Try.prog 70 1 1 = true := by kernel_rfl
theorem fo70_2 : fOff Try.prog 70 2 2 = true := by kernel_rfl
theorem in25 : isInt Try.prog 25 .u64 = true := by kernel_rfl
theorem in3 : isInt Try.prog 3 .i64 = true := by kernel_rfl
theorem is29 : isSl Try.prog 29 = true := by kernel_rfl
theorem is32 : isSl Try.prog 32 = true := by kernel_rfl
theorem is38 : isSl Try.prog 38 = true := by kernel_rfl
theorem is42 : isSl Try.prog 42 = true := by kernel_rfl
theorem is50 : isSl Try.prog 50 = true := by kernel_rfl
theorem is57 : isSl Try.prog 57 = true := by kernel_rfl
theorem on3 : isOne Try.prog 3 = true := by kernel_rfl
theorem on4 : isOne Try.prog 4 = true := by kernel_rfl
theorem on42 : isOne Try.prog 42 = true := by kernel_rfl
theorem on5 : isOne Try.prog 5 = true := by kernel_rfl
theorem on9 : isOne Try.prog 9 = true := by kernel_rfl
theorem sc3 : isSc Try.prog 3 = true := by kernel_rfl
theorem sc38 : isSc Try.prog 38 = true := by kernel_rfl
theorem sc4 : isSc Try.prog 4 = true := by kernel_rfl
theorem sc42 : isSc Try.prog 42 = true := by kernel_rfl
theorem sc57 : isSc Try.prog 57 = true := by kernel_rfl
theorem sc58 : isSc Try.prog 58 = true := by kernel_rfl
theorem sc9 : isSc Try.prog 9 = true := by kernel_rfl
theorem se29 : slE Try.prog 29 1 = true := by kernel_rfl
theorem se32 : slE Try.prog 32 5 = true := by kernel_rfl
theorem se38 : slE Try.prog 38 1 = true := by kernel_rfl
theorem se42 : slE Try.prog 42 3 = true := by kernel_rfl
theorem se50 : slE Try.prog 50 1 = true := by kernel_rfl
theorem se57 : slE Try.prog 57 64 = true := by kernel_rfl
theorem se61 : slE Try.prog 61 1 = true := by kernel_rfl
theorem st9 : isStr Try.prog 9 = true := by kernel_rfl
theorem ze63 : zeroIs Try.prog 63 (.agg (Array.replicate 64 (.int .u8 0))) := by unfold zeroIs; kernel_rfl
theorem ze70 : zeroIs Try.prog 70 (.agg #[(.string ⟨#[]⟩), (.string ⟨#[]⟩), (.bool false)]) := by unfold zeroIs; kernel_rfl
theorem slt29 : slT Try.prog 29 3 (.int .i64 0) 1 8 := ⟨by kernel_rfl, by kernel_rfl⟩
theorem slt32 : slT Try.prog 32 40 (.agg #[(.int .i64 0), (.int .i64 0), (.string ⟨#[]⟩), (.slice none 0 0), (.int .i64 0)]) 5 64 := ⟨by kernel_rfl, by kernel_rfl⟩
theorem slt38 : slT Try.prog 38 4 (.bool false) 1 1 := ⟨by kernel_rfl, by kernel_rfl⟩
theorem slt42 : slT Try.prog 42 70 (.agg #[(.string ⟨#[]⟩), (.string ⟨#[]⟩), (.bool false)]) 3 40 := ⟨by kernel_rfl, by kernel_rfl⟩
theorem slt50 : slT Try.prog 50 9 (.string ⟨#[]⟩) 1 16 := ⟨by kernel_rfl, by kernel_rfl⟩
theorem slt57 : slT Try.prog 57 63 (.agg (Array.replicate 64 (.int .u8 0))) 64 64 := ⟨by kernel_rfl, by kernel_rfl⟩
theorem slt61 : slT Try.prog 61 5 (.int .u8 0) 1 1 := ⟨by kernel_rfl, by kernel_rfl⟩
theorem nn9 : (Try.f9.name == "runtime.NumGoroutine") = false := by kernel_rfl
theorem nn10 : (Try.f10.name == "runtime.NumGoroutine") = false := by kernel_rfl
theorem nn11 : (Try.f11.name == "runtime.NumGoroutine") = false := by kernel_rfl
theorem nn12 : (Try.f12.name == "runtime.NumGoroutine") = false := by kernel_rfl
theorem nn13 : (Try.f13.name == "runtime.NumGoroutine") = false := by kernel_rfl
theorem nn14 : (Try.f14.name == "runtime.NumGoroutine") = false := by kernel_rfl
theorem nn15 : (Try.f15.name == "runtime.NumGoroutine") = false := by kernel_rfl
theorem nn16 : (Try.f16.name == "runtime.NumGoroutine") = false := by kernel_rfl
theorem nn17 : (Try.f17.name == "runtime.NumGoroutine") = false := by kernel_rfl
theorem nn18 : (Try.f18.name == "runtime.NumGoroutine") = false := by kernel_rfl
theorem nn19 : (Try.f19.name == "runtime.NumGoroutine") = false := by kernel_rfl
theorem nn20 : (Try.f20.name == "runtime.NumGoroutine") = false := by kernel_rfl
theorem nn21 : (Try.f21.name == "runtime.NumGoroutine") = false := by kernel_rfl
theorem nn22 : (Try.f22.name == "runtime.NumGoroutine") = false := by kernel_rfl
theorem nn23 : (Try.f23.name == "runtime.NumGoroutine") = false := by kernel_rfl
theorem nn24 : (Try.f24.name == "runtime.NumGoroutine") = false := by kernel_rfl
theorem nn25 : (Try.f25.name == "runtime.NumGoroutine") = false := by kernel_rfl
theorem nn26 : (Try.f26.name == "runtime.NumGoroutine") = false := by kernel_rfl
theorem nn27 : (Try.f27.name == "runtime.NumGoroutine") = false := by kernel_rfl
theorem nn28 : (Try.f28.name == "runtime.NumGoroutine") = false := by kernel_rfl
theorem nn29 : (Try.f29.name == "runtime.NumGoroutine") = false := by kernel_rfl
theorem nn30 : (Try.f30.name == "runtime.NumGoroutine") = false := by kernel_rfl
theorem nn31 : (Try.f31.name == "runtime.NumGoroutine") = false := by kernel_rfl
theorem nn32 : (Try.f32.name == "runtime.NumGoroutine") = false := by kernel_rfl
theorem nn33 : (Try.f33.name == "runtime.NumGoroutine") = false := by kernel_rfl
theorem nn34 : (Try.f34.name == "runtime.NumGoroutine") = false := by kernel_rfl
theorem nn35 : (Try.f35.name == "runtime.NumGoroutine") = false := by kernel_rfl
theorem nn39 : (Try.f39.name == "runtime.NumGoroutine") = false := by kernel_rfl
end Go.Proofs.Ytjaiodbonffciaa
