/- What the tables of types say, by program. -/
import Derived.Test.YtlmiimojgledpaaProg
import Derived.Test.YtlmiimojgledpaaSh10
set_option linter.unusedVariables false
set_option maxRecDepth 20000
set_option maxHeartbeats 4000000
namespace Go.Proofs.Ytlmiimojgledpaa
open Sh
attribute [local irreducible] wpL anyG act jn lo gdB amb kp smr nc fa ld ldn st stn ad su mu qu re lt le gt ge eqi nei bws shl shr cat eqs nes lts gts eqb neb nt pk cv al bx ex fld fldn lnl lns ia iaa ixs sls sll sla mif mnm mxm mm asrt sm smu cl cc cf ci cnd gd gdu
theorem ae23 : arE Try.prog 23 2 1 = true := by kernel_rfl
theorem ae44 : arE Try.prog 44 2 1 = true := by kernel_rfl
theorem ag31 : isAg Try.prog 31 3 = true := by kernel_rfl
theorem ai3 : (match Program.underlying Try.prog 3 with | some (.int _) => true | _ => false) = true := by kernel_rfl
theorem ai74 : (match Program.underlying Try.prog 74 with | some (.int _) => true | _ => false) = true := by kernel_rfl
theorem co9 : isConc Try.prog 9 = true := by kernel_rfl
theorem fo31_0 : fOff Try.prog 31 0 0 = true := by kernel_rfl
theorem fo31_1 : fOff Try.prog 31 1 1 = true := by kernel_rfl
theorem fo31_2 : fOff Try.prog 31 2 2 = true := by kernel_rfl
theorem in3 : isInt Try.prog 3 .i64 = true := by kernel_rfl
theorem in74 : isInt Try.prog 74 .u64 = true := by kernel_rfl
theorem is22 : isSl Try.prog 22 = true := by kernel_rfl
theorem is32 : isSl Try.prog 32 = true := by kernel_rfl
theorem is33 : isSl Try.prog 33 = true := by kernel_rfl
theorem is43 : isSl Try.prog 43 = true := by kernel_rfl
theorem on33 : isOne Try.prog 33 = true := by kernel_rfl
theorem sc2 : isSc Try.prog 2 = true := by kernel_rfl
theorem sc22 : isSc Try.prog 22 = true := by kernel_rfl
theorem sc29 : isSc Try.prog 29 = true := by kernel_rfl
theorem sc3 : isSc Try.prog 3 = true := by kernel_rfl
theorem sc32 : isSc Try.prog 32 = true := by kernel_rfl
theorem sc33 : isSc Try.prog 33 = true := by kernel_rfl
theorem sc9 : isSc Try.prog 9 = true := by kernel_rfl
theorem se22 : slE Try.prog 22 1 = true := by kernel_rfl
theorem se32 : slE Try.prog 32 3 = true := by kernel_rfl
theorem se33 : slE Try.prog 33 3 = true := by kernel_rfl
theorem se43 : slE Try.prog 43 1 = true := by kernel_rfl
theorem st9 : isStr Try.prog 9 = true := by kernel_rfl
theorem ze31 : zeroIs Try.prog 31 (.agg #[(.int .i64 0), (.int .i64 0), (.string ⟨#[]⟩)]) := by unfold zeroIs; kernel_rfl
theorem slt22 : slT Try.prog 22 33 (.slice none 0 0) 1 24 := ⟨by kernel_rfl, by kernel_rfl⟩
theorem slt32 : slT Try.prog 32 31 (.agg #[(.int .i64 0), (.int .i64 0), (.string ⟨#[]⟩)]) 3 32 := ⟨by kernel_rfl, by kernel_rfl⟩
theorem slt33 : slT Try.prog 33 31 (.agg #[(.int .i64 0), (.int .i64 0), (.string ⟨#[]⟩)]) 3 32 := ⟨by kernel_rfl, by kernel_rfl⟩
theorem slt43 : slT Try.prog 43 3 (.int .i64 0) 1 8 := ⟨by kernel_rfl, by kernel_rfl⟩
theorem nn8 : (Try.f8.name == "runtime.NumGoroutine") = false := by kernel_rfl
theorem nn9 : (Try.f9.name == "runtime.NumGoroutine") = false := by kernel_rfl
theorem nn10 : (Try.f10.name == "runtime.NumGoroutine") = false := by kernel_rfl
theorem nn11 : (Try.f11.name == "runtime.NumGoroutine") = false := by kernel_rfl
theorem nn12 : (Try.f12.name == "runtime.NumGoroutine") = false := by kernel_rfl
theorem nn13 : (Try.f13.name == "runtime.NumGoroutine") = false := by kernel_rfl
theorem nn14 : (Try.f14.name == "runtime.NumGoroutine") = false := by kernel_rfl
theorem nn15 : (Try.f15.name == "runtime.NumGoroutine") = false := by kernel_rfl
theorem nn16 : (Try.f16.name == "runtime.NumGoroutine") = false := by kernel_rfl
theorem nn17 : (Try.f17.name == "runtime.NumGoroutine") = false := by kernel_rfl
theorem nn18 : (Try.f18.name == "runtime.NumGoroutine") = false := by kernel_rfl
theorem nn19 : (Try.f19.name == "runtime.NumGoroutine") = false := by kernel_rfl
theorem nn20 : (Try.f20.name == "runtime.NumGoroutine") = false := by kernel_rfl
theorem nn21 : (Try.f21.name == "runtime.NumGoroutine") = false := by kernel_rfl
theorem nn22 : (Try.f22.name == "runtime.NumGoroutine") = false := by kernel_rfl
theorem nn23 : (Try.f23.name == "runtime.NumGoroutine") = false := by kernel_rfl
theorem nn24 : (Try.f24.name == "runtime.NumGoroutine") = false := by kernel_rfl
theorem nn25 : (Try.f25.name == "runtime.NumGoroutine") = false := by kernel_rfl
theorem nn26 : (Try.f26.name == "runtime.NumGoroutine") = false := by kernel_rfl
theorem nn27 : (Try.f27.name == "runtime.NumGoroutine") = false := by kernel_rfl
theorem nn28 : (Try.f28.name == "runtime.NumGoroutine") = false := by kernel_rfl
theorem nn29 : (Try.f29.name == "runtime.NumGoroutine") = false := by kernel_rfl
theorem nn30 : (Try.f30.name == "runtime.NumGoroutine") = false := by kernel_rfl
theorem nn31 : (Try.f31.name == "runtime.NumGoroutine") = false := by kernel_rfl
theorem nn32 : (Try.f32.name == "runtime.NumGoroutine") = false := by kernel_rfl
theorem nn35 : (Try.f35.name == "runtime.NumGoroutine") = false := by kernel_rfl
theorem nn36 : (Try.f36.name == "runtime.NumGoroutine") = false := by kernel_rfl
theorem nn39 : (Try.f39.name == "runtime.NumGoroutine") = false := by kernel_rfl
theorem nn41 : (Try.f41.name == "runtime.NumGoroutine") = false := by kernel_rfl
theorem nn42 : (Try.f42.name == "runtime.NumGoroutine") = false := by kernel_rfl
theorem nn43 : (Try.f43.name == "runtime.NumGoroutine") = false := by kernel_rfl
theorem nn45 : (Try.f45.name == "runtime.NumGoroutine") = false := by kernel_rfl
theorem nn47 : (Try.f47.name == "runtime.NumGoroutine") = false := by kernel_rfl
theorem nn48 : (Try.f48.name == "runtime.NumGoroutine") = false := by kernel_rfl
theorem nn49 : (Try.f49.name == "runtime.NumGoroutine") = false := by kernel_rfl
theorem nn50 : (Try.f50.name == "runtime.NumGoroutine") = false := by kernel_rfl
theorem nn51 : (Try.f51.name == "runtime.NumGoroutine") = false := by kernel_rfl
theorem nn52 : (Try.f52.name == "runtime.NumGoroutine") = false := by kernel_rfl
theorem nn53 : (Try.f53.name == "runtime.NumGoroutine") = false := by kernel_rfl
theorem nn54 : (Try.f54.name == "runtime.NumGoroutine") = false := by kernel_rfl
theorem nn55 : (Try.f55.name == "runtime.NumGoroutine") = false := by kernel_rfl
theorem nn56 : (Try.f56.name == "runtime.NumGoroutine") = false := by kernel_rfl
theorem nn57 : (Try.f57.name == "runtime.NumGoroutine") = false := by kernel_rfl
theorem nn58 : (Try.f58.name == "runtime.NumGoroutine") = false := by kernel_rfl
theorem nn59 : (Try.f59.name == "runtime.NumGoroutine") = false := by kernel_rfl
theorem nn60 : (Try.f60.name == "runtime.NumGoroutine") = false := by kernel_rfl
theorem nn61 : (Try.f61.name == "runtime.NumGoroutine") = false := by kernel_rfl
theorem nn62 : (Try.f62.name == "runtime.NumGoroutine") = false := by kernel_rfl
theorem nn63 : (Try.f63.name == "runtime.NumGoroutine") = false := by kernel_rfl
end Go.Proofs.Ytlmiimojgledpaa
