/- '==' of structs. -/
import Derived.Test.YtlmiimojgledpaaSh12
import Derived.Laws.StructEq
import Derived.ChangeKeysEq
set_option linter.unusedVariables false
set_option linter.unusedSimpArgs false
set_option linter.unusedSectionVars false
namespace Go.Proofs.Ytlmiimojgledpaa
namespace Sh
open RowKit
section
variable {P : Program} {w : World} {d : Nat} {xs ys : Array Value} {f : Field} {fs : List Field} {r : Bool}
theorem fE_nil : (Op.eqFields d xs ys []).run P w = .ok true w := by simp [Op.eqFields]
theorem fE_cons {a b : Value} {s : Bool} (hn : (f.name == "_") = false) (hk : P.plainKey f.type = true) (ha : xs[f.offset]? = some a) (hb : ys[f.offset]? = some b) (he : (Op.equalIn d f.type a b).run P w = .ok r w)
    (hr : (Op.eqFields d xs ys fs).run P w = .ok s w) : (Op.eqFields d xs ys (f :: fs)).run P w = .ok (r && s) w := by
  have hn' : f.name ≠ "_" := by simpa using hn
  rw [Op.eqFields]
  simp only [if_pos hn', Sem.run_bind, run_part_plain w hk ha, run_part_plain w hk hb, he, Result.andThen_ok]
  cases r
  · simp
  · simpa using hr
theorem run_eq_agg {t : TypeId} {x y : Operand} {gs : Array Field} (hu : P.underlying t = some (.struct gs)) (hp : P.stoodInHeld t = false) (hg : P.eqGuardType P.depth t = false)
    (h : (Op.eqFields 9999 xs ys gs.toList).run P w = .ok r w) : ((do eqGuard .eql t x y (.agg xs) (.agg ys); binOp .eql t (.agg xs) (.agg ys) : Sem Value)).run P w = .ok (.bool r) w := by
  have hf : P.fieldsOf t = gs := by simp [Program.fieldsOf, hu]
  have h2 : (Op.equalIn 10000 t (.agg xs) (.agg ys)).run P w = .ok r w := by
    rw [run_equalIn_struct (P := P) w 9999 t xs ys (by rw [hf]; exact hu) hp, hf]
    exact h
  have h3 : (Op.equal t (.agg xs) (.agg ys)).run P w = .ok r w := h2
  simp [eqGuard, hg, binOp, h3]
end
end Sh
end Go.Proofs.Ytlmiimojgledpaa
