/- Calls through an interface. -/
import Derived.Test.YtlmiimojgledpaaSh19
set_option linter.unusedVariables false
set_option linter.unusedSimpArgs false
set_option linter.unusedSectionVars false
namespace Go.Proofs.Ytlmiimojgledpaa
namespace Sh
open RowKit
/-- the method's row of a type: its function, and whether it takes a pointer -/
def mrow (P : Program) (t : TypeId) (name : String) : Option (FuncId × Bool) :=
  match P.info? t with
  | some i => match i.methods.find? (·.name == name) with
    | some m => if m.path.toList = [] then m.func else none
    | none => none
  | none => none
/-- a function that may be entered -/
def canEnter (P : Program) (f : FuncId) : Bool := match P.funcs[f]? with | some fn => fn.body.isSome && !(fn.name == "runtime.NumGoroutine") | none => false
section
variable {P : Program} {w : World} {Q : Value → World → Prop} {K : Value → M} {t e : TypeId} {name : String} {f : FuncId} {args : Array Value} {v : Value}
theorem run_callFunc (h : canEnter P f = true) : (callFunc f args).run P w = .ok (.enter f args) w := by
  unfold canEnter at h
  cases hf : P.funcs[f]? with
  | none => simp [hf] at h
  | some fn =>
    simp [hf] at h
    obtain ⟨h1, h2⟩ := h
    obtain ⟨b, hb⟩ := Option.isSome_iff_exists.1 h1
    simp [callFunc, hf, hb, h2]
theorem mrow_info {q : Bool} (h : mrow P t name = some (f, q)) : ∃ i m, P.info? t = some i ∧ i.methods.find? (·.name == name) = some m ∧ m.path.toList = [] ∧ m.func = some (f, q) := by
  unfold mrow at h
  cases hi : P.info? t with
  | none => simp [hi] at h
  | some i =>
    simp only [hi] at h
    cases hm : i.methods.find? (·.name == name) with
    | none => simp [hm] at h
    | some m =>
      simp only [hm] at h
      split at h
      · exact ⟨i, m, rfl, hm, by assumption, h⟩
      · cases h
/-- a method of a pointer, called with it -/
theorem run_meth_p (hm : mrow P t name = some (f, true)) (hp : P.underlying t = some (.pointer e)) (hf : canEnter P f = true) (hz : 0 < P.types.size) :
    (callMethod (.iface t v) name args).run P w = .ok (.enter f (#[v] ++ args)) w := by
  obtain ⟨i, m, h1, h2, h3, h4⟩ := mrow_info hm
  obtain ⟨n, hn⟩ : ∃ n, P.types.size + Made.depth = n + 1 := ⟨P.types.size + Made.depth - 1, by omega⟩
  unfold callMethod
  simp only [Sem.run_bind, run_program, Result.andThen_ok, hn]
  unfold method
  simp [typeInfo, h1, h2, h3, h4, follow, receiverAt, run_underlying hp, Place.get, run_callFunc hf, Result.andThen]
theorem nilchk {ts : Array TypeId} {ty : TypeId} {a : Addr} {s n : String} : Builtin.ssaWrapNilChk_ ts ty #[.pointer (some a), strVal s, strVal n] = pure (.pointer (some a)) := rfl
/-- a method of what a pointer points at -/
theorem run_meth_v (hm : mrow P t name = some (f, false)) (hp : P.underlying t = some (.pointer e)) (hs : isSc P e = true) (hf : canEnter P f = true) (hz : 0 < P.types.size) {a : Addr} (hc : w.cell? a = some v) :
    (callMethod (.iface t (.pointer (some a))) name args).run P w = .ok (.enter f (#[v] ++ args)) w := by
  obtain ⟨i, m, h1, h2, h3, h4⟩ := mrow_info hm
  obtain ⟨n, hn⟩ : ∃ n, P.types.size + Made.depth = n + 1 := ⟨P.types.size + Made.depth - 1, by omega⟩
  have h3' : m.path = #[] := by simpa using h3
  unfold callMethod
  simp only [Sem.run_bind, run_program, Result.andThen_ok, hn]
  unfold method
  simp [typeInfo, h1, h2, h3, h3', h4, follow, receiverAt, run_underlying hp, Place.get, nilchk, asAddr, loadVar, run_isAgg_sc hs, hc, run_callFunc hf, Result.andThen]
theorem ci_p (hm : mrow P t name = some (f, true)) (hp : P.underlying t = some (.pointer e)) (hf : canEnter P f = true) (hz : 0 < P.types.size) (k : Calls P f (#[v] ++ args) w (Rt fun v w' => K v w' Q)) : ci P (.iface t v) name args K w Q :=
  ⟨f, _, w, run_meth_p hm hp hf hz, k⟩
theorem ci_v (hm : mrow P t name = some (f, false)) (hp : P.underlying t = some (.pointer e)) (hs : isSc P e = true) (hf : canEnter P f = true) (hz : 0 < P.types.size) {a : Addr} (hc : w.cell? a = some v)
    (k : Calls P f (#[v] ++ args) w (Rt fun v w' => K v w' Q)) : ci P (.iface t (.pointer (some a))) name args K w Q :=
  ⟨f, _, w, run_meth_v hm hp hs hf hz hc, k⟩
end
end Sh
end Go.Proofs.Ytlmiimojgledpaa
