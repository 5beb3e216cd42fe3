/- '==' and '!=' of arrays of whole numbers; bytes copied from row to row. -/
import Derived.Test.YtlmiimojgledpaaSh13
import Derived.Test.YtlmiimojgledpaaSh24
set_option linter.unusedVariables false
set_option linter.unusedSimpArgs false
set_option linter.unusedSectionVars false
namespace Go.Proofs.Ytlmiimojgledpaa
namespace Sh
open RowKit
section
variable {P : Program} {w : World} {e t : TypeId} {k : IntKind} {n : Nat} {xa0 xb0 : List Int}
theorem eqInt (he : P.underlying e = some (.int k)) (d : Nat) (a b : Int) : (Op.equalIn (d + 1) e (.int k a) (.int k b)).run P w = .ok (a == b) w := by
  simp [Op.equalIn, underlying, he]
theorem pk_int (he : P.underlying e = some (.int k)) : P.plainKey e = true := by simp [Program.plainKey, he]
theorem eqItems_run (he : P.underlying e = some (.int k)) (d : Nat) (ha : xa0.length = n) (hb : xb0.length = n) : ∀ (is : List Nat), (∀ i ∈ is, i < n) →
    (Op.eqItems (d + 1) e 1 (xa0.map (Value.int k)).toArray (xb0.map (Value.int k)).toArray is).run P w = .ok (is.all fun i => xa0[i]? == xb0[i]?) w
  | [], _ => by simp [Op.eqItems]
  | i :: is, h => by
    have hi := h i (by simp)
    have ih := eqItems_run he d ha hb is (fun j hj => h j (by simp [hj]))
    have xa : (xa0.map (Value.int k)).toArray[i * 1]? = some (.int k xa0[i]) := by simp; try exact ⟨by omega, rfl⟩
    have xb : (xb0.map (Value.int k)).toArray[i * 1]? = some (.int k xb0[i]) := by simp; try exact ⟨by omega, rfl⟩
    have e1 : (xa0[i]? == xb0[i]?) = (xa0[i] == xb0[i]) := by rw [List.getElem?_eq_getElem (by omega), List.getElem?_eq_getElem (by omega)]; rfl
    rw [Op.eqItems]
    simp only [Sem.run_bind, run_part_plain w (pk_int he) xa, run_part_plain w (pk_int he) xb, eqInt he, Result.andThen_ok, List.all_cons, e1]
    cases hc : (xa0[i] == xb0[i])
    · simp
    · simpa using ih
theorem all_eq (ha : xa0.length = n) (hb : xb0.length = n) : ((List.range n).all fun i => xa0[i]? == xb0[i]?) = decide (xa0 = xb0) := by
  rw [Bool.eq_iff_iff, List.all_eq_true, decide_eq_true_iff]
  constructor
  · intro h
    apply List.ext_getElem?
    intro i
    rcases Nat.lt_or_ge i n with c | c
    · simpa using h i (List.mem_range.2 c)
    · rw [List.getElem?_eq_none (by omega), List.getElem?_eq_none (by omega)]
  · rintro rfl i _
    simp
theorem run_ne_arr {x y : Operand} (hu : P.underlying t = some (.array n e)) (he : P.underlying e = some (.int k)) (hc : P.cellsOf e = 1) (hi : (P.info? e).isSome = true) (hg : P.eqGuardType P.depth t = false) (ha : xa0.length = n) (hb : xb0.length = n) :
    ((do eqGuard .neq t x y (.agg (xa0.map (Value.int k)).toArray) (.agg (xb0.map (Value.int k)).toArray); binOp .neq t (.agg (xa0.map (Value.int k)).toArray) (.agg (xb0.map (Value.int k)).toArray) : Sem Value)).run P w = .ok (.bool (!decide (xa0 = xb0))) w := by
  obtain ⟨i, hi⟩ := Option.isSome_iff_exists.1 hi
  have h2 : (Op.equalIn 10000 t (.agg (xa0.map (Value.int k)).toArray) (.agg (xb0.map (Value.int k)).toArray)).run P w = .ok (decide (xa0 = xb0)) w := by
    rw [run_equalIn_array (P := P) w 9999 _ _ hu hi, hc, eqItems_run he 9998 ha hb _ (fun i hi => List.mem_range.1 hi), all_eq ha hb]
  have h3 : (Op.equal t (.agg (xa0.map (Value.int k)).toArray) (.agg (xb0.map (Value.int k)).toArray)).run P w = .ok (decide (xa0 = xb0)) w := h2
  simp [eqGuard, hg, binOp, h3]
theorem run_eq_arr {x y : Operand} (hu : P.underlying t = some (.array n e)) (he : P.underlying e = some (.int k)) (hc : P.cellsOf e = 1) (hi : (P.info? e).isSome = true) (hg : P.eqGuardType P.depth t = false) (ha : xa0.length = n) (hb : xb0.length = n) :
    ((do eqGuard .eql t x y (.agg (xa0.map (Value.int k)).toArray) (.agg (xb0.map (Value.int k)).toArray); binOp .eql t (.agg (xa0.map (Value.int k)).toArray) (.agg (xb0.map (Value.int k)).toArray) : Sem Value)).run P w = .ok (.bool (decide (xa0 = xb0))) w := by
  obtain ⟨i, hi⟩ := Option.isSome_iff_exists.1 hi
  have h2 : (Op.equalIn 10000 t (.agg (xa0.map (Value.int k)).toArray) (.agg (xb0.map (Value.int k)).toArray)).run P w = .ok (decide (xa0 = xb0)) w := by
    rw [run_equalIn_array (P := P) w 9999 _ _ hu hi, hc, eqItems_run he 9998 ha hb _ (fun i hi => List.mem_range.1 hi), all_eq ha hb]
  have h3 : (Op.equal t (.agg (xa0.map (Value.int k)).toArray) (.agg (xb0.map (Value.int k)).toArray)).run P w = .ok (decide (xa0 = xb0)) w := h2
  simp [eqGuard, hg, binOp, h3]
/-- an element's place and value, in whatever world -/
theorem rdI_at {v : Value} {l : List Int} (h : rdI k w v l) {i : Nat} (hi : i < l.length) : ∃ a : Addr, w.cell? a = some (.int k l[i]) ∧ ∀ (j : IntKind) (K : Value → M) (w' : World) (Q : Value → World → Prop), ia 1 v (.int j (i : Int)) K w' Q = K (.pointer (some a)) w' Q := by
  obtain ⟨p, c, rfl, h⟩ := h
  obtain ⟨a, rfl, hc⟩ := h i hi
  refine ⟨a.add i, hc, fun j K w' Q => ?_⟩
  rw [ia_e, Int.toNat_natCast, Nat.mul_one]
  apply propext
  constructor
  · rintro ⟨_, _, h⟩; exact h
  · intro h; exact ⟨by omega, by omega, h⟩
/-- a beginning of a row of the call's own copied over some of another's cells -/
theorem cpy {dT sT ty : TypeId} {elem : TypeId} {g o m g2 c1 c2 l2 : Nat} {cur cur2 : Array Value} {t2 : TypeId} {fr : Nat × Nat} {K : Value → M} {Q : Value → World → Prop} (hu : P.underlying dT = some (.slice elem)) (hs : (P.info? elem).map (·.size) = some 1)
    (hg : w.heap[g]? = some (.cells cur t (0, 0))) (hg2 : w.heap[g2]? = some (.cells cur2 t2 fr)) (hm : m ≤ l2) (h2 : m ≤ cur2.size) (hfit : o + m ≤ cur.size) (h1 : ∀ v ∈ cur2.toList, v.oneCell' = true)
    (kk : ∀ w', w'.heap[g]? = some (.cells (ovl cur.toList o (cur2.toList.take m)).toArray t (0, 0)) → Upd g w w' → K (.int .i64 m) w' Q) :
    sm P (Builtin.copy_ #[dT, sT] ty #[.slice (some ⟨g, o, none⟩) m c1, .slice (some ⟨g2, 0, none⟩) l2 c2]) K w Q := by
  have hl : (cur2.toList.take m).length = m := by rw [List.length_take, Array.length_toList]; omega
  have hr := run_copy_row (P := P) w dT sT ty elem g o m c1 ⟨g2, 0, none⟩ l2 c2 cur t (cur2.toList.take m) hu hs hg (by rw [hl]; exact (Nat.min_eq_right hm).symm) (fun j v hj => by
      rw [add_lit, Nat.zero_add, cell_of_blk hg2]
      have : j < m := by rcases Nat.lt_or_ge j m with c | c; exact c; rw [List.getElem?_eq_none (by omega)] at hj; cases hj
      rw [List.getElem?_take_of_lt this] at hj
      simpa using hj) (by rw [hl]; exact hfit) (fun v hv => h1 v (List.mem_of_mem_take hv))
  rw [hl] at hr
  obtain ⟨u1, u2⟩ := Upd_setRow (cs := (ovl cur.toList o (cur2.toList.take m)).toArray) hg
  refine ⟨_, _, hr, ?_⟩
  have e : (w.setRow g (cur.toList.take o ++ cur2.toList.take m ++ cur.toList.drop (o + m)).toArray) = w.setRow g (ovl cur.toList o (cur2.toList.take m)).toArray := by unfold ovl; rw [hl]
  rw [e]
  exact kk _ u2 u1
end
end Sh
end Go.Proofs.Ytlmiimojgledpaa
