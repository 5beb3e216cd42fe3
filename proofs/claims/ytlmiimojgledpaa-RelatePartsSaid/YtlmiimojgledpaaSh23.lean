/- Rows of elements of several cells: read, one literal, grown, cut. -/
import Derived.Test.YtlmiimojgledpaaSh22
set_option linter.unusedVariables false
set_option linter.unusedSimpArgs false
set_option linter.unusedSectionVars false
namespace Go.Proofs.Ytlmiimojgledpaa
namespace Sh
open RowKit
/-- an element's cells told by a function of it -/
def eR {α : Type} (enc : α → List Value) : RepT α := fun _ cs x => cs = enc x
theorem eR_st {α : Type} {enc : α → List Value} : Stable (eR enc) := fun _ _ _ _ _ h => h
theorem flat_len {α : Type} {enc : α → List Value} {n : Nat} (hn : ∀ x, (enc x).length = n) : ∀ l : List α, (l.flatMap enc).length = l.length * n
  | [] => by simp
  | x :: l => by rw [List.flatMap_cons, List.length_append, hn, flat_len hn l, List.length_cons, Nat.add_mul]; omega
theorem flat_get {α : Type} {enc : α → List Value} {n : Nat} (hn : ∀ x, (enc x).length = n) : ∀ (l : List α) (i j : Nat) (hi : i < l.length), j < n → (l.flatMap enc)[i * n + j]? = (enc l[i])[j]?
  | x :: l, 0, j, hi, hj => by
    rw [List.flatMap_cons, Nat.zero_mul, Nat.zero_add, List.getElem?_append_left (by rw [hn]; exact hj)]; rfl
  | x :: l, i + 1, j, hi, hj => by
    rw [List.flatMap_cons, List.getElem?_append_right (by rw [hn, Nat.add_mul]; omega), hn]
    have e : (i + 1) * n + j - n = i * n + j := by rw [Nat.add_mul]; omega
    rw [e, flat_get hn l i j (by simpa using hi) hj]
    rfl
/-- the elements, the call's own -/
def ownE {α : Type} (B : Nat) (e : TypeId) (n : Nat) (enc : α → List Value) (w : World) (v : Value) (l : List α) : Prop := w.ownsRow B e n v l.length (l.flatMap enc)
section
variable {α : Type} {enc : α → List Value} {n : Nat} {P : Program} {w : World} {Q : Value → World → Prop} {K : Value → M} {B : Nat} {e : TypeId} {v : Value} {l : List α}
theorem ownE_nil : ownE B e n enc w (.slice none 0 0) [] := World.ownsRow_nil w B e n
theorem ownE_below {w' : World} (h : ownE B e n enc w v l) (hb : Below w.heap.size w w') : ownE B e n enc w' v l := by
  obtain ⟨h1, h2⟩ := h
  refine ⟨h1, ?_⟩
  rcases h2 with h2 | ⟨g, cap, cur, h3, hg, hb', rest⟩
  · exact .inl h2
  · exact .inr ⟨g, cap, cur, h3, hg, stay hb hb', rest⟩
theorem ownE_weak {B' : Nat} (h : ownE B e n enc w v l) (hB : B' ≤ B) : ownE B' e n enc w v l := by
  obtain ⟨h1, h2⟩ := h
  refine ⟨h1, ?_⟩
  rcases h2 with h2 | ⟨g, cap, cur, h3, hg, rest⟩
  · exact .inl h2
  · exact .inr ⟨g, cap, cur, h3, Nat.le_trans hB hg, rest⟩
theorem ownE_blk (h : ownE B e n enc w v l) : ∀ g, v.ownBlock = some g → B ≤ g ∧ g < w.heap.size ∧ ∃ cur, w.heap[g]? = some (.cells cur e (0, 0)) := by
  intro g hg
  obtain ⟨h1, h2⟩ := h
  rcases h2 with ⟨rfl, _⟩ | ⟨g', cap, cur, rfl, hg', hb', _⟩
  · cases hg
  · cases hg; exact ⟨hg', blk_lt hb', _, hb'⟩
theorem ownE_stay {w' : World} (h : ownE B e n enc w v l) (hb : ∀ g, v.ownBlock = some g → w'.heap[g]? = w.heap[g]?) : ownE B e n enc w' v l := by
  obtain ⟨h1, h2⟩ := h
  refine ⟨h1, ?_⟩
  rcases h2 with h2 | ⟨g, cap, cur, rfl, hg, hb', rest⟩
  · exact .inl h2
  · exact .inr ⟨g, cap, cur, rfl, hg, by rw [hb g rfl]; exact hb', rest⟩
theorem ownE_rd (hn : ∀ x, (enc x).length = n) (hn0 : 0 < n) (h : ownE B e n enc w v l) : rdS n (eR enc) w v l := by
  obtain ⟨h1, h2⟩ := h
  rcases h2 with ⟨rfl, h0⟩ | ⟨g, cap, cur, rfl, hg, hb, hnc, hm, hs, ht⟩
  · exact .inl ⟨rfl, List.length_eq_zero_iff.1 h0⟩
  · refine .inr ⟨⟨g, 0, none⟩, cap, rfl, hnc, fun i hi => ⟨enc l[i], hn _, fun j u hj => ?_, rfl⟩⟩
    have hjn : j < n := by
      rcases Nat.lt_or_ge j n with c | c
      · exact c
      · rw [List.getElem?_eq_none (by rw [hn]; exact c)] at hj; cases hj
    rw [add_lit, add_lit, Nat.zero_add, cell_of_blk hb]
    have h3 : (cur.toList.take (l.length * n))[i * n + j]? = (l.flatMap enc)[i * n + j]? := by rw [ht]
    have hlt : i * n + j < l.length * n := by
      have : (i + 1) * n ≤ l.length * n := Nat.mul_le_mul_right _ hi
      rw [Nat.add_mul] at this; omega
    rw [List.getElem?_take_of_lt hlt, flat_get hn l i j hi hjn, hj] at h3
    simpa using h3
/-- a row of several-cell elements, as cells in a line -/
theorem rdS_flat (hn : ∀ x, (enc x).length = n) (h : rdS n (eR enc) w v l) : (v = .slice none 0 0 ∧ l = []) ∨ ∃ a c, v = .slice (some a) l.length c ∧ ∀ j u, (l.flatMap enc)[j]? = some u → w.cell? (a.add j) = some u := by
  rcases h with h | ⟨a, c, rfl, hcc, h⟩
  · exact .inl h
  · refine .inr ⟨a, c, rfl, fun j u hj => ?_⟩
    have hjl : j < (l.flatMap enc).length := by
      rcases Nat.lt_or_ge j (l.flatMap enc).length with c | c
      · exact c
      · rw [List.getElem?_eq_none c] at hj; cases hj
    rw [flat_len hn] at hjl
    have hn0 : 0 < n := by
      rcases Nat.eq_zero_or_pos n with c | c
      · rw [c, Nat.mul_zero] at hjl; omega
      · exact c
    have hi : j / n < l.length := Nat.div_lt_of_lt_mul (by rw [Nat.mul_comm]; exact hjl)
    have hr : j % n < n := Nat.mod_lt _ hn0
    have e : j = j / n * n + j % n := by rw [Nat.mul_comm]; exact (Nat.div_add_mod j n).symm
    obtain ⟨es, h1, h2, h3⟩ := h (j / n) hi
    have h3 : es = enc l[j / n] := h3
    rw [e, flat_get hn l _ _ hi hr, ← h3] at hj
    have h4 := h2 _ _ hj
    have e2 : (a.add (j / n * n)).add (j % n) = a.add j := by
      conv => rhs; rw [e]
      unfold Addr.add
      by_cases z1 : j / n * n = 0
      · simp [z1]
      · by_cases z2 : j % n = 0
        · simp [z1, z2]
        · have : ¬ (j / n * n + j % n = 0) := by omega
          simp [z1, z2, this, Nat.add_assoc]
    rw [← e2]; exact h4
/-- elements behind a row of the call's own -/
theorem ap_E {t ty : TypeId} {z u : Value} {b : Nat} {m : List α} (ht : slT P t e z n b) (hz : z.cells.size = n) (hn0 : 0 < n) (hn : ∀ x, (enc x).length = n) (h1 : ∀ x, ∀ c ∈ enc x, c.oneCell' = true) (ho : ownE B e n enc w v l) (hr : rdS n (eR enc) w u m)
    (h63 : l.length + m.length ≤ maxLen) (hbytes : (l.length + m.length) * b ≤ 140737488355328) (hB : B ≤ w.heap.size)
    (kk : ∀ v' w', ownE B e n enc w' v' (l ++ m) → w.grownBy w' v.ownBlock → (v'.ownBlock = v.ownBlock ∨ v'.ownBlock = some w.heap.size) → K v' w' Q) : sm P (Builtin.append_ #[t, t] ty #[v, u]) K w Q := by
  obtain ⟨i, g1, g2, g3, g4, g5⟩ := slT_info ht
  rcases rdS_flat hn hr with ⟨rfl, rfl⟩ | ⟨a, c, rfl, hrf⟩
  · refine ⟨v, w, run_append_owned_none w B t ty e i n g1 g2 v l.length (l.flatMap enc) ho, kk v w (by rw [List.append_nil]; exact ho) (World.grownBy.refl w _) (.inl rfl)⟩
  · obtain ⟨v', w', hrun, ho', hg, _, hf⟩ := run_append_own_at (P := P) w B t ty e i z n b g1 g2 g3 g4 g5 hz hn0 v l.length (l.flatMap enc) ho a m.length c (m.flatMap enc) (flat_len hn m) hrf (by
        intro x hx
        obtain ⟨y, _, hy⟩ := List.mem_flatMap.1 hx
        exact h1 y x hy) h63 hbytes hB
    refine ⟨v', w', hrun, kk v' w' ?_ hg hf⟩
    unfold ownE
    rw [List.length_append, List.flatMap_append]
    exact ho'
/-- the rest of a slice -/
theorem sll_drop {R : RepT α} {k : Nat} {j : IntKind} (h : rdS n R w v l) (hk : k ≤ l.length) (kk : ∀ v', rdS n R w v' (l.drop k) → (∀ a c, v' = .slice (some a) (l.drop k).length c → ∃ a' c', v = .slice (some a') l.length c' ∧ a.block = a'.block) → (v = .slice none 0 0 → v' = .slice none 0 0) → K v' w Q) : sll n v (some (.int j (k : Int))) none K w Q := by
  rcases h with ⟨rfl, rfl⟩ | ⟨a, c, rfl, hcc, h⟩
  · have : k = 0 := by simpa using hk
    subst this
    refine ⟨none, 0, 0, 0, 0, rfl, rfl, ⟨_, _, rfl, by omega, by omega, by omega⟩, ?_⟩
    exact kk _ (.inl ⟨by simp, by simp⟩) (fun a c e => by cases e) (fun _ => by simp)
  · refine ⟨some a, l.length, c, k, l.length, rfl, rfl, ⟨_, _, rfl, by omega, by omega, by omega⟩, ?_⟩
    by_cases hck : c = k
    · subst hck
      have hl : l.length = c := by omega
      rw [if_pos rfl]
      refine kk _ (.inr ⟨a, c - c, by rw [List.length_drop], by rw [List.length_drop]; omega, fun i hi => by rw [List.length_drop] at hi; omega⟩) (fun a' c' e => ⟨a, _, rfl, by simp only [Value.slice.injEq, Option.some.injEq] at e; rw [e.1]⟩) (fun e => by cases e)
    · rw [if_neg hck]
      refine kk _ (.inr ⟨a.add (k * n), c - k, by rw [List.length_drop]; rfl, by rw [List.length_drop]; omega, fun i hi => ?_⟩) (fun a' c' e => ⟨a, _, rfl, by simp only [Value.slice.injEq, Option.map_some, Option.some.injEq] at e; rw [← e.1, add_block]⟩) (fun e => by cases e)
      rw [List.length_drop] at hi
      obtain ⟨es, g1, g2, g3⟩ := h (k + i) (by omega)
      refine ⟨es, g1, ?_, by simpa using g3⟩
      have e2 : (a.add (k * n)).add (i * n) = a.add ((k + i) * n) := by
        rw [Nat.add_mul]
        unfold Addr.add
        by_cases z1 : k * n = 0
        · simp [z1]
        · by_cases z2 : i * n = 0
          · simp [z1, z2]
          · have : ¬ (k * n + i * n = 0) := by omega
            simp [z1, z2, this, Nat.add_assoc]
      rw [e2]; exact g2
theorem fold_set : ∀ (cs : List Value) (k : Nat) (base : Array Value), k + cs.length ≤ base.size → ((cs.zipIdx k).foldl (fun a p => a.setIfInBounds (0 + p.2) p.1) base).toList = base.toList.take k ++ cs ++ base.toList.drop (k + cs.length) := by
  intro cs
  induction cs with
  | nil => intro k base h; simp
  | cons c cs ih =>
    intro k base h
    simp only [List.length_cons] at h
    rw [List.zipIdx_cons, List.foldl_cons, ih (k + 1) _ (by simp; omega)]
    simp only [Nat.zero_add, Array.toList_setIfInBounds, List.length_cons]
    have hlt : k < base.toList.length := by simp; omega
    have q1 : (base.toList.set k c).take (k + 1) = base.toList.take k ++ [c] := by
      rw [List.take_succ_eq_append_getElem (by simpa using hlt)]
      simp [List.take_set]
      rw [List.set_eq_of_length_le (by simp; omega)]
    have q2 : (base.toList.set k c).drop (k + 1 + cs.length) = base.toList.drop (k + (cs.length + 1)) := by
      rw [List.drop_set_of_lt (by omega)]; congr 1; omega
    rw [q1, q2]; simp
/-- []T{x}: an element of several cells -/
theorem bslE {t : TypeId} {z : Value} {b : Nat} {x : α} (ht : slT P t e z n b) (hz : z.cells.size = n) (hn0 : 0 < n) (hn24 : n ≤ 16777216) (hn : (enc x).length = n)
    (k : ∀ w', w'.heap[w.heap.size]? = some (.cells (enc x).toArray e (0, 0)) → Below w.heap.size w w' → K (.slice (some ⟨w.heap.size, 0, none⟩) 1 1) w' Q) : sm P (Instr.buildSlice t 1 #[(0, .agg (enc x).toArray)]) K w Q := by
  obtain ⟨i, h1, h2, h3, h4, h5⟩ := slT_info ht
  refine ⟨.slice (some ⟨w.heap.size, 0, none⟩) 1 1, psh w (.cells (enc x).toArray e), ?_, k _ blk_psh_new (b_psh _ _)⟩
  have hsz : (enc x).toArray.size = n := by simpa using hn
  have hne : ¬ n = 0 := by omega
  have hle : ¬ 2 ^ 24 < n := by omega
  have hfill : ∀ base : Array Value, base.size = n → Instr.fill (fun i => some (i * n, n)) base [(0, .agg (enc x).toArray)] = some (enc x).toArray := by
    intro base hb
    simp only [Instr.fill, Value.cells, Nat.zero_mul, hsz, ne_eq, not_true_eq_false, Nat.zero_add, hb, Nat.lt_irrefl, gt_iff_lt, or_self, decide_false, Bool.or_self, Bool.false_eq_true, if_false]
    congr 1
    apply Array.toList_inj.1
    have hf := fold_set (enc x) 0 base (by omega)
    rw [← Array.foldl_toList, Array.toList_zipIdx]
    simp only [Nat.zero_add] at hf ⊢
    refine hf.trans ?_
    rw [List.take_zero, List.drop_of_length_le (by simp; omega)]
    simp
  simp only [Instr.buildSlice, underlying, Sem.run_bind, run_program, Result.andThen_ok, h1, Sem.run_pure, sizeOf, typeInfo, h2, h4, Nat.one_mul, gt_iff_lt, hle, if_false, hne, zeroValue, h3]
  rw [hfill _ (by simp)]
  simp [newRow, newObj, psh, Sem.run]
theorem rd_lit {x : α} {g : Nat} (hn : (enc x).length = n) (h : w.heap[g]? = some (.cells (enc x).toArray e (0, 0))) : rdS n (eR enc) w (.slice (some ⟨g, 0, none⟩) 1 1) [x] := by
  refine .inr ⟨⟨g, 0, none⟩, 1, rfl, Nat.le_refl _, fun i hi => ?_⟩
  have : i = 0 := by simpa using hi
  subst this
  refine ⟨enc x, hn, fun j u hj => ?_, rfl⟩
  rw [Nat.zero_mul, add_zero', add_lit, Nat.zero_add, cell_of_blk h]
  simpa using hj
end
end Sh
end Go.Proofs.Ytlmiimojgledpaa
