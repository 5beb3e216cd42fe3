/- Slices: a literal, an append to a row of the call's own. -/
import Derived.Test.YtlmiimojgledpaaSh9
import Derived.Laws.AppendOwn
import Derived.Laws.OwnMore
set_option linter.unusedVariables false
namespace Go.Proofs.Ytlmiimojgledpaa
namespace Sh
open RowKit
/-- What the tables say of a slice type T with elements E: their zero, cells, bytes. -/
def slT (P : Program) (t e : TypeId) (z : Value) (size bytes : Nat) : Prop :=
  P.underlying t = some (.slice e) ∧ (P.info? e).map (fun i => (i.zero, i.size, i.bytes)) = some (some z, size, bytes)
theorem slT_info {P : Program} {t e : TypeId} {z : Value} {size bytes : Nat} (h : slT P t e z size bytes) : ∃ i, P.underlying t = some (.slice e) ∧ P.info? e = some i ∧ i.zero = some z ∧ i.size = size ∧ i.bytes = bytes := by
  obtain ⟨h1, h2⟩ := h
  cases hi : P.info? e with
  | none => simp [hi] at h2
  | some i => simp [hi] at h2; exact ⟨i, h1, rfl, h2.1, h2.2.1, h2.2.2⟩
section
variable {P : Program} {w : World} {Q : Value → World → Prop} {K : Value → M} {B : Nat}
theorem scal_size {t : TypeId} (h : isSc P t = true) : (isAgg t).run P w = .ok false w := run_isAgg_sc h
/-- []T{x}: an element of one cell -/
theorem bsl1 {t e : TypeId} {z x : Value} {b : Nat} (h : slT P t e z 1 b) (hz : z.cells.size = 1) (hx : x.cells = #[x])
    (k : K (.slice (some ⟨w.heap.size, 0, none⟩) 1 1) (psh w (.cells #[x] e)) Q) : sm P (Instr.buildSlice t 1 #[(0, x)]) K w Q := by
  obtain ⟨i, h1, h2, h3, h4, h5⟩ := slT_info h
  refine ⟨_, _, ?_, k⟩
  have hc : ∃ y, z.cells = #[y] := by
    refine ⟨z.cells[0], ?_⟩
    apply Array.ext
    · simp [hz]
    · intro i h1 h2
      have : i = 0 := by omega
      subst this; rfl
  obtain ⟨y, hy⟩ := hc
  have hr : Array.range 1 = #[0] := rfl
  simp [Instr.buildSlice, underlying, h1, sizeOf, typeInfo, h2, h4, zeroValue, h3, hy, Instr.fill, hx, newRow, psh, hr]
/-- an append of elements to a row of the call's own -/
theorem ap_own {t ty e : TypeId} {z : Value} {size b : Nat} (h : slT P t e z size b) (hz : z.cells.size = size) (hs : 0 < size) {v : Value} {n : Nat} {xs : List Value} (hown : w.ownsRow B e size v n xs)
    {a : Addr} {m c : Nat} {news : List Value} (hl : news.length = m * size) (hnews : ∀ j u, news[j]? = some u → w.cell? (a.add j) = some u) (h1 : ∀ u ∈ news, u.oneCell' = true)
    (h63 : n + m ≤ maxLen) (hbytes : (n + m) * b ≤ 140737488355328) (hB : B ≤ w.heap.size)
    (k : ∀ v' w', w'.ownsRow B e size v' (n + m) (xs ++ news) → w.grownBy w' v.ownBlock → K v' w' Q) : sm P (Builtin.append_ #[t, t] ty #[v, .slice (some a) m c]) K w Q := by
  obtain ⟨i, g1, g2, g3, g4, g5⟩ := slT_info h
  obtain ⟨v', w', hr, ho, hg, _⟩ := run_append_own (P := P) w B t ty e i z size b g1 g2 g3 g4 g5 hz hs v n xs hown a m c news hl hnews h1 h63 hbytes hB
  exact ⟨v', w', hr, k v' w' ho hg⟩
theorem Below_grown {A : World} {w' : World} {v : Value} {e : TypeId} {size n : Nat} {xs : List Value} (h : Below B A w) (hown : w.ownsRow B e size v n xs) (hB : B ≤ w.heap.size) (hg : w.grownBy w' v.ownBlock) : Below B A w' :=
  h.grown hg hB (fun k hk => (hown.lt k hk).1)
end
/-- a slice of whole numbers, the call's own -/
def ownI (B : Nat) (e : TypeId) (k : IntKind) (w : World) (v : Value) (l : List Int) : Prop := w.ownsRow B e 1 v l.length (l.map (Value.int k))
theorem ownI_nil {B : Nat} {e : TypeId} {k : IntKind} {w : World} : ownI B e k w (.slice none 0 0) [] := World.ownsRow_nil w B e 1
theorem ownI_psh {B : Nat} {e : TypeId} {k : IntKind} {w : World} {v : Value} {l : List Int} (h : ownI B e k w v l) (o : Obj) : ownI B e k (psh w o) v l := World.ownsRow.alloc h o
theorem ownI_lit {B : Nat} {e : TypeId} {k : IntKind} {w : World} {l : List Int} (hB : B ≤ w.heap.size) (hm : l.length ≤ maxLen) :
    ownI B e k (psh w (.cells (l.map (Value.int k)).toArray e)) (.slice (some ⟨w.heap.size, 0, none⟩) l.length l.length) l := by
  have := World.ownsRow_lit (base := B) (e := e) (size := 1) w (l.map (Value.int k)).toArray l.length hB hm (by simp)
  exact this
theorem ownI_len {B : Nat} {e : TypeId} {k : IntKind} {w : World} {v : Value} {l : List Int} (h : ownI B e k w v l) : ∃ p c, v = .slice p l.length c ∧ (l ≠ [] → ∃ g, p = some ⟨g, 0, none⟩ ∧ B ≤ g ∧ g < w.heap.size) := by
  obtain ⟨h1, h2⟩ := h
  rcases h2 with ⟨rfl, h0⟩ | ⟨g, cap, cur, rfl, hg, hb, hn, hm, hs, ht⟩
  · exact ⟨none, 0, by rw [h0], fun hne => absurd (List.length_eq_zero_iff.1 h0) hne⟩
  · refine ⟨_, _, rfl, fun _ => ⟨g, rfl, hg, ?_⟩⟩
    rcases Nat.lt_or_ge g w.heap.size with h | h
    · exact h
    · simp [Array.getElem?_eq_none h] at hb
theorem ownI_cell {B : Nat} {e : TypeId} {k : IntKind} {w : World} {g c : Nat} {l : List Int} (h : ownI B e k w (.slice (some ⟨g, 0, none⟩) l.length c) l) (i : Nat) (hi : i < l.length) :
    w.cell? ⟨g, i, none⟩ = some (.int k l[i]) := by
  have := World.ownsRow.cellAt h i (by simpa using hi)
  rw [this]; simp [hi]
/-- the same list behind a world that has turned nothing of the call's own row -/
theorem ownI_below {B : Nat} {e : TypeId} {k : IntKind} {w w' : World} {v : Value} {l : List Int} (h : ownI B e k w v l) (hb : Below w.heap.size w w') : ownI B e k w' v l := by
  obtain ⟨h1, h2⟩ := h
  refine ⟨h1, ?_⟩
  rcases h2 with h2 | ⟨g, cap, cur, h3, hg, hb', rest⟩
  · exact .inl h2
  · refine .inr ⟨g, cap, cur, h3, hg, ?_, rest⟩
    rw [hb.block g ?_]; exact hb'
    rcases Nat.lt_or_ge g w.heap.size with h | h
    · exact h
    · simp [Array.getElem?_eq_none h] at hb'
theorem w64 {x : Int} (h0 : -9223372036854775808 ≤ x) (h1 : x ≤ 9223372036854775807) : IntKind.i64.wrap x = x := by
  unfold IntKind.wrap
  simp [IntKind.signed, IntKind.bits]
  omega
theorem w64_bd (x : Int) : -9223372036854775808 ≤ IntKind.i64.wrap x ∧ IntKind.i64.wrap x ≤ 9223372036854775807 := by
  unfold IntKind.wrap
  simp [IntKind.signed, IntKind.bits]
  omega
theorem wu64 {x : Int} (h0 : 0 ≤ x) (h1 : x ≤ 18446744073709551615) : IntKind.u64.wrap x = x := by
  unfold IntKind.wrap
  simp [IntKind.signed, IntKind.bits]
  omega
/-- a sum by way of uint64 -/
theorem w64_u (a b : Int) : IntKind.i64.wrap (IntKind.u64.wrap (IntKind.u64.wrap a + IntKind.u64.wrap b)) = IntKind.i64.wrap (a + b) := by
  unfold IntKind.wrap
  simp [IntKind.signed, IntKind.bits]
  try omega
/-- a slice that reads as whole numbers -/
def rdI (k : IntKind) (w : World) (v : Value) (l : List Int) : Prop :=
  ∃ p c, v = .slice p l.length c ∧ ∀ i (h : i < l.length), ∃ a, p = some a ∧ w.cell? (a.add i) = some (.int k l[i])
theorem ownI_rd {B : Nat} {e : TypeId} {k : IntKind} {w : World} {v : Value} {l : List Int} (h : ownI B e k w v l) : rdI k w v l := by
  obtain ⟨p, c, rfl, hp⟩ := ownI_len h
  refine ⟨p, c, rfl, fun i hi => ?_⟩
  obtain ⟨g, rfl, hB, hs⟩ := hp (fun e => by rw [e] at hi; simp at hi)
  refine ⟨_, rfl, ?_⟩
  rw [add_lit, Nat.zero_add]
  exact ownI_cell h i hi
theorem cell_lt {w : World} {a : Addr} {v : Value} (h : w.cell? a = some v) : a.block < w.heap.size := by
  unfold World.cell? at h
  rcases Nat.lt_or_ge a.block w.heap.size with h' | h'
  · exact h'
  · simp [Array.getElem?_eq_none h'] at h
theorem add_block (a : Addr) (n : Nat) : (a.add n).block = a.block := by unfold Addr.add; split <;> rfl
theorem cell_below {w w' : World} {a : Addr} {v : Value} (hb : Below w.heap.size w w') (h : w.cell? a = some v) : w'.cell? a = some v := by
  rw [hb.cell (cell_lt h)]; exact h
theorem rdI_below {k : IntKind} {w w' : World} {v : Value} {l : List Int} (hb : Below w.heap.size w w') (h : rdI k w v l) : rdI k w' v l := by
  obtain ⟨p, c, rfl, h⟩ := h
  refine ⟨p, c, rfl, fun i hi => ?_⟩
  obtain ⟨a, ha, hc⟩ := h i hi
  exact ⟨a, ha, cell_below hb hc⟩
theorem ia_ld {k j : IntKind} {w : World} {v : Value} {l : List Int} {i : Int} {K : Value → M} {Q : Value → World → Prop} (h : rdI k w v l) (h0 : 0 ≤ i) (h1 : i < l.length)
    (kk : ∀ (hh : i.toNat < l.length), K (.int k l[i.toNat]) w Q) : ia 1 v (.int j i) (fun p => ld p K) w Q := by
  obtain ⟨p, c, rfl, h⟩ := h
  obtain ⟨a, rfl, hc⟩ := h i.toNat (by omega)
  rw [ia_e]
  refine ⟨h0, h1, ?_⟩
  rw [Nat.mul_one, ld_e]
  exact ⟨_, hc, kk (by omega)⟩
theorem lnl_rd {k : IntKind} {w w1 : World} {v : Value} {l : List Int} {K : Value → M} {Q : Value → World → Prop} (h : rdI k w v l) (kk : K (.int .i64 l.length) w1 Q) : lnl v K w1 Q := by
  obtain ⟨p, c, rfl, h⟩ := h
  rw [lnl_e]; exact kk
/-! stores of several cells -/
theorem blk_setCell {w : World} {b o : Nat} {c : Array Value} {t : TypeId} {fr : Nat × Nat} {v : Value} (h : w.heap[b]? = some (.cells c t fr)) : (w.setCell ⟨b, o, none⟩ v).heap[b]? = some (.cells (c.setIfInBounds o v) t fr) := by
  simp [World.setCell, Array.getElem?_modify, h]
theorem blk_setCell_ne {w : World} {a : Addr} {k : Nat} {v : Value} (h : k ≠ a.block) : (w.setCell a v).heap[k]? = w.heap[k]? := Below.heap_setCell w a v k h
theorem frozen_zero {w : World} {b o : Nat} {c : Array Value} {t : TypeId} (h : w.heap[b]? = some (.cells c t (0, 0))) : w.frozen? ⟨b, o, none⟩ = false := by
  simp [World.frozen?, h]
structure Upd (b : Nat) (w w' : World) : Prop where
  os : w'.os = w.os
  tape : w'.tape = w.tape
  output : w'.output = w.output
  size : w'.heap.size = w.heap.size
  block : ∀ k, k ≠ b → w'.heap[k]? = w.heap[k]?
theorem Upd.below {b B : Nat} {w w' : World} (h : Upd b w w') (hB : B ≤ b) : Below B w w' := ⟨h.os, h.tape, h.output, by rw [h.size]; exact Nat.le_refl _, fun k hk => h.block k (by omega)⟩
theorem sts_blk {b o : Nat} {t : TypeId} : ∀ (l : List Value) (i : Nat) (w : World) (c : Array Value), w.heap[b]? = some (.cells c t (0, 0)) → o + i + l.length ≤ c.size → (∀ v ∈ l, v.oneCell' = true) →
    ∃ w' c', sts w ⟨b, o, none⟩ l i = some w' ∧ w'.heap[b]? = some (.cells c' t (0, 0)) ∧ c'.toList = c.toList.take (o + i) ++ l ++ c.toList.drop (o + i + l.length) ∧ Upd b w w' := by
  intro l
  induction l with
  | nil => intro i w c h hs h1; exact ⟨w, c, rfl, h, by simp, rfl, rfl, rfl, rfl, fun _ _ => rfl⟩
  | cons v l ih =>
    intro i w c h hs h1
    simp only [List.length_cons] at hs
    have hc : (w.cell? ⟨b, o + i, none⟩).isSome = true := by rw [cell_of_blk h]; simp; omega
    have hf : w.frozen? ⟨b, o + i, none⟩ = false := frozen_zero h
    have hv := h1 v (by simp)
    obtain ⟨w', c', e1, e2, e3, e4⟩ := ih (i + 1) (w.setCell ⟨b, o + i, none⟩ v) _ (blk_setCell h) (by simp; omega) (fun u hu => h1 u (by simp [hu]))
    refine ⟨w', c', ?_, e2, ?_, ?_⟩
    · simp only [sts, add_lit, hc, hf, hv, Bool.not_false, Bool.and_self, if_true]
      exact e1
    · rw [e3]
      simp only [Array.toList_setIfInBounds, List.length_cons]
      have hlt : o + i < c.toList.length := by simp; omega
      have q1 : (c.toList.set (o + i) v).take (o + (i + 1)) = c.toList.take (o + i) ++ [v] := by
        rw [← Nat.add_assoc, List.take_succ_eq_append_getElem (by simpa using hlt)]
        simp [List.take_set]
        rw [List.set_eq_of_length_le (by simp; omega)]
      have q2 : (c.toList.set (o + i) v).drop (o + (i + 1) + l.length) = c.toList.drop (o + i + (l.length + 1)) := by
        rw [List.drop_set_of_lt (by omega)]; congr 1; omega
      rw [q1, q2]; simp
    · exact ⟨e4.os, e4.tape, e4.output, by rw [e4.size, size_setCell], fun k hk => by rw [e4.block k hk]; exact blk_setCell_ne hk⟩
/-- a whole block stored anew -/
theorem stn_box {n b : Nat} {w : World} {c cs : Array Value} {t : TypeId} {K0 : M} {Q : Value → World → Prop} (h : w.heap[b]? = some (.cells c t (0, 0))) (hc : c.size = n) (hn : cs.size = n) (h1 : ∀ v ∈ cs.toList, v.oneCell' = true)
    (k : ∀ w', w'.heap[b]? = some (.cells cs t (0, 0)) → Upd b w w' → K0 w' Q) : stn n (.pointer (some ⟨b, 0, none⟩)) (.agg cs) K0 w Q := by
  obtain ⟨w', c', e1, e2, e3, e4⟩ := sts_blk (o := 0) cs.toList 0 w c h (by simp; omega) h1
  refine ⟨_, cs, w', rfl, rfl, hn, e1, k w' ?_ e4⟩
  have : c' = cs := by
    apply Array.ext'
    rw [e3]
    simp [hn, hc]
  rw [← this]; exact e2
theorem zero_run {P : Program} {t : TypeId} {z : Value} (hz : zeroIs P t z) (w : World) : (zeroValue t).run P w = .ok z w := by
  unfold zeroIs at hz
  cases hu : P.info? t with
  | none => simp [hu] at hz
  | some i => simp [hu] at hz; simp [zeroValue, typeInfo, hu, hz]
end Sh
end Go.Proofs.Ytlmiimojgledpaa
