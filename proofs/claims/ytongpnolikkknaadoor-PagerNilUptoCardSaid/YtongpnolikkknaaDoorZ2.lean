/- Arguments opened, whatever their type: whole numbers, truths, texts, slices, structs, arrays; what a slice of them reads as; one block changed. -/
import Derived.Test.YtongpnolikkknaaDoorZ1
import Derived.ChangeShapes
import Derived.Test.YtongpnolikkknaaDoorRows
import Derived.Laws.Pointers
import Derived.Laws.Bits64b
import Derived.MapKept
import Derived.Maps.RangeRun
import Derived.DeepKeys5
import Derived.Maps.AppendAt
import Derived.Laws.CopyRow
import Derived.Laws.IdiomCopy
set_option linter.unusedVariables false
set_option linter.unusedSimpArgs false
set_option linter.unusedSectionVars false
namespace Go.Proofs.YtongpnolikkknaaDoor
namespace Sh
open RowKit ChangeShapes
/-! one block changed -/
/-- below the old end all is as it was but block p -/
structure Chg (p : Nat) (w w' : World) : Prop where
  os : w'.os = w.os
  tape : w'.tape = w.tape
  output : w'.output = w.output
  size : w.heap.size ≤ w'.heap.size
  block : ∀ k, k < w.heap.size → k ≠ p → w'.heap[k]? = w.heap[k]?
theorem Upd.chg {p : Nat} {w w' : World} (h : Upd p w w') : Chg p w w' := ⟨h.os, h.tape, h.output, by rw [h.size]; exact Nat.le_refl _, fun k _ hk => h.block k hk⟩
theorem Chg.refl (p : Nat) (w : World) : Chg p w w := ⟨rfl, rfl, rfl, Nat.le_refl _, fun _ _ _ => rfl⟩
theorem Chg.of_below {p : Nat} {w w' : World} (h : Below w.heap.size w w') : Chg p w w' := ⟨h.os, h.tape, h.output, h.size, fun k hk _ => h.block k hk⟩
theorem Chg.trans {p : Nat} {a b c : World} (h : Chg p a b) (k : Chg p b c) : Chg p a c :=
  ⟨k.os.trans h.os, k.tape.trans h.tape, k.output.trans h.output, Nat.le_trans h.size k.size, fun i hi hp => (k.block i (Nat.lt_of_lt_of_le hi h.size) hp).trans (h.block i hi hp)⟩
theorem Chg.below {p B : Nat} {w w' : World} (h : Chg p w w') (hB : B ≤ p) (hw : B ≤ w.heap.size) : Below B w w' := ⟨h.os, h.tape, h.output, h.size, fun k hk => h.block k (by omega) (by omega)⟩
theorem Chg.keep {p q : Nat} {w w' : World} {o : Obj} (h : Chg p w w') (hq : w.heap[q]? = some o) (hne : q ≠ p) : w'.heap[q]? = some o := by rw [h.block q (blk_lt hq) hne]; exact hq
theorem Chg.drw {p : Nat} {w w' : World} (h : Chg p w w') : Chg p w (drw w') := ⟨h.os, h.tape, h.output, h.size, h.block⟩
theorem Chg.cell {p : Nat} {w w' : World} {a : Addr} {v : Value} (h : Chg p w w') (hc : w.cell? a = some v) (hne : a.block ≠ p) : w'.cell? a = some v := by
  have := cell_lt hc
  unfold World.cell? at hc ⊢
  rw [h.block _ this hne]; exact hc
theorem bc {B p : Nat} {w0 w w' : World} (b : Below B w0 w) (hB : B ≤ p) (hw : B ≤ w.heap.size) (h : Chg p w w') : Below B w0 w' := b.trans (h.below hB hw)
section
variable {w : World} {Q : Value → World → Prop} {K : Value → M} {K0 : M} {B : Nat}
theorem rds2 {b : Nat} {c : Array Value} {t : TypeId} {fr : Nat × Nat} (h : w.heap[b]? = some (.cells c t fr)) : rds w ⟨b, 0, none⟩ c :=
  rds_of_blk h (fun j v hj => by simpa using hj)
theorem ldn_box {n b : Nat} {c : Array Value} {t : TypeId} {fr : Nat × Nat} (h : w.heap[b]? = some (.cells c t fr)) (hn : c.size = n) (k : K (.agg c) w Q) : ldn n (.pointer (some ⟨b, 0, none⟩)) K w Q :=
  ⟨_, c, rfl, hn, rds2 h, k⟩
theorem ld_box {b o : Nat} {c : Array Value} {t : TypeId} {fr : Nat × Nat} {v : Value} (h : w.heap[b]? = some (.cells c t fr)) (hv : c[o]? = some v) (k : K v w Q) : ld (.pointer (some ⟨b, o, none⟩)) K w Q :=
  ⟨_, v, rfl, by rw [cell_of_blk h]; exact hv, k⟩
/-- one cell of a block stored -/
theorem st_box {b o : Nat} {c : Array Value} {t : TypeId} {v : Value} (h : w.heap[b]? = some (.cells c t (0, 0))) (ho : o < c.size) (hv : v.oneCell' = true)
    (k : ∀ w', w'.heap[b]? = some (.cells (c.setIfInBounds o v) t (0, 0)) → Upd b w w' → K0 w' Q) : st (.pointer (some ⟨b, o, none⟩)) v K0 w Q := by
  rw [st_e]
  refine ⟨by rw [cell_of_blk h]; simp [ho], frozen_zero h, hv, k _ (blk_setCell h) ?_⟩
  exact ⟨rfl, rfl, rfl, size_setCell, fun k hk => blk_setCell_ne hk⟩
end
/-! slices of whatever -/
abbrev RepT (α : Type) := World → List Value → α → Prop
def cellsAt (w : World) (a : Addr) (es : List Value) : Prop := ∀ j v, es[j]? = some v → w.cell? (a.add j) = some v
/-- a slice, each element n cells, that reads as l -/
def rdS {α : Type} (n : Nat) (R : RepT α) (w : World) (v : Value) (l : List α) : Prop :=
  (v = .slice none 0 0 ∧ l = []) ∨ ∃ a c, v = .slice (some a) l.length c ∧ l.length ≤ c ∧ ∀ i (h : i < l.length), ∃ es, es.length = n ∧ cellsAt w (a.add (i * n)) es ∧ R w es l[i]
theorem cellsAt_below {w w' : World} {a : Addr} {es : List Value} (hb : Below w.heap.size w w') (h : cellsAt w a es) : cellsAt w' a es := fun j v hj => cell_below hb (h j v hj)
def Stable {α : Type} (R : RepT α) : Prop := ∀ (w w' : World) (es : List Value) (x : α), Below w.heap.size w w' → R w es x → R w' es x
theorem rdS_below {α : Type} {n : Nat} {R : RepT α} (hR : Stable R) {w w' : World} {v : Value} {l : List α} (hb : Below w.heap.size w w') (h : rdS n R w v l) : rdS n R w' v l := by
  rcases h with h | ⟨a, c, rfl, hcc, h⟩
  · exact .inl h
  · refine .inr ⟨a, c, rfl, hcc, fun i hi => ?_⟩
    obtain ⟨es, h1, h2, h3⟩ := h i hi
    exact ⟨es, h1, cellsAt_below hb h2, hR _ _ _ _ hb h3⟩
theorem rdS_mono {α : Type} {n : Nat} {R R' : RepT α} {w : World} (hR : ∀ es x, R w es x → R' w es x) {v : Value} {l : List α} (h : rdS n R w v l) : rdS n R' w v l := by
  rcases h with h | ⟨a, c, rfl, hcc, h⟩
  · exact .inl h
  · refine .inr ⟨a, c, rfl, hcc, fun i hi => ?_⟩
    obtain ⟨es, h1, h2, h3⟩ := h i hi
    exact ⟨es, h1, h2, hR _ _ h3⟩
theorem rdS_len {α : Type} {n : Nat} {R : RepT α} {w : World} {v : Value} {l : List α} (h : rdS n R w v l) : ∃ p c, v = .slice p l.length c := by
  rcases h with ⟨rfl, rfl⟩ | ⟨a, c, rfl, hcc, h⟩
  · exact ⟨none, 0, rfl⟩
  · exact ⟨some a, c, rfl⟩
theorem lnl_S {α : Type} {n : Nat} {R : RepT α} {w w1 : World} {v : Value} {l : List α} {K : Value → M} {Q : Value → World → Prop} (h : rdS n R w v l) (kk : K (.int .i64 l.length) w1 Q) : lnl v K w1 Q := by
  obtain ⟨p, c, rfl⟩ := rdS_len h
  rw [lnl_e]; exact kk
theorem ia_S {α : Type} {n : Nat} {R : RepT α} {w : World} {v : Value} {l : List α} {i : Nat} {k : IntKind} {K : Value → M} {Q : Value → World → Prop} (h : rdS n R w v l) (hi : i < l.length)
    (kk : ∀ a es, es.length = n → cellsAt w a es → R w es l[i] → K (.pointer (some a)) w Q) : ia n v (.int k (i : Int)) K w Q := by
  rcases h with ⟨rfl, rfl⟩ | ⟨a, c, rfl, hcc, h⟩
  · simp at hi
  · obtain ⟨es, h1, h2, h3⟩ := h i hi
    rw [ia_e]
    refine ⟨by omega, by omega, ?_⟩
    exact kk _ es h1 (by rw [Int.toNat_natCast]; exact h2) h3
/-- an element's place, the same in whatever world -/
theorem rdS_at {α : Type} {n : Nat} {R : RepT α} {w : World} {v : Value} {l : List α} (h : rdS n R w v l) {i : Nat} (hi : i < l.length) :
    ∃ ad es, es.length = n ∧ cellsAt w ad es ∧ R w es l[i] ∧ ∀ (k : IntKind) (K : Value → M) (w' : World) (Q : Value → World → Prop), ia n v (.int k (i : Int)) K w' Q = K (.pointer (some ad)) w' Q := by
  rcases h with ⟨rfl, rfl⟩ | ⟨a, c, rfl, hcc, h⟩
  · simp at hi
  · obtain ⟨es, h1, h2, h3⟩ := h i hi
    refine ⟨_, es, h1, h2, h3, fun k K w' Q => ?_⟩
    rw [ia_e, Int.toNat_natCast]
    apply propext
    constructor
    · rintro ⟨_, _, h⟩; exact h
    · intro h; exact ⟨by omega, by omega, h⟩
theorem cell_at {W w : World} {ad : Addr} {es : List Value} {j : Nat} {v : Value} (hb : Below W.heap.size W w) (hc : cellsAt W ad es) (hj : es[j]? = some v) : w.cell? (ad.add j) = some v := cell_below hb (hc j v hj)
theorem ldn_at {n : Nat} {w : World} {a : Addr} {es : List Value} {K : Value → M} {Q : Value → World → Prop} (hc : cellsAt w a es) (hn : es.length = n) (k : K (.agg es.toArray) w Q) : ldn n (.pointer (some a)) K w Q :=
  ⟨a, es.toArray, rfl, by simpa using hn, fun j v hj => hc j v (by simpa using hj), k⟩
theorem ld_at {j : Nat} {w : World} {a : Addr} {es : List Value} {v : Value} {K : Value → M} {Q : Value → World → Prop} (hc : cellsAt w a es) (hj : es[j]? = some v) (k : K v w Q) : ld (.pointer (some (a.add j))) K w Q :=
  ⟨_, v, rfl, hc j v hj, k⟩
theorem cellsAt_get {w : World} {a : Addr} {es : List Value} {j : Nat} {v : Value} (hc : cellsAt w a es) (hj : es[j]? = some v) : w.cell? (a.add j) = some v := hc j v hj
theorem add_zero' (a : Addr) : a.add 0 = a := rfl
/-- memory's shape of a row's own, as a reading -/
theorem cellsAt_blk {w : World} {b : Nat} {c : Array Value} {t : TypeId} {fr : Nat × Nat} (h : w.heap[b]? = some (.cells c t fr)) : cellsAt w ⟨b, 0, none⟩ c.toList := fun j v hj => by
  rw [add_lit, Nat.zero_add, cell_of_blk h]; simpa using hj
/-! opening -/
section
variable {P : Program}
/-- whatever is read as a T is an α, told by R, of at most that bulk -/
def Opens (P : Program) (t : TypeId) (α : Type) (R : RepT α) (bulk : α → Nat) : Prop :=
  ∀ {H : Type} (enc : TypeId × Value → H) (w : World) (held : Bool) (fuel : Nat) (cs : List Value) (x : DataW H × List MemPlace),
    DataW.trod enc P w 0 (fun _ => true) held fuel t cs = some x → (x.1.weights P t).all (· ≤ reachBytes) = true → ∃ a, R w cs a ∧ bulk a ≤ Rows.uptoBulk x.1
theorem step_of {H : Type} {enc : TypeId × Value → H} {w : World} {sp : Nat → Bool} {held : Bool} {fuel : Nat} {t : TypeId} {cs : List Value} {x : DataW H × List MemPlace} (h : DataW.trod enc P w 0 sp held fuel t cs = some x) :
    ∃ n, fuel = n + 1 ∧ DataW.trod enc P w 0 sp held (n + 1) t cs = some x := by
  cases fuel with
  | zero => simp [DataW.trod] at h
  | succ n => exact ⟨n, rfl, h⟩
theorem mapM_all' {α β : Type} {g : α → Option β} : ∀ {l : List α} {ys : List β}, l.mapM g = some ys → ys.length = l.length ∧ ∀ (i : Nat) (h : i < l.length), ∃ y, g l[i] = some y ∧ ys[i]? = some y := by
  intro l
  induction l with
  | nil => intro ys h; simp at h; subst h; simp
  | cons a l ih =>
    intro ys h
    rw [List.mapM_cons] at h
    cases ha : g a with
    | none => simp [ha] at h
    | some y =>
      cases hl : l.mapM g with
      | none => simp [ha, hl] at h
      | some zs =>
        simp [ha, hl] at h
        subst h
        obtain ⟨h1, h2⟩ := ih hl
        refine ⟨by simp [h1], fun i hi => ?_⟩
        cases i with
        | zero => exact ⟨y, ha, rfl⟩
        | succ i => simpa using h2 i (by simpa using hi)
def iR (k : IntKind) : RepT Int := fun _ cs a => cs = [.int k a] ∧ (Lit.int k a).wf = true
def bR : RepT Bool := fun _ cs a => cs = [.bool a]
def sR : RepT ByteArray := fun _ cs s => cs = [.string s] ∧ s.size ≤ reachBytes
/-- a slice: its cell, what it reads as, its size -/
def lR {α : Type} (n b : Nat) (R : RepT α) : RepT (List α) := fun w cs l => ∃ v, cs = [v] ∧ rdS n R w v l ∧ l.length * b ≤ reachBytes
theorem iR_st {k : IntKind} : Stable (iR k) := fun _ _ _ _ _ h => h
theorem bR_st : Stable bR := fun _ _ _ _ _ h => h
theorem sR_st : Stable sR := fun _ _ _ _ _ h => h
theorem op_int {t : TypeId} {k : IntKind} (hu : P.underlying t = some (.int k)) : Opens P t Int (iR k) (fun _ => 1) := by
  intro H enc w held fuel cs x h _
  obtain ⟨a, h1, h2, h3⟩ := DataW.trod_int hu h
  refine ⟨a, ⟨h1, h3⟩, ?_⟩
  cases x with | mk d p => cases d with
    | lit l => cases l <;> simp [Rows.uptoBulk]
    | _ => simp [Rows.uptoBulk]
theorem op_bool {t : TypeId} (hu : P.underlying t = some .bool) : Opens P t Bool bR (fun _ => 1) := by
  intro H enc w held fuel cs x h _
  obtain ⟨n, rfl, h⟩ := step_of h
  rw [DataW.trod_step] at h
  unfold DataW.trodStep at h
  simp only [hu] at h
  split at h <;> first | (cases h; done) | (rename_i heq _; cases heq; done) | skip
  rename_i b _ _
  cases h
  exact ⟨b, rfl, by simp [Rows.uptoBulk]⟩
theorem op_str {t : TypeId} (hu : P.underlying t = some .string) : Opens P t ByteArray sR (fun s => s.size + 1) := by
  intro H enc w held fuel cs x h hw
  obtain ⟨n, rfl, h⟩ := step_of h
  rw [DataW.trod_step] at h
  unfold DataW.trodStep at h
  simp only [hu] at h
  split at h <;> first | (cases h; done) | (rename_i heq _; cases heq; done) | skip
  rename_i s _ _
  split at h
  · rename_i h1
    cases h
    have hw' : s.data.toList.length ≤ reachBytes := by simpa only [DataW.weights, List.all_cons, List.all_nil, Bool.and_true, decide_eq_true_eq] using hw
    refine ⟨s, ⟨rfl, by rw [Array.length_toList] at hw'; exact hw'⟩, ?_⟩
    simp [Rows.uptoBulk]
  · cases h
theorem cells?_at {w : World} {a : Addr} {n : Nat} {es : List Value} (h : w.cells? 0 a n = some es) : es.length = n ∧ cellsAt w a es := by
  unfold World.cells? at h
  rw [if_pos (Nat.zero_le _)] at h
  obtain ⟨h1, h2⟩ := mapM_all' h
  rw [List.length_range] at h1
  refine ⟨h1, fun j v hj => ?_⟩
  have hlt : j < es.length := by
    rcases Nat.lt_or_ge j es.length with h | h
    · exact h
    · simp [List.getElem?_eq_none h] at hj
  obtain ⟨y, g1, g2⟩ := h2 j (by simpa [← h1] using hlt)
  rw [List.getElem_range] at g1
  rw [hj] at g2
  cases g2
  exact g1
theorem sum_le_all {H : Type} {α : Type} {b : α → Nat} : ∀ (l : List α) (ys : List (DataW H)), l.length = ys.length → (∀ (i : Nat) (h : i < l.length) (h' : i < ys.length), b l[i] ≤ Rows.uptoBulk ys[i]) → (l.map b).sum ≤ Rows.uptoBulkAll ys := by
  intro l
  induction l with
  | nil => intro ys _ _; simp
  | cons x l ih =>
    intro ys hl h
    cases ys with
    | nil => simp at hl
    | cons y ys =>
      have h0 := h 0 (by simp) (by simp)
      have := ih ys (by simpa using hl) (fun i h1 h2 => h (i + 1) (Nat.succ_lt_succ h1) (Nat.succ_lt_succ h2))
      simp only [List.map_cons, List.sum_cons, Rows.uptoBulkAll]
      simp at h0
      omega
theorem choose_list {α : Type} {n : Nat} {p : Nat → α → Prop} (h : ∀ i, i < n → ∃ a, p i a) : ∃ l : List α, l.length = n ∧ ∀ i (hi : i < l.length), p i l[i] := by
  induction n with
  | zero => exact ⟨[], rfl, fun i hi => by simp at hi⟩
  | succ n ih =>
    obtain ⟨l, h1, h2⟩ := ih (fun i hi => h i (by omega))
    obtain ⟨a, ha⟩ := h n (by omega)
    refine ⟨l ++ [a], by simp [h1], fun i hi => ?_⟩
    by_cases c : i < l.length
    · rw [List.getElem_append_left c]; exact h2 i c
    · have : i = l.length := by simp at hi; omega
      subst this
      simp [h1, ha]
theorem weights_all {H : Type} {e : TypeId} : ∀ (l : List (DataW H)), (DataW.weightsAll P e l).all (· ≤ reachBytes) = true → ∀ (i : Nat) (h : i < l.length), (l[i].weights P e).all (· ≤ reachBytes) = true := by
  intro l
  induction l with
  | nil => intro _ i h; simp at h
  | cons d l ih =>
    intro hw i h
    simp only [DataW.weightsAll, List.all_append, Bool.and_eq_true] at hw
    cases i with
    | zero => exact hw.1
    | succ i => exact ih hw.2 i (by simpa using h)
theorem op_slice {t e : TypeId} {n : Nat} {α : Type} {R : RepT α} {b : α → Nat} (hu : P.underlying t = some (.slice e)) (hn : P.cellsOf e = n) (he : Opens P e α R b) : Opens P t (List α) (lR n (P.bytesOf e) R) (fun l => (l.map b).sum + 1) := by
  intro H enc w held fuel cs x h hw
  subst hn
  obtain ⟨f, rfl, h⟩ := step_of h
  rw [DataW.trod_step] at h
  unfold DataW.trodStep at h
  simp only [hu] at h
  split at h <;> first | (cases h; done) | (rename_i heq _; cases heq; done) | skip
  · cases h; exact ⟨[], ⟨_, rfl, .inl ⟨rfl, rfl⟩, by simp⟩, by simp [Rows.uptoBulk]⟩
  · rename_i a len cap heq _
    cases heq
    simp only [Option.ite_none_right_eq_some, Option.bind_eq_some_iff, Option.map_eq_some_iff, if_true] at h
    obtain ⟨hc, ys, hy, zs, hz, rfl⟩ := h
    obtain ⟨hl, hall⟩ := mapM_all' hy
    rw [List.length_range] at hl
    simp only [DataW.weights, hu, List.all_cons, List.all_append, Bool.and_eq_true, decide_eq_true_eq] at hw
    have hwa := fun (i : Nat) (h : i < (ys.map (·.1)).length) => weights_all (ys.map (·.1)) hw.2.1 i h
    have key : ∀ i, i < len → ∃ q : α, ∃ y es, ys[i]? = some y ∧ es.length = P.cellsOf e ∧ cellsAt w (a.add (i * P.cellsOf e)) es ∧ R w es q ∧ b q ≤ Rows.uptoBulk y.1 := by
      intro i hi
      obtain ⟨y, g1, g2⟩ := hall i (by simpa using hi)
      rw [List.getElem_range] at g1
      cases hcs : w.cells? 0 (a.add (i * P.cellsOf e)) (P.cellsOf e) with
      | none => simp [hcs] at g1
      | some es =>
        simp [hcs] at g1
        obtain ⟨k1, k2⟩ := cells?_at hcs
        have hlt : i < ys.length := by omega
        rw [List.getElem?_eq_getElem hlt] at g2
        have hww := hwa i (by simpa using hlt)
        cases g2
        obtain ⟨q, k3, k4⟩ := he enc w held f es _ g1 (by simpa using hww)
        have g2 : ys[i]? = some ys[i] := List.getElem?_eq_getElem hlt
        exact ⟨q, _, es, g2, k1, k2, k3, k4⟩
    obtain ⟨l, hll, hlp⟩ := choose_list key
    refine ⟨l, ?_, ?_⟩
    · refine ⟨_, rfl, .inr ⟨a, cap, by rw [hll], by rw [hll]; exact hc.2.1, fun i hi => ?_⟩, ?_⟩
      · obtain ⟨y, es, _, k1, k2, k3, _⟩ := hlp i hi
        exact ⟨es, k1, k2, k3⟩
      · have h9 := hw.1
        rw [List.length_map, hl] at h9
        rw [hll]
        exact Nat.le_trans (Nat.mul_le_mul_right _ (Nat.le_add_right _ _)) h9
    · simp only [Rows.uptoBulk]
      have := sum_le_all (b := b) l (ys.map (·.1)) (by simp [hll, hl]) (fun i h1 h2 => by
        obtain ⟨y, es, k0, _, _, _, k4⟩ := hlp i h1
        have h3 : i < ys.length := by simpa using h2
        rw [List.getElem?_eq_getElem h3] at k0
        cases k0
        simpa using k4)
      omega
/-- a struct's fields, one after the other -/
def OpensF (P : Program) (fs : List Field) (α : Type) (R : RepT α) (bulk : α → Nat) : Prop :=
  ∀ {H : Type} (enc : TypeId × Value → H) (w : World) (held : Bool) (fuel : Nat) (cs : List Value) (ys : List (DataW H × List MemPlace)),
    (fs.mapM fun f => DataW.trod enc P w 0 (fun _ => true) held fuel f.type ((cs.drop f.offset).take (P.cellsOf f.type))) = some ys →
    (DataW.weightsEach P (fs.map (·.type)) (ys.map (·.1))).all (· ≤ reachBytes) = true → ∃ a, R w cs a ∧ bulk a ≤ Rows.uptoBulkAll (ys.map (·.1))
theorem opf_nil : OpensF P [] Unit (fun _ _ _ => True) (fun _ => 0) := by
  intro H enc w held fuel cs ys h _
  exact ⟨(), trivial, by simp⟩
theorem opf_cons {f : Field} {fs : List Field} {n : Nat} {α β : Type} {R : RepT α} {S : RepT β} {b : α → Nat} {c : β → Nat} (hn : P.cellsOf f.type = n) (he : Opens P f.type α R b) (hf : OpensF P fs β S c) :
    OpensF P (f :: fs) (α × β) (fun w cs x => R w ((cs.drop f.offset).take n) x.1 ∧ S w cs x.2) (fun x => b x.1 + c x.2) := by
  intro H enc w held fuel cs ys h hw
  rw [List.mapM_cons] at h
  cases h1 : DataW.trod enc P w 0 (fun _ => true) held fuel f.type ((cs.drop f.offset).take (P.cellsOf f.type)) with
  | none => simp [h1] at h
  | some y =>
    simp only [h1] at h
    cases h2 : (fs.mapM fun f => DataW.trod enc P w 0 (fun _ => true) held fuel f.type ((cs.drop f.offset).take (P.cellsOf f.type))) with
    | none => simp [h2] at h
    | some zs =>
      simp [h2] at h
      subst h
      simp only [List.map_cons, DataW.weightsEach, List.all_append, Bool.and_eq_true] at hw
      obtain ⟨a, k1, k2⟩ := he enc w held fuel _ y h1 hw.1
      obtain ⟨a', k3, k4⟩ := hf enc w held fuel cs zs h2 hw.2
      rw [hn] at k1
      exact ⟨(a, a'), ⟨k1, k3⟩, by simp only [List.map_cons, Rows.uptoBulkAll]; omega⟩
theorem op_struct {t : TypeId} {fs : Array Field} {n : Nat} {α : Type} {R : RepT α} {b : α → Nat} (hu : P.underlying t = some (.struct fs)) (hn : P.cellsOf t = n) (hf : OpensF P fs.toList α R b) : Opens P t α (fun w cs x => cs.length = n ∧ R w cs x) (fun x => b x + 1) := by
  intro H enc w held fuel cs x h hw
  obtain ⟨f, rfl, h⟩ := step_of h
  rw [DataW.trod_step] at h
  unfold DataW.trodStep at h
  simp only [hu, hn] at h
  simp only [Option.ite_none_right_eq_some, Option.map_eq_some_iff] at h
  obtain ⟨hc, ys, hy, rfl⟩ := h
  have hf' : (fs.toList.mapM fun f' => DataW.trod enc P w 0 (fun _ => true) held f f'.type ((cs.drop f'.offset).take (P.cellsOf f'.type))) = some ys := by simpa using hy
  simp only [DataW.weights, hu] at hw
  obtain ⟨a, k1, k2⟩ := hf enc w held f cs ys hf' hw
  exact ⟨a, ⟨hc, k1⟩, by simp only [Rows.uptoBulk]; omega⟩
theorem op_arr {t e : TypeId} {m n k : Nat} {α : Type} {R : RepT α} {b : α → Nat} (hu : P.underlying t = some (.array m e)) (hn : P.cellsOf t = k) (hk : P.cellsOf e = n) (he : Opens P e α R b) :
    Opens P t (List α) (fun w cs l => cs.length = k ∧ l.length = m ∧ ∀ i (h : i < l.length), R w ((cs.drop (i * n)).take n) l[i]) (fun l => (l.map b).sum + 1) := by
  intro H enc w held fuel cs x h hw
  obtain ⟨f, rfl, h⟩ := step_of h
  rw [DataW.trod_step] at h
  unfold DataW.trodStep at h
  simp only [hu, hn] at h
  simp only [Option.ite_none_right_eq_some, Option.map_eq_some_iff, hk] at h
  obtain ⟨hc, ys, hy, rfl⟩ := h
  obtain ⟨hl, hall⟩ := mapM_all' hy
  rw [List.length_range] at hl
  simp only [DataW.weights, hu] at hw
  have hwa := fun (i : Nat) (h : i < (ys.map (·.1)).length) => weights_all (ys.map (·.1)) hw i h
  have key : ∀ i, i < m → ∃ q : α, ∃ y, ys[i]? = some y ∧ R w ((cs.drop (i * n)).take n) q ∧ b q ≤ Rows.uptoBulk y.1 := by
    intro i hi
    obtain ⟨y, g1, g2⟩ := hall i (by simpa using hi)
    rw [List.getElem_range] at g1
    have hlt : i < ys.length := by omega
    rw [List.getElem?_eq_getElem hlt] at g2
    have hww := hwa i (by simpa using hlt)
    cases g2
    obtain ⟨q, k3, k4⟩ := he enc w held f _ _ g1 (by simpa using hww)
    exact ⟨q, _, List.getElem?_eq_getElem hlt, k3, k4⟩
  obtain ⟨l, hll, hlp⟩ := choose_list key
  refine ⟨l, ⟨hc, hll, fun i hi => ?_⟩, ?_⟩
  · obtain ⟨y, _, k3, _⟩ := hlp i hi
    exact k3
  · simp only [Rows.uptoBulk]
    have := sum_le_all (b := b) l (ys.map (·.1)) (by simp [hll, hl]) (fun i h1 h2 => by
      obtain ⟨y, k0, _, k4⟩ := hlp i h1
      have h3 : i < ys.length := by simpa using h2
      rw [List.getElem?_eq_getElem h3] at k0
      cases k0
      simpa using k4)
    omega
theorem Opens.mono {t : TypeId} {α : Type} {β : Type} {R : RepT α} {S : RepT β} {b : α → Nat} {c : β → Nat} (h : Opens P t α R b) (f : ∀ w cs a, R w cs a → ∃ x, S w cs x ∧ c x ≤ b a) : Opens P t β S c := by
  intro H enc w held fuel cs x hx hw
  obtain ⟨a, h1, h2⟩ := h enc w held fuel cs x hx hw
  obtain ⟨y, h3, h4⟩ := f w cs a h1
  exact ⟨y, h3, Nat.le_trans h4 h2⟩
end
/-- an argument of one cell -/
theorem open_one {P : Program} {t : TypeId} {α : Type} {R : RepT α} {b : α → Nat} (h : Opens P t α R b) (hs : isSc P t = true) (h1 : ∀ w cs a, R w cs a → ∃ v, cs = [v])
    {H : Type} {enc : TypeId × Value → H} {W : World} {held : Bool} {r : Reach} {b0 : Nat} {v : Value} {d : DataW H} {ps : List MemPlace}
    (hv : Value.okWide P W r b0 t v) (hd : DataW.Trod enc P W 0 (fun _ => true) held t v d ps) (hw : (d.weights P t).all (· ≤ reachBytes) = true) : ∃ a, R W [v] a ∧ b a ≤ Rows.uptoBulk d := by
  obtain ⟨fuel, hf⟩ := hd
  obtain ⟨a, h2, h3⟩ := h enc W held fuel _ _ hf hw
  refine ⟨a, ?_, h3⟩
  suffices v.cells = #[v] by rw [this] at h2; exact h2
  cases v with
  | agg cs =>
    exfalso
    unfold isSc at hs
    unfold Value.okWide at hv
    cases hu : P.underlying t with
    | none => simp [hu] at hs
    | some u => cases u <;> simp [hu] at hs <;> simp [hu, Cell.okWide, Cell.ok] at hv
  | _ => rfl
/-- an argument of several -/
theorem open_agg {P : Program} {t : TypeId} {n : Nat} {α : Type} {R : RepT α} {b : α → Nat} (h : Opens P t α R b) (hs : isAg P t n = true)
    {H : Type} {enc : TypeId × Value → H} {W : World} {held : Bool} {r : Reach} {b0 : Nat} {v : Value} {d : DataW H} {ps : List MemPlace}
    (hv : Value.okWide P W r b0 t v) (hd : DataW.Trod enc P W 0 (fun _ => true) held t v d ps) (hw : (d.weights P t).all (· ≤ reachBytes) = true) : ∃ a cs, v = .agg cs ∧ R W cs.toList a ∧ b a ≤ Rows.uptoBulk d := by
  obtain ⟨fuel, hf⟩ := hd
  obtain ⟨a, h2, h3⟩ := h enc W held fuel _ _ hf hw
  unfold isAg at hs
  unfold Value.okWide at hv
  cases hu : P.underlying t with
  | none => simp [hu] at hs
  | some u => cases u <;> simp [hu] at hs <;> simp only [hu] at hv <;> (obtain ⟨cs, rfl, _⟩ := hv; exact ⟨a, cs, rfl, h2, h3⟩)
end Sh
end Go.Proofs.YtongpnolikkknaaDoor

namespace Go.Proofs.YtongpnolikkknaaDoor
namespace Sh
open RowKit
theorem wrap_u8 {x : Int} : IntKind.u8.wrap x = x % 256 := by
  unfold IntKind.wrap
  simp [IntKind.signed, IntKind.bits]
theorem wrap_u64 {x : Int} : IntKind.u64.wrap x = x % 18446744073709551616 := by
  unfold IntKind.wrap
  simp [IntKind.signed, IntKind.bits]
theorem Below_nil {w w' : World} (h : w.grownBy w' (Value.slice none 0 0).ownBlock) : Below w.heap.size w w' := (Below.refl _ _).grown h (Nat.le_refl _) (fun k hk => by cases hk)
theorem of_drw {B : Nat} {w w' : World} (h : Below B (drw w) w') : Below B w w' := ⟨h.os, h.tape, h.output, h.size, h.block⟩
section
variable {P : Program} {w : World} {Q : Value → World → Prop} {K : Value → M} {K0 : M} {B : Nat}
theorem smr_run {s : Sem Value} {v : Value} (h : s.run P w = .ok v w) : smr P s K w Q = K v w Q := by
  rw [smr_e, h]
  apply propext
  constructor
  · rintro ⟨v', h1, h2⟩; cases h1; exact h2
  · intro h2; exact ⟨v, rfl, h2⟩
theorem pn_eq {t : TypeId} {p : Option Addr} {x y : Operand} (h : P.underlying t = some (.pointer (P.pointee t))) :
    smr P (do eqGuard .eql t x y (.pointer p) (.pointer none); binOp .eql t (.pointer p) (.pointer none)) K w Q = K (.bool p.isNone) w Q :=
  smr_run (by simp [eqGuard, run_eql_pointer_nil w t p h])
theorem pn_ne {t : TypeId} {p : Option Addr} {x y : Operand} (h : P.underlying t = some (.pointer (P.pointee t))) :
    smr P (do eqGuard .neq t x y (.pointer p) (.pointer none); binOp .neq t (.pointer p) (.pointer none)) K w Q = K (.bool (!p.isNone)) w Q :=
  smr_run (by simp [eqGuard, run_neq_pointer_nil w t p h])
/-- an element of a row of the call's own stored -/
theorem ia_st {e : TypeId} {k j : IntKind} {v : Value} {l : List Int} {i : Nat} {x : Int} (h : ownI B e k w v l) (hi : i < l.length)
    (kk : ∀ w', ownI B e k w' v (l.set i x) → (∃ g, v.ownBlock = some g ∧ B ≤ g ∧ g < w.heap.size ∧ Upd g w w') → K0 w' Q) : ia 1 v (.int j (i : Int)) (fun p => st p (.int k x) K0) w Q := by
  obtain ⟨h1, h2⟩ := h
  rcases h2 with ⟨rfl, h0⟩ | ⟨g, cap, cur, rfl, hg, hb, hn, hm, hs, ht⟩
  · omega
  · rw [ia_e]
    refine ⟨by omega, by omega, ?_⟩
    rw [Int.toNat_natCast, Nat.mul_one, add_lit, Nat.zero_add]
    simp only [Nat.mul_one] at hs ht
    refine st_box hb (by omega) rfl fun w' hw hu => ?_
    refine kk w' ?_ ⟨g, rfl, hg, blk_lt hb, hu⟩
    refine ⟨by simp, .inr ⟨g, cap, cur.setIfInBounds i (.int k x), by simp, hg, hw, by simpa using hn, hm, by simp [hs], ?_⟩⟩
    have hl : (cur.setIfInBounds i (.int k x)).toList = cur.toList.set i (.int k x) := by simp
    rw [hl, List.length_set, Nat.mul_one, List.take_set, ht, List.map_set]
/-- the same row behind a change of a block that isn't its own -/
theorem ownI_chg {e : TypeId} {k : IntKind} {v : Value} {l : List Int} {p : Nat} {w' : World} (h : ownI B e k w v l) (hc : Chg p w w') (hp : v.ownBlock ≠ some p) : ownI B e k w' v l := by
  obtain ⟨h1, h2⟩ := h
  refine ⟨h1, ?_⟩
  rcases h2 with h2 | ⟨g, cap, cur, rfl, hg, hb, rest⟩
  · exact .inl h2
  · refine .inr ⟨g, cap, cur, rfl, hg, hc.keep hb (fun e => hp (by rw [e]; rfl)), rest⟩
theorem ownI_drw {e : TypeId} {k : IntKind} {v : Value} {l : List Int} (h : ownI B e k w v l) : ownI B e k (drw w) v l := h
theorem or_run {a b : Nat} (ha : a < 18446744073709551616) (hb : b < 18446744073709551616) : bws .or .u64 (.int .u64 (a : Int)) (.int .u64 (b : Int)) K w Q = K (.int .u64 ((a ||| b : Nat) : Int)) w Q := by
  have e : ∀ (P : Program) (w : World), (Op.intBits .or .u64 (a : Int) (b : Int)).run P w = .ok (.int .u64 ((a ||| b : Nat) : Int)) w := fun P w => by
    rw [Go.intBits_or, bits_or_u64_nat a b ha hb]; rfl
  apply propext
  constructor
  · rintro ⟨a', b', v, h1, h2, h3, h4⟩
    cases h1; cases h2
    have := (h3 default w).symm.trans (e _ w)
    cases this
    exact h4
  · intro h; exact ⟨_, _, _, rfl, rfl, e, h⟩
/-- the first of a slice -/
theorem sll_S {α : Type} {n : Nat} {R : RepT α} {v : Value} {l : List α} {k : Nat} {j : IntKind} (h : rdS n R w v l) (hk : k ≤ l.length) (kk : ∀ v', rdS n R w v' (l.take k) → K v' w Q) : sll n v none (some (.int j (k : Int))) K w Q := by
  rcases h with ⟨rfl, rfl⟩ | ⟨a, c, rfl, hcc, h⟩
  · have : k = 0 := by simpa using hk
    subst this
    refine ⟨none, 0, 0, 0, 0, rfl, ⟨_, _, rfl, by omega, by omega, by omega⟩, rfl, ?_⟩
    exact kk _ (.inl ⟨by simp, by simp⟩)
  · refine ⟨some a, l.length, c, 0, k, rfl, ⟨_, _, rfl, by omega, by omega, by omega⟩, rfl, ?_⟩
    have ev : (if c = 0 then some a else (some a).map (·.add (0 * n))) = some a := by split <;> simp [add_zero']
    rw [ev, Nat.sub_zero, Nat.sub_zero]
    refine kk _ (.inr ⟨a, c, by rw [List.length_take, Nat.min_eq_left hk], by rw [List.length_take]; omega, fun i hi => ?_⟩)
    have hi' : i < l.length := by simp at hi; omega
    obtain ⟨es, h1, h2, h3⟩ := h i hi'
    exact ⟨es, h1, h2, by simpa using h3⟩
end
end Sh
end Go.Proofs.YtongpnolikkknaaDoor

set_option maxRecDepth 20000
namespace Go.Proofs.YtongpnolikkknaaDoor
open Sh RowKit

theorem q_cong {Q : Value → World → Prop} {w : World} {b c : Bool} (h : b = c) (hq : Q (.bool b) w) : Q (.bool c) w := h ▸ hq
theorem u36 : Tryd.prog.underlying 80 = some (.pointer (Tryd.prog.pointee 80)) := by kernel_rfl
theorem u5 : Tryd.prog.underlying 5 = some (.int .u8) := by kernel_rfl
/-- how many bytes a number has -/
def wd (k : Int) : Int := if 8 < (if k < 1 then 1 else k) then 8 else (if k < 1 then 1 else k)
theorem wd_bd (k : Int) : 1 ≤ wd k ∧ wd k ≤ 8 := by unfold wd; split <;> split <;> omega
theorem f77_s (k : Int) (w : World) (Q : Value → World → Prop) (h : Q (.int .i64 (wd k)) w) : f77 (.int .i64 k) w Q := by
  unfold f77
  simp only [↓reduceIte, ↓LL, LM, Value.cells, Nat.reduceAdd, Option.some.injEq, exists_eq_left', decide_true, decide_false, if_true, if_false, reduceCtorEq, cond_true, cond_false]
  exact h
theorem f79_s (k : Int) (w : World) (Q : Value → World → Prop) (h : Q (.int .i64 (wd k)) w) : f79 (.int .i64 k) w Q := by
  unfold f79
  simp only [↓reduceIte, ↓LL, LM, Value.cells, Nat.reduceAdd, Option.some.injEq, exists_eq_left', decide_true, decide_false, if_true, if_false, reduceCtorEq, cond_true, cond_false]
  exact h

/-- the low k bytes of a number, the highest first -/
def nb (n : Nat) : Nat → List Int
  | 0 => []
  | k + 1 => ((n / 256 ^ k % 256 : Nat) : Int) :: nb n k
theorem nb_len (n : Nat) : ∀ k, (nb n k).length = k
  | 0 => rfl
  | k + 1 => by simp [nb, nb_len n k]
theorem nb_bd (n : Nat) : ∀ k, ∀ x ∈ nb n k, 0 ≤ x ∧ x ≤ 255
  | 0, x, h => by simp [nb] at h
  | k + 1, x, h => by
    rcases List.mem_cons.1 h with rfl | h
    · omega
    · exact nb_bd n k x h
theorem pow8 (i : Nat) : (2 : Nat) ^ (8 * i) = 256 ^ i := by rw [Nat.pow_mul]
theorem shr_by (n i : Nat) (hi : i ≤ 8) : (n : Int).fdiv (2 ^ (min ((8 * (i : Int)).toNat) (IntKind.u64.bits))) = ((n / 256 ^ i : Nat) : Int) := by
  have e : min ((8 * (i : Int)).toNat) (IntKind.u64.bits) = 8 * i := by
    show min _ 64 = _
    omega
  rw [e, Int.fdiv_eq_ediv_of_nonneg _ (by exact_mod_cast Nat.zero_le _)]
  rw [← pow8]
  push_cast
  rfl

theorem num_loop (j1 : Value → M) {Q : Value → World → Prop} {B : Nat} {n : Nat} : ∀ (k m : Nat) (v : Value) (l : List Int) (w : World), k ≤ 8 → k < m → B ≤ w.heap.size → ownI B 5 .u8 w v l → l.length + k ≤ 140737488355328 →
    (∀ v' w', ownI B 5 .u8 w' v' (l ++ nb n k) → Below B w w' → j1 v' w' Q) → itr (fun _ _ _ => bot) (f49_b2 j1) m v (.int .u64 (n : Int)) (.int .i64 ((k : Int) - 1)) w Q := by
  intro k
  induction k with
  | zero =>
    intro m v l w hk hm hB ho hl kk
    obtain ⟨m, rfl⟩ : ∃ x, m = x + 1 := ⟨m - 1, by omega⟩
    show f49_b2 j1 _ _ _ _ w Q
    unfold f49_b2
    have : ¬ (0 : Int) ≤ ((0 : Nat) : Int) - 1 := by omega
    simp only [↓reduceIte, ↓LL, LM, Value.cells, Nat.reduceAdd, Option.some.injEq, exists_eq_left', decide_true, decide_false, if_true, if_false, reduceCtorEq, cond_true, cond_false, this]
    exact kk _ _ (by simpa [nb] using ho) (Below.refl _ _)
  | succ k ih =>
    intro m v l w hk hm hB ho hl kk
    obtain ⟨m, rfl⟩ : ∃ x, m = x + 1 := ⟨m - 1, by omega⟩
    show f49_b2 j1 _ _ _ _ w Q
    unfold f49_b2
    have e1 : ((k + 1 : Nat) : Int) - 1 = (k : Int) := by omega
    have e2 : IntKind.i64.wrap (8 * (k : Int)) = 8 * (k : Int) := w64 (by omega) (by omega)
    have e3 : IntKind.i64.wrap ((k : Int) - 1) = (k : Int) - 1 := w64 (by omega) (by omega)
    have h0 : (0 : Int) ≤ (k : Int) := by omega
    have h1 : (0 : Int) ≤ 8 * (k : Int) := by omega
    simp only [↓reduceIte, ↓LL, LM, Value.cells, Nat.reduceAdd, Option.some.injEq, exists_eq_left', decide_true, decide_false, if_true, if_false, reduceCtorEq, cond_true, cond_false, e1, e2, e3, h0, shr_e, h1, shr_by n k (by omega), true_and, wrap_u8]
    refine bsl1 slt66 rfl rfl ?_
    have hp0 := blk_psh_new (w := w) (o := .cells #[.int .u8 (((n / 256 ^ k : Nat) : Int) % 256)] 5)
    have ho1 := ownI_psh ho (.cells #[.int .u8 (((n / 256 ^ k : Nat) : Int) % 256)] 5)
    have hb1 := b_psh w (.cells #[.int .u8 (((n / 256 ^ k : Nat) : Int) % 256)] 5)
    refine ap_rd (m := [((n / 256 ^ k : Nat) : Int) % 256]) slt66 ho1 (.inr ⟨⟨w.heap.size, 0, none⟩, 1, rfl, fun i hi => ?_⟩) (by simp; omega) (by simp; omega) (by rw [size_psh]; omega) ?_
    · have : i = 0 := by simpa using hi
      subst this
      rw [add_lit, cell_psh_new]; rfl
    · intro v' w' ho' hg
      have hb2 : Below B w w' := Below_grown (bt' (Below.refl _ _) hB hb1) ho1 (by rw [size_psh]; omega) hg
      simp only [↓reduceIte, ↓LL, LM, Value.cells, Nat.reduceAdd, Option.some.injEq, exists_eq_left', decide_true, decide_false, if_true, if_false, reduceCtorEq, cond_true, cond_false, e3]
      refine ih m v' _ w' (by omega) (by omega) (Nat.le_trans hB hb2.size) ho' (by simp; omega) ?_
      intro v'' w'' ho'' hb3
      refine kk _ _ ?_ (hb2.trans hb3)
      simp only [nb]
      rw [List.append_assoc] at ho''
      simpa using ho''
theorem f49_s {B : Nat} (n : Nat) (k : Int) (v : Value) (l : List Int) (w : World) (Q : Value → World → Prop) (hB : B ≤ w.heap.size) (ho : ownI B 5 .u8 w v l) (hl : l.length + 8 ≤ 140737488355328)
    (h : ∀ v' w', ownI B 5 .u8 w' v' (l ++ nb n (wd k).toNat) → Below B w w' → Q v' w') : f49 v (.int .u64 (n : Int)) (.int .i64 k) w Q := by
  unfold f49
  simp only [↓cl_e]
  refine f77_s k _ _ ?_
  have bd := wd_bd k
  have e : IntKind.i64.wrap (wd k - 1) = (((wd k).toNat : Nat) : Int) - 1 := by rw [w64 (by omega) (by omega)]; omega
  simp only [↓reduceIte, ↓LL, LM, Value.cells, Nat.reduceAdd, Option.some.injEq, exists_eq_left', decide_true, decide_false, if_true, if_false, reduceCtorEq, cond_true, cond_false, e]
  refine ⟨_, num_loop _ (wd k).toNat _ v l w (by omega) (Nat.lt_succ_self _) hB ho (by omega) ?_⟩
  intro v' w' ho' hb
  unfold f49_j1
  rw [rt_e]
  exact h _ _ ho' hb
/-- a text as bytes -/
def sb (s : ByteArray) : List Int := ((min s.size 255 : Nat) : Int) :: (byL s).take 255
theorem sb_len (s : ByteArray) : (sb s).length = min s.size 255 + 1 := by simp [sb, byL_len]; omega
theorem sb_bd (s : ByteArray) : ∀ x ∈ sb s, 0 ≤ x ∧ x ≤ 255 := by
  intro x hx
  rcases List.mem_cons.1 hx with rfl | hx
  · omega
  · exact byL_nn (List.mem_of_mem_take hx)
theorem mn255 (s : ByteArray) : (if (255 : Int) < (s.size : Int) then (255 : Int) else (s.size : Int)) = ((min s.size 255 : Nat) : Int) := by split <;> omega
theorem bnd_hi {d m j : Nat} (h : j ≤ m) : bnd (some (.int .i64 (j : Int))) d m j := ⟨_, _, rfl, by omega, by omega, by omega⟩
theorem bnd_none {d m : Nat} : bnd none d m d := rfl
theorem rnum_loop (j1 : Value → M) {Q : Value → World → Prop} {w0 : World} {n0 kj : Nat} (hk8 : kj ≤ 8) (hn0 : n0 < 18446744073709551616) {v : Value} : ∀ (k m n : Nat) (w : World), k ≤ kj → k < m → Below w0.heap.size w0 w → w0.heap.size ≤ w.heap.size →
    ownI w0.heap.size 5 .u8 w v (List.replicate k 0 ++ nb n0 (kj - k)) → n = n0 / 256 ^ (kj - k) →
    (∀ w', ownI w0.heap.size 5 .u8 w' v (nb n0 kj) → Below w0.heap.size w0 w' → j1 v w' Q) → itr (fun _ _ _ => bot) (f52_b2 j1) m (.int .u64 (n : Int)) v (.int .i64 ((k : Int) - 1)) w Q := by
  intro k
  induction k with
  | zero =>
    intro m n w hk hm hb hsz ho hn kk
    obtain ⟨m, rfl⟩ : ∃ x, m = x + 1 := ⟨m - 1, by omega⟩
    show f52_b2 j1 _ _ _ _ w Q
    unfold f52_b2
    have : ¬ (0 : Int) ≤ ((0 : Nat) : Int) - 1 := by omega
    simp only [↓reduceIte, ↓LL, LM, Value.cells, Nat.reduceAdd, Option.some.injEq, exists_eq_left', decide_true, decide_false, if_true, if_false, reduceCtorEq, cond_true, cond_false, this]
    exact kk _ (by simpa using ho) hb
  | succ k ih =>
    intro m n w hk hm hb hsz ho hn kk
    obtain ⟨m, rfl⟩ : ∃ x, m = x + 1 := ⟨m - 1, by omega⟩
    show f52_b2 j1 _ _ _ _ w Q
    unfold f52_b2
    have e1 : ((k + 1 : Nat) : Int) - 1 = (k : Int) := by omega
    have h0 : (0 : Int) ≤ (k : Int) := by omega
    have e3 : IntKind.i64.wrap ((k : Int) - 1) = (k : Int) - 1 := w64 (by omega) (by omega)
    have e4 : (n : Int).tmod 256 = ((n % 256 : Nat) : Int) := by rw [Int.tmod_eq_emod_of_nonneg (by omega)]; rfl
    have e5 : IntKind.u8.wrap ((n % 256 : Nat) : Int) = ((n % 256 : Nat) : Int) := by rw [wrap_u8]; omega
    have hn1 : n ≤ n0 := by rw [hn]; exact Nat.div_le_self _ _
    have e6 : IntKind.u64.wrap ((n : Int).tdiv 256) = ((n / 256 : Nat) : Int) := by
      rw [Int.tdiv_eq_ediv_of_nonneg (by omega), wrap_u64]; omega
    simp only [↓reduceIte, ↓LL, LM, Value.cells, Nat.reduceAdd, Option.some.injEq, exists_eq_left', decide_true, decide_false, if_true, if_false, reduceCtorEq, cond_true, cond_false, e1, h0, e4, e5, ne_eq, not_false_eq_true, true_and, show ¬ (256 : Int) = 0 from by decide]
    refine ia_st ho (by simp [nb_len]; omega) ?_
    rintro w' ho' ⟨g, hg, hgB, hgs, hu⟩
    simp only [↓reduceIte, ↓LL, LM, Value.cells, Nat.reduceAdd, Option.some.injEq, exists_eq_left', decide_true, decide_false, if_true, if_false, reduceCtorEq, cond_true, cond_false, e6, e3, ne_eq, not_false_eq_true, true_and, show ¬ (256 : Int) = 0 from by decide]
    refine ih m (n / 256) w' (by omega) (by omega) (hb.trans (hu.below hgB)) (by rw [hu.size]; exact hsz) ?_ ?_ kk
    · have e7 : kj - k = (kj - (k + 1)) + 1 := by omega
      rw [e7]
      simp only [nb]
      rw [← hn]
      have : (List.replicate (k + 1) (0 : Int) ++ nb n0 (kj - (k + 1))).set k ((n % 256 : Nat) : Int) = List.replicate k 0 ++ ((n % 256 : Nat) : Int) :: nb n0 (kj - (k + 1)) := by
        rw [List.replicate_succ', List.append_assoc, List.set_append_right _ _ (by simp)]
        simp
      rw [← this]
      exact ho'
    · rw [hn, Nat.div_div_eq_div_mul, ← Nat.pow_succ]
      congr 2; omega
theorem f52_s (n : Nat) (hn : n < 18446744073709551616) (k : Int) (w : World) (Q : Value → World → Prop) (h : ∀ w', Below w.heap.size w w' → Q (.string (strOfNums (nb n (wd k).toNat))) w') : f52 (.int .u64 (n : Int)) (.int .i64 k) w Q := by
  unfold f52
  simp only [↓cl_e]
  refine f79_s k _ _ ?_
  have bd := wd_bd k
  have e : IntKind.i64.wrap (wd k - 1) = (((wd k).toNat : Nat) : Int) - 1 := by rw [w64 (by omega) (by omega)]; omega
  have e2 : wd k = (((wd k).toNat : Nat) : Int) := by omega
  rw [e2]
  refine mkI (B := w.heap.size) slt66 (by omega) (by omega) (Nat.le_refl _) fun v w' ho hb => ?_
  rw [← e2]
  simp only [↓reduceIte, ↓LL, LM, Value.cells, Nat.reduceAdd, Option.some.injEq, exists_eq_left', decide_true, decide_false, if_true, if_false, reduceCtorEq, cond_true, cond_false, e]
  refine ⟨_, rnum_loop (w0 := w) (n0 := n) (kj := (wd k).toNat) _ (by omega) hn (wd k).toNat _ n w' (Nat.le_refl _) (Nat.lt_succ_self _) hb hb.size (by simpa [nb] using ho) (by simp) ?_⟩
  intro w2 ho2 hb2
  unfold f52_j1
  refine cvb slt66 u5 st9 (ownI_rd ho2) ?_
  rw [rt_e]
  exact h _ hb2
theorem son_app (l m : List Int) : strOfNums l ++ strOfNums m = strOfNums (l ++ m) := by
  apply ByteArray.ext
  rw [ByteArray.data_append]
  apply Array.toList_inj.1
  simp [strOfNums]
theorem nb1 (n : Nat) (h : n ≤ 255) : nb n 1 = [(n : Int)] := by simp [nb]; omega
/-- a number is told whole -/
def fitB (n : Nat) (k : Int) : Bool := decide (n < 256 ^ (wd k).toNat)
theorem f76_s (n : Nat) (hn : n < 18446744073709551616) (k : Int) (w : World) (Q : Value → World → Prop) (h : Q (.bool (fitB n k)) w) : f76 (.int .u64 (n : Int)) (.int .i64 k) w Q := by
  unfold f76
  simp only [↓cl_e]
  refine f77_s k _ _ ?_
  have bd := wd_bd k
  have e1 : IntKind.i64.wrap (8 * wd k) = 8 * wd k := w64 (by omega) (by omega)
  have e2 : IntKind.i64.wrap (8 * wd k - 1) = 8 * wd k - 1 := w64 (by omega) (by omega)
  have h0 : (0 : Int) ≤ 8 * wd k - 1 := by omega
  have h1 : (0 : Int) ≤ 1 := by omega
  simp only [↓reduceIte, ↓LL, LM, Value.cells, Nat.reduceAdd, Option.some.injEq, exists_eq_left', decide_true, decide_false, if_true, if_false, reduceCtorEq, cond_true, cond_false, e1, e2, shr_e, h0, h1, true_and]
  have e3 : min (8 * wd k - 1).toNat IntKind.u64.bits = 8 * (wd k).toNat - 1 := by show min _ 64 = _; omega
  have e4 : min (1 : Int).toNat IntKind.u64.bits = 1 := rfl
  rw [e3, e4]
  have p1 : ∀ x y : Nat, (x : Int).fdiv (2 ^ y) = ((x / 2 ^ y : Nat) : Int) := fun x y => by
    rw [Int.fdiv_eq_ediv_of_nonneg _ (by exact_mod_cast Nat.zero_le _)]
    push_cast
    rfl
  rw [p1, p1, Nat.div_div_eq_div_mul, ← Nat.pow_add, show 8 * (wd k).toNat - 1 + 1 = 8 * (wd k).toNat from by omega, pow8]
  refine q_cong ?_ h
  unfold fitB
  rw [Bool.eq_iff_iff, decide_eq_true_eq, decide_eq_true_eq]
  have : n / 256 ^ (wd k).toNat = 0 ↔ n < 256 ^ (wd k).toNat := by
    rw [Nat.div_eq_zero_iff]
    have : 256 ^ (wd k).toNat ≠ 0 := Nat.pos_iff_ne_zero.1 (Nat.pow_pos (by decide))
    omega
  rw [← this]
  omega
end Go.Proofs.YtongpnolikkknaaDoor

set_option maxRecDepth 20000
namespace Go.Proofs.YtongpnolikkknaaDoor
open Sh RowKit

def nos : ByteArray := ⟨#[]⟩
def rC (s : ByteArray) (e : Int) : Array Value := #[.string s, .int .i64 e]
/-- what is taken of a reader: the text, whether it was there, what is left, the error -/
def take (s : ByteArray) (e : Int) (k : Nat) : ByteArray × Bool × ByteArray × Int :=
  if e = 0 then (if s.size < k then (nos, false, s, 2) else (s.extract 0 k, true, s.extract k s.size, 0)) else (nos, false, s, e)
theorem f80_nil (k : Int) (w : World) (Q : Value → World → Prop) (h : Q (.tuple #[.string nos, .bool false]) w) : f80 (.pointer none) (.int .i64 k) w Q := by
  unfold f80
  rw [pn_eq u36]
  simp only [↓reduceIte, ↓LL, LM, Value.cells, Nat.reduceAdd, Option.some.injEq, exists_eq_left', decide_true, decide_false, if_true, if_false, reduceCtorEq, cond_true, cond_false, Option.isNone_none]
  exact h
theorem f80_s (p : Nat) (s : ByteArray) (e : Int) (k : Nat) (w : World) (Q : Value → World → Prop) (hp : w.heap[p]? = some (.cells (rC s e) 122 (0, 0)))
    (h : ∀ w', w'.heap[p]? = some (.cells (rC (take s e k).2.2.1 (take s e k).2.2.2) 122 (0, 0)) → Chg p w w' → Q (.tuple #[.string (take s e k).1, .bool (take s e k).2.1]) w') : f80 (.pointer (some ⟨p, 0, none⟩)) (.int .i64 (k : Int)) w Q := by
  unfold f80
  have c0 := cell_of_blk (n := 0) hp
  have c1 := cell_of_blk (n := 1) hp
  rw [pn_eq u36]
  simp only [↓reduceIte, ↓LL, LM, Value.cells, Nat.reduceAdd, Option.some.injEq, exists_eq_left', decide_true, decide_false, if_true, if_false, reduceCtorEq, cond_true, cond_false, Option.isNone_some, c0, c1, rC]
  by_cases he : e = 0
  · subst he
    by_cases c : s.size < k
    · have c' : (s.size : Int) < (k : Int) := by omega
      simp only [↓reduceIte, ↓LL, LM, Value.cells, Nat.reduceAdd, Option.some.injEq, exists_eq_left', decide_true, decide_false, if_true, if_false, reduceCtorEq, cond_true, cond_false, ne_eq, c', not_true_eq_false, c0, c1, rC]
      refine st_box hp (by simp [rC]) rfl fun w' h1 hu => ?_
      try simp only [↓reduceIte, ↓LL, LM, Value.cells, Nat.reduceAdd, Option.some.injEq, exists_eq_left', decide_true, decide_false, if_true, if_false, reduceCtorEq, cond_true, cond_false]
      have := h w'
      simp only [take, if_true, c] at this
      exact this h1 hu.chg
    · have c' : ¬ (s.size : Int) < (k : Int) := by omega
      simp only [↓reduceIte, ↓LL, LM, Value.cells, Nat.reduceAdd, Option.some.injEq, exists_eq_left', decide_true, decide_false, if_true, if_false, reduceCtorEq, cond_true, cond_false, ne_eq, c', not_true_eq_false, c0, c1, rC]
      refine ⟨s, 0, k, rfl, bnd_hi (by omega), bnd_none, ?_⟩
      simp only [↓reduceIte, ↓LL, LM, Value.cells, Nat.reduceAdd, Option.some.injEq, exists_eq_left', decide_true, decide_false, if_true, if_false, reduceCtorEq, cond_true, cond_false, c0, c1, rC]
      refine ⟨s, k, s.size, rfl, bnd_none, bnd_hi (by omega), ?_⟩
      try simp only [↓reduceIte, ↓LL, LM, Value.cells, Nat.reduceAdd, Option.some.injEq, exists_eq_left', decide_true, decide_false, if_true, if_false, reduceCtorEq, cond_true, cond_false]
      refine st_box hp (by simp [rC]) rfl fun w' h1 hu => ?_
      try simp only [↓reduceIte, ↓LL, LM, Value.cells, Nat.reduceAdd, Option.some.injEq, exists_eq_left', decide_true, decide_false, if_true, if_false, reduceCtorEq, cond_true, cond_false]
      have := h w'
      simp only [take, if_true, c, if_false] at this
      exact this h1 hu.chg
  · simp only [↓reduceIte, ↓LL, LM, Value.cells, Nat.reduceAdd, Option.some.injEq, exists_eq_left', decide_true, decide_false, if_true, if_false, reduceCtorEq, cond_true, cond_false, ne_eq, he, not_false_eq_true]
    have := h w
    simp only [take, he, if_false] at this
    exact this hp (Chg.refl _ _)
theorem f55_nil (k : Int) (w : World) (Q : Value → World → Prop) (h : Q (.string nos) w) : f55 (.pointer none) (.int .i64 k) w Q := by
  unfold f55
  try simp only [↓reduceIte, ↓LL, LM, Value.cells, Nat.reduceAdd, Option.some.injEq, exists_eq_left', decide_true, decide_false, if_true, if_false, reduceCtorEq, cond_true, cond_false]
  refine f80_nil _ _ _ ?_
  try simp only [↓reduceIte, ↓LL, LM, Value.cells, Nat.reduceAdd, Option.some.injEq, exists_eq_left', decide_true, decide_false, if_true, if_false, reduceCtorEq, cond_true, cond_false]
  exact h
theorem max0 (k : Int) : (if k < 0 then (0 : Int) else k) = ((k.toNat : Nat) : Int) := by split <;> omega
theorem f55_s (p : Nat) (s : ByteArray) (e : Int) (k : Int) (w : World) (Q : Value → World → Prop) (hp : w.heap[p]? = some (.cells (rC s e) 122 (0, 0)))
    (h : ∀ w', w'.heap[p]? = some (.cells (rC (take s e k.toNat).2.2.1 (take s e k.toNat).2.2.2) 122 (0, 0)) → Chg p w w' → Q (.string (take s e k.toNat).1) w') : f55 (.pointer (some ⟨p, 0, none⟩)) (.int .i64 k) w Q := by
  unfold f55
  simp only [↓reduceIte, ↓LL, LM, Value.cells, Nat.reduceAdd, Option.some.injEq, exists_eq_left', decide_true, decide_false, if_true, if_false, reduceCtorEq, cond_true, cond_false, max0]
  refine f80_s p s e _ _ _ hp fun w' h1 hc => ?_
  try simp only [↓reduceIte, ↓LL, LM, Value.cells, Nat.reduceAdd, Option.some.injEq, exists_eq_left', decide_true, decide_false, if_true, if_false, reduceCtorEq, cond_true, cond_false]
  exact h w' h1 hc
/-- bytes as a number -/
def ofB : List Int → Nat → Nat
  | [], n => n
  | x :: r, n => ofB r (256 * n + x.toNat)
theorem or_add (n x : Nat) (hx : x < 256) : (256 * n) ||| x = 256 * n + x := by
  have := Nat.two_pow_add_eq_or_of_lt (i := 8) (b := x) (by simpa using hx) n
  simpa using this.symm
theorem rdn_loop (j1 : Value → M) {Q : Value → World → Prop} {v : Value} {w : World} {l : List Int} (hr : rdI .u8 w v l) (hb : ∀ x ∈ l, 0 ≤ x ∧ x ≤ 255) (hl : l.length ≤ 8) : ∀ (d m i n : Nat), i + d = l.length → d < m → n < 256 ^ i →
    j1 (.int .u64 (ofB (l.drop i) n : Nat)) w Q → itr (fun _ _ _ _ => bot) (f54_b2 j1) m (.int .u64 (n : Int)) v (.int .i64 l.length) (.int .i64 i) w Q := by
  intro d
  induction d with
  | zero =>
    intro m i n hi hm hn k
    obtain ⟨m, rfl⟩ : ∃ x, m = x + 1 := ⟨m - 1, by omega⟩
    show f54_b2 j1 _ _ _ _ _ w Q
    unfold f54_b2
    have : ¬ (i : Int) < l.length := by omega
    simp only [↓reduceIte, ↓LL, LM, Value.cells, Nat.reduceAdd, Option.some.injEq, exists_eq_left', decide_true, decide_false, if_true, if_false, reduceCtorEq, cond_true, cond_false, this]
    rw [List.drop_of_length_le (by omega)] at k
    exact k
  | succ d ih =>
    intro m i n hi hm hn k
    obtain ⟨m, rfl⟩ : ∃ x, m = x + 1 := ⟨m - 1, by omega⟩
    show f54_b2 j1 _ _ _ _ _ w Q
    unfold f54_b2
    have hlt : (i : Int) < l.length := by omega
    simp only [↓reduceIte, ↓LL, LM, Value.cells, Nat.reduceAdd, Option.some.injEq, exists_eq_left', decide_true, decide_false, if_true, if_false, reduceCtorEq, cond_true, cond_false, hlt]
    refine ia_ld hr (by omega) hlt fun hh => ?_
    have h1 : IntKind.i64.wrap ((i : Int) + 1) = ((i + 1 : Nat) : Int) := by rw [w64 (by omega) (by omega)]; rfl
    have hx := hb _ (List.getElem_mem hh)
    have e0 : (i : Int).toNat = i := rfl
    have hp : 256 ^ i ≤ 256 ^ 7 := Nat.pow_le_pow_right (by decide) (by omega)
    have e2 : IntKind.u64.wrap ((n : Int) * 2 ^ (min (8 : Int).toNat IntKind.u64.bits)) = ((256 * n : Nat) : Int) := by
      rw [show min (8 : Int).toNat IntKind.u64.bits = 8 from rfl, wrap_u64]
      omega
    have e3 : IntKind.u64.wrap l[(i : Int).toNat] = (((l[(i : Int).toNat]).toNat : Nat) : Int) := by rw [wrap_u64]; omega
    have h8 : (0 : Int) ≤ 8 := by decide
    simp only [↓reduceIte, ↓LL, LM, Value.cells, Nat.reduceAdd, Option.some.injEq, exists_eq_left', decide_true, decide_false, if_true, if_false, reduceCtorEq, cond_true, cond_false, shl_e, h8, true_and, e2, e3]
    rw [or_run (by omega) (by omega), or_add _ _ (by omega)]
    simp only [↓reduceIte, ↓LL, LM, Value.cells, Nat.reduceAdd, Option.some.injEq, exists_eq_left', decide_true, decide_false, if_true, if_false, reduceCtorEq, cond_true, cond_false, h1]
    refine ih m (i + 1) _ (by omega) (by omega) (by rw [Nat.pow_succ]; omega) ?_
    rw [List.drop_eq_getElem_cons (show i < l.length by omega)] at k
    exact k
theorem f54_nil (k : Int) (w : World) (Q : Value → World → Prop) (h : ∀ w', Below w.heap.size w w' → Q (.int .u64 0) w') : f54 (.pointer none) (.int .i64 k) w Q := by
  unfold f54
  try simp only [↓reduceIte, ↓LL, LM, Value.cells, Nat.reduceAdd, Option.some.injEq, exists_eq_left', decide_true, decide_false, if_true, if_false, reduceCtorEq, cond_true, cond_false]
  refine f77_s k _ _ ?_
  try simp only [↓reduceIte, ↓LL, LM, Value.cells, Nat.reduceAdd, Option.some.injEq, exists_eq_left', decide_true, decide_false, if_true, if_false, reduceCtorEq, cond_true, cond_false]
  refine f80_nil _ _ _ ?_
  try simp only [↓reduceIte, ↓LL, LM, Value.cells, Nat.reduceAdd, Option.some.injEq, exists_eq_left', decide_true, decide_false, if_true, if_false, reduceCtorEq, cond_true, cond_false]
  refine cvs st9 slt66 u5 fun v w1 hr hb => ?_
  refine lnl_rd hr ?_
  rw [jn_e]
  refine ⟨_, rdn_loop (i := 0) _ hr (fun x hx => byL_nn hx) (by simp [byL, nos]) _ _ 0 (Nat.zero_add _) (Nat.lt_succ_self _) (by decide) ?_⟩
  unfold f54_j1
  rw [rt_e]
  exact h _ hb
theorem take_size (s : ByteArray) (e : Int) (k : Nat) : (take s e k).1.size ≤ k := by
  unfold take
  split
  · split
    · exact Nat.zero_le _
    · rw [ByteArray.size_extract]; omega
  · exact Nat.zero_le _
theorem f54_s (p : Nat) (s : ByteArray) (e : Int) (k : Int) (w : World) (Q : Value → World → Prop) (hp : w.heap[p]? = some (.cells (rC s e) 122 (0, 0)))
    (h : ∀ w', w'.heap[p]? = some (.cells (rC (take s e (wd k).toNat).2.2.1 (take s e (wd k).toNat).2.2.2) 122 (0, 0)) → Chg p w w' → Q (.int .u64 (ofB (byL (take s e (wd k).toNat).1) 0 : Nat)) w') : f54 (.pointer (some ⟨p, 0, none⟩)) (.int .i64 k) w Q := by
  unfold f54
  try simp only [↓reduceIte, ↓LL, LM, Value.cells, Nat.reduceAdd, Option.some.injEq, exists_eq_left', decide_true, decide_false, if_true, if_false, reduceCtorEq, cond_true, cond_false]
  refine f77_s k _ _ ?_
  have bd := wd_bd k
  rw [show wd k = (((wd k).toNat : Nat) : Int) from by omega]
  try simp only [↓reduceIte, ↓LL, LM, Value.cells, Nat.reduceAdd, Option.some.injEq, exists_eq_left', decide_true, decide_false, if_true, if_false, reduceCtorEq, cond_true, cond_false]
  refine f80_s p s e _ _ _ hp fun w' h1 hc => ?_
  try simp only [↓reduceIte, ↓LL, LM, Value.cells, Nat.reduceAdd, Option.some.injEq, exists_eq_left', decide_true, decide_false, if_true, if_false, reduceCtorEq, cond_true, cond_false]
  refine cvs st9 slt66 u5 fun v w1 hr hb => ?_
  refine lnl_rd hr ?_
  rw [jn_e]
  have hts := take_size s e (wd k).toNat
  refine ⟨_, rdn_loop (i := 0) _ hr (fun x hx => byL_nn hx) (by rw [byL_len]; omega) _ _ 0 (Nat.zero_add _) (Nat.lt_succ_self _) (by decide) ?_⟩
  unfold f54_j1
  rw [rt_e]
  exact h _ (stay hb h1) (hc.trans (.of_below hb))
/-- what is read as a text -/
def tstr (s : ByteArray) (e : Int) (m : Int) : ByteArray × ByteArray × Int :=
  if e = 0 then (match byL s with
    | [] => (nos, s, 2)
    | c :: _ => if m < c then (nos, s, 3) else if s.size < 1 + c.toNat then (nos, s, 2) else (s.extract 1 (1 + c.toNat), s.extract (1 + c.toNat) s.size, 0)) else (nos, s, e)
theorem ex_ex (s : ByteArray) (a b c : Nat) (h : b ≤ s.size - a) : (s.extract a s.size).extract c b = s.extract (a + c) (a + b) := by
  apply byL_inj
  rw [byL_take, byL_take, byL_take]
  rw [List.take_of_length_le (l := byL s) (by rw [byL_len]; omega)]
  rw [List.drop_take, List.drop_drop, List.drop_take]
  congr 1
  omega
theorem f57_nil (w : World) (Q : Value → World → Prop) (h : Q (.int .i64 1) w) : f57 (.pointer none) w Q := by
  unfold f57
  rw [pn_eq u36]
  simp only [↓reduceIte, ↓LL, LM, Value.cells, Nat.reduceAdd, Option.some.injEq, exists_eq_left', decide_true, decide_false, if_true, if_false, reduceCtorEq, cond_true, cond_false, Option.isNone_none]
  exact h
theorem f57_s (p : Nat) (s : ByteArray) (e : Int) (w : World) (Q : Value → World → Prop) (hp : w.heap[p]? = some (.cells (rC s e) 122 (0, 0))) (h : Q (.int .i64 e) w) : f57 (.pointer (some ⟨p, 0, none⟩)) w Q := by
  unfold f57
  have c1 := cell_of_blk (n := 1) hp
  rw [pn_eq u36]
  simp only [↓reduceIte, ↓LL, LM, Value.cells, Nat.reduceAdd, Option.some.injEq, exists_eq_left', decide_true, decide_false, if_true, if_false, reduceCtorEq, cond_true, cond_false, Option.isNone_some, c1, rC]
  exact h
/-- what is told in the end -/
def dn (s : ByteArray) (e : Int) : Int := if e = 0 ∧ s ≠ nos then 5 else e
theorem f56_nil (w : World) (Q : Value → World → Prop) (h : Q (.int .i64 0) w) : f56 (.pointer none) w Q := by
  unfold f56
  rw [show (Operand.tmp 3) = .tmp 3 from rfl, pn_eq u36]
  simp only [↓reduceIte, ↓LL, LM, Value.cells, Nat.reduceAdd, Option.some.injEq, exists_eq_left', decide_true, decide_false, if_true, if_false, reduceCtorEq, cond_true, cond_false, Option.isNone_none]
  exact h
theorem f56_s (p : Nat) (s : ByteArray) (e : Int) (w : World) (Q : Value → World → Prop) (hp : w.heap[p]? = some (.cells (rC s e) 122 (0, 0))) (h : Q (.int .i64 s.size) w) : f56 (.pointer (some ⟨p, 0, none⟩)) w Q := by
  unfold f56
  have c0 := cell_of_blk (n := 0) hp
  rw [pn_eq u36]
  simp only [↓reduceIte, ↓LL, LM, Value.cells, Nat.reduceAdd, Option.some.injEq, exists_eq_left', decide_true, decide_false, if_true, if_false, reduceCtorEq, cond_true, cond_false, Option.isNone_some, c0, rC]
  exact h
theorem build52 (s : ByteArray) (w : World) : (Instr.build 122 #[(0, .string s)]).run Tryd.prog w = .ok (.agg (rC s 0)) w := by
  kernel_rfl
theorem f53_s (s : ByteArray) (w : World) (Q : Value → World → Prop) (h : ∀ p w', p = w.heap.size → w'.heap[p]? = some (.cells (rC s 0) 122 (0, 0)) → Below w.heap.size w w' → Q (.pointer (some ⟨p, 0, none⟩)) w') : f53 (.string s) w Q := by
  unfold f53
  rw [smr_run (build52 s w)]
  try simp only [↓reduceIte, ↓LL, LM, Value.cells, Nat.reduceAdd, Option.some.injEq, exists_eq_left', decide_true, decide_false, if_true, if_false, reduceCtorEq, cond_true, cond_false]
  exact h _ _ rfl blk_psh_new (b_psh _ _)
end Go.Proofs.YtongpnolikkknaaDoor

namespace Go.Proofs.YtongpnolikkknaaDoor
namespace Sh
open RowKit Go.MapKept
/-- a map's type, its keys' -/
structure KeyK (P : Program) (t kt et : TypeId) (d : TypeDesc) {α : Type} (kv : α → Value) : Prop where
  hm : P.underlying t = some (.map kt et)
  hd : P.underlying kt = some d
  key : ∀ a, IsKey d (kv a)
  inj : ∀ a b, kv a = kv b → a = b
def MapAt {α : Type} (kv : α → Value) (w : World) (b : Nat) (L : List (α × Value)) : Prop :=
  ∃ es clock, w.heap[b]? = some (.map es clock) ∧ Stamped es clock ∧ es.toList.map (fun e => (e.key, e.val)) = L.map (fun p => (kv p.1, p.2))
def put {α : Type} [DecidableEq α] (L : List (α × Value)) (k : α) (v : Value) : List (α × Value) :=
  if k ∈ L.map (·.1) then L.map (fun p => if p.1 = k then (k, v) else p) else L ++ [(k, v)]
def del {α : Type} [DecidableEq α] (L : List (α × Value)) (k : α) : List (α × Value) := L.filter (fun p => decide (p.1 ≠ k))
def lk {α : Type} [DecidableEq α] (L : List (α × Value)) (k : α) : Option Value := (L.find? (fun p => decide (p.1 = k))).map (·.2)
theorem blk_sb {w : World} {b : Nat} {o o' : Obj} (h : w.heap[b]? = some o) : (sb w b o').heap[b]? = some o' := by simp [sb, blk_lt h]
theorem Upd_sb {w : World} {b : Nat} {o : Obj} : Upd b w (sb w b o) := ⟨rfl, rfl, rfl, by simp [sb], fun k hk => by simp [sb, Array.getElem?_setIfInBounds_ne (Ne.symm hk)]⟩
section
variable {α : Type} [DecidableEq α] {kv : α → Value} {P : Program} {t kt et : TypeId} {d : TypeDesc} {w : World} {b : Nat} {L : List (α × Value)} {K : Value → M} {K0 : M} {Q : Value → World → Prop}
omit [DecidableEq α] in
theorem MapAt.stay {w' : World} (h : MapAt kv w b L) (hb : w'.heap[b]? = w.heap[b]?) : MapAt kv w' b L := by
  obtain ⟨es, clock, h1, h2, h3⟩ := h
  exact ⟨es, clock, by rw [hb]; exact h1, h2, h3⟩
omit [DecidableEq α] in
theorem MapAt.lt (h : MapAt kv w b L) : b < w.heap.size := by obtain ⟨es, clock, h1, _⟩ := h; exact blk_lt h1
omit [DecidableEq α] in
theorem MapAt.below {w' : World} (h : MapAt kv w b L) (hb : Below w.heap.size w w') : MapAt kv w' b L := h.stay (hb.block b h.lt)
omit [DecidableEq α] in
theorem MapAt.chg {w' : World} {p : Nat} (h : MapAt kv w b L) (hc : Chg p w w') (hp : b ≠ p) : MapAt kv w' b L := h.stay (hc.block b h.lt hp)
omit [DecidableEq α] in
theorem MapAt.upd {w' : World} {p : Nat} (h : MapAt kv w b L) (hc : Upd p w w') (hp : b ≠ p) : MapAt kv w' b L := h.stay (hc.block b hp)
omit [DecidableEq α] in
theorem MapAt.nodup (h : MapAt kv w b L) : (L.map (·.1)).Nodup := by
  obtain ⟨es, clock, h1, ⟨_, _, h2⟩, h3⟩ := h
  have e : es.toList.map (·.key) = (L.map (·.1)).map kv := by
    have := congrArg (List.map Prod.fst) h3
    simpa [List.map_map, Function.comp_def] using this
  rw [e] at h2
  exact List.Pairwise.of_map kv (fun a b hab e => hab (by rw [e])) h2
omit [DecidableEq α] in
theorem isKeys {es : Array MapEntry} (KK : KeyK P t kt et d kv) (h : es.toList.map (fun e => (e.key, e.val)) = L.map (fun p => (kv p.1, p.2))) : ∀ x ∈ es.toList, IsKey d x.key := by
  intro x hx
  have : (x.key, x.val) ∈ L.map (fun p => (kv p.1, p.2)) := h ▸ List.mem_map.2 ⟨x, hx, rfl⟩
  obtain ⟨p, _, e⟩ := List.mem_map.1 this
  rw [← (Prod.mk.inj e).1]
  exact KK.key _
omit [DecidableEq α] in
theorem ent_at {es : Array MapEntry} (h : es.toList.map (fun e => (e.key, e.val)) = L.map (fun p => (kv p.1, p.2))) (i : Nat) :
    (es.toList[i]?).map (fun e => (e.key, e.val)) = (L[i]?).map (fun p => (kv p.1, p.2)) := by
  rw [← List.getElem?_map, ← List.getElem?_map, h]
theorem lk_none {k : α} : lk L k = none ↔ ∀ p ∈ L, p.1 ≠ k := by simp [lk]
theorem lk_cons {a k : α} {v : Value} : lk ((a, v) :: L) k = if a = k then some v else lk L k := by
  unfold lk
  by_cases h : a = k <;> simp [h]
theorem lk_mem {k : α} {v : Value} (h : lk L k = some v) : (k, v) ∈ L := by
  induction L with
  | nil => simp [lk] at h
  | cons p L ih =>
    obtain ⟨a, u⟩ := p
    rw [lk_cons] at h
    split at h
    · rename_i e; cases h; subst e; simp
    · exact List.mem_cons_of_mem _ (ih h)
theorem mem_lk (hn : (L.map (·.1)).Nodup) {k : α} {v : Value} (h : (k, v) ∈ L) : lk L k = some v := by
  induction L with
  | nil => cases h
  | cons p L ih =>
    obtain ⟨a, u⟩ := p
    rw [lk_cons]
    simp only [List.map_cons, List.nodup_cons] at hn
    rcases List.mem_cons.1 h with e | h
    · cases e; simp
    · have : a ≠ k := fun e => hn.1 (e ▸ List.mem_map.2 ⟨_, h, rfl⟩)
      rw [if_neg this]
      exact ih hn.2 h
/-- what a search finds -/
theorem found (KK : KeyK P t kt et d kv) {es : Array MapEntry} {clock : Nat} (hs : Stamped es clock) (h : es.toList.map (fun e => (e.key, e.val)) = L.map (fun p => (kv p.1, p.2))) (k : α) :
    (lk L k = none ∧ Instr.findNow d (kv k) es.toList 0 = some none ∧ ∀ x ∈ es.toList, x.key ≠ kv k) ∨
    ∃ (i : Nat) (e : MapEntry) (v : Value), lk L k = some v ∧ Instr.findNow d (kv k) es.toList 0 = some (some (i, v)) ∧ es[i]? = some e ∧ e.key = kv k ∧ e.val = v ∧ L[i]? = some (k, v) := by
  have hn : (L.map (·.1)).Nodup := MapAt.nodup (w := { (default : World) with heap := #[.map es clock] }) (b := 0) ⟨es, clock, rfl, hs, h⟩
  rcases findNow_spec (KK.key k) es.toList 0 (isKeys KK h) with ⟨h1, h2⟩ | ⟨j, e, h1, h2, h3⟩
  · refine .inl ⟨lk_none.2 fun p hp e => ?_, h1, h2⟩
    have : (kv p.1, p.2) ∈ es.toList.map (fun e => (e.key, e.val)) := h ▸ List.mem_map.2 ⟨p, hp, rfl⟩
    obtain ⟨x, hx, e2⟩ := List.mem_map.1 this
    exact h2 x hx (by rw [(Prod.mk.inj e2).1, e])
  · right
    have hj := ent_at h j
    rw [h2] at hj
    cases hL : L[j]? with
    | none => simp [hL] at hj
    | some p =>
      simp [hL] at hj
      have hk : p.1 = k := KK.inj _ _ (by rw [← hj.1, h3])
      have hm : (k, p.2) ∈ L := by rw [← hk]; exact List.mem_of_getElem? hL
      refine ⟨j, e, p.2, mem_lk hn hm, ?_, by simpa using h2, h3, hj.2, by rw [← hk]; exact hL⟩
      rw [h1, hj.2, Nat.zero_add]
theorem look_ok (KK : KeyK P t kt et d kv) (h : MapAt kv w b L) {z : Value} (hz : zeroIs P et z) (k : α) :
    smr P (Instr.lookup t (.map (some b)) (kv k) true) K w Q = K (.tuple #[(lk L k).getD z, .bool (lk L k).isSome]) w Q := by
  obtain ⟨es, clock, h1, h2, h3⟩ := h
  refine smr_run ?_
  rcases found KK h2 h3 k with ⟨e1, e2, _⟩ | ⟨i, e, v, e1, e2, _, _, _, _⟩
  · simp [Instr.lookup, run_underlying KK.hm, Go.MapKept.run_getObj_map h1, Go.MapKept.run_checkKey KK.hd (KK.key k), Go.MapKept.run_findKey KK.hd e2, e1, Result.andThen, zero_run hz]
  · simp [Instr.lookup, run_underlying KK.hm, Go.MapKept.run_getObj_map h1, Go.MapKept.run_checkKey KK.hd (KK.key k), Go.MapKept.run_findKey KK.hd e2, e1, Result.andThen]
theorem look_v (KK : KeyK P t kt et d kv) (h : MapAt kv w b L) {z : Value} (hz : zeroIs P et z) (k : α) :
    smr P (Instr.lookup t (.map (some b)) (kv k) false) K w Q = K ((lk L k).getD z) w Q := by
  obtain ⟨es, clock, h1, h2, h3⟩ := h
  refine smr_run ?_
  rcases found KK h2 h3 k with ⟨e1, e2, _⟩ | ⟨i, e, v, e1, e2, _, _, _, _⟩
  · simp [Instr.lookup, run_underlying KK.hm, Go.MapKept.run_getObj_map h1, Go.MapKept.run_checkKey KK.hd (KK.key k), Go.MapKept.run_findKey KK.hd e2, e1, Result.andThen, zero_run hz]
  · simp [Instr.lookup, run_underlying KK.hm, Go.MapKept.run_getObj_map h1, Go.MapKept.run_checkKey KK.hd (KK.key k), Go.MapKept.run_findKey KK.hd e2, e1, Result.andThen]
theorem Ksm_look_v (KK : KeyK P t kt et d kv) (h : MapAt kv w b L) {z : Value} (hz : zeroIs P et z) (k : α) : Ksm P (Instr.lookup t (.map (some b)) (kv k) false) ((lk L k).getD z) w := by
  obtain ⟨es, clock, h1, h2, h3⟩ := h
  unfold Ksm
  rcases found KK h2 h3 k with ⟨e1, e2, _⟩ | ⟨i, e, v, e1, e2, _, _, _, _⟩
  · simp [Instr.lookup, run_underlying KK.hm, Go.MapKept.run_getObj_map h1, Go.MapKept.run_checkKey KK.hd (KK.key k), Go.MapKept.run_findKey KK.hd e2, e1, Result.andThen, zero_run hz]
  · simp [Instr.lookup, run_underlying KK.hm, Go.MapKept.run_getObj_map h1, Go.MapKept.run_checkKey KK.hd (KK.key k), Go.MapKept.run_findKey KK.hd e2, e1, Result.andThen]
theorem Ksm_look_ok (KK : KeyK P t kt et d kv) (h : MapAt kv w b L) {z : Value} (hz : zeroIs P et z) (k : α) : Ksm P (Instr.lookup t (.map (some b)) (kv k) true) (.tuple #[(lk L k).getD z, .bool (lk L k).isSome]) w := by
  obtain ⟨es, clock, h1, h2, h3⟩ := h
  unfold Ksm
  rcases found KK h2 h3 k with ⟨e1, e2, _⟩ | ⟨i, e, v, e1, e2, _, _, _, _⟩
  · simp [Instr.lookup, run_underlying KK.hm, Go.MapKept.run_getObj_map h1, Go.MapKept.run_checkKey KK.hd (KK.key k), Go.MapKept.run_findKey KK.hd e2, e1, Result.andThen, zero_run hz]
  · simp [Instr.lookup, run_underlying KK.hm, Go.MapKept.run_getObj_map h1, Go.MapKept.run_checkKey KK.hd (KK.key k), Go.MapKept.run_findKey KK.hd e2, e1, Result.andThen]
theorem put_at {i : Nat} {k : α} {u v : Value} (hn : (L.map (·.1)).Nodup) (h : L[i]? = some (k, u)) : put L k v = L.set i (k, v) := by
  unfold put
  rw [if_pos (List.mem_map.2 ⟨_, List.mem_of_getElem? h, rfl⟩)]
  apply List.ext_getElem?
  intro j
  rw [List.getElem?_map, List.getElem?_set]
  have hi : i < L.length := by
    rcases Nat.lt_or_ge i L.length with c | c
    · exact c
    · simp [List.getElem?_eq_none c] at h
  by_cases hij : i = j
  · subst hij
    rw [h]
    simp [hi]
  · simp only [hij, if_false]
    cases hj : L[j]? with
    | none => rfl
    | some p =>
      simp only [Option.map_some]
      have : p.1 ≠ k := by
        intro e
        have h1 : (L.map (·.1))[i]? = some k := by simp [h]
        have h2 : (L.map (·.1))[j]? = some k := by simp [hj, e]
        exact hij ((List.getElem?_inj (by simpa using hi) hn).1 (by rw [h1, h2]))
      simp [this]
/-- a key's value set -/
theorem upd_map (KK : KeyK P t kt et d kv) (h : MapAt kv w b L) (k : α) (v : Value) (kk : ∀ w', MapAt kv w' b (put L k v) → Upd b w w' → K0 w' Q) : smu P (Instr.mapUpdate t (.map (some b)) (kv k) v) K0 w Q := by
  have hn := h.nodup
  obtain ⟨es, clock, h1, h2, h3⟩ := h
  rcases found KK h2 h3 k with ⟨e1, e2, e3⟩ | ⟨i, e, u, e1, e2, e3, e4, e5, e6⟩
  · refine ⟨sb w b (.map (es.push { key := kv k, val := v, born := clock }) (clock + 1)), ?_, kk _ ⟨_, _, blk_sb h1, stamped_push h2 e3, ?_⟩ Upd_sb⟩
    · simp [Instr.mapUpdate, run_underlying KK.hm, Go.MapKept.run_getObj_map h1, Go.MapKept.run_checkKey KK.hd (KK.key k), Go.MapKept.run_findKey KK.hd e2, Go.MapKept.run_setObj_map _ h1, Result.andThen, sb]
    · have : ¬ k ∈ L.map (·.1) := by
        intro hm
        obtain ⟨p, hp, e⟩ := List.mem_map.1 hm
        exact lk_none.1 e1 p hp e
      simp [put, this, h3]
  · refine ⟨sb w b (.map (es.modify i fun x => { x with key := kv k, val := v }) clock), ?_, kk _ ⟨_, _, blk_sb h1, ?_, ?_⟩ Upd_sb⟩
    · simp [Instr.mapUpdate, run_underlying KK.hm, Go.MapKept.run_getObj_map h1, Go.MapKept.run_checkKey KK.hd (KK.key k), Go.MapKept.run_findKey KK.hd e2, e3, e4, Go.MapKept.run_keyThatStays (KK.key k), Go.MapKept.run_setObj_map _ h1, Result.andThen, sb]
    · exact stamped_modify h2 _ _ (fun _ _ => rfl) (fun e' _ he' => by rw [e3] at he'; cases he'; exact e4.symm)
    · rw [put_at hn e6]
      apply List.ext_getElem?
      intro j
      have hj := ent_at h3 j
      have hi := ent_at h3 i
      simp only [List.getElem?_map, Array.getElem?_toList, Array.getElem?_modify, List.getElem?_set] at hj ⊢
      by_cases hij : i = j
      · subst hij
        have hlt : i < L.length := by
          rcases Nat.lt_or_ge i L.length with c | c
          · exact c
          · simp [List.getElem?_eq_none c] at e6
        simp [e3, hlt]
      · simp only [hij, if_false]
        exact hj
omit [DecidableEq α] in
theorem map_eraseIdx' {β γ : Type} (f : β → γ) (l : List β) (i : Nat) : (l.eraseIdx i).map f = (l.map f).eraseIdx i := by
  rw [List.eraseIdx_eq_take_drop_succ, List.eraseIdx_eq_take_drop_succ, List.map_append, List.map_take, List.map_drop]
/-- a key deleted -/
theorem del_map {ts0 : Nat} {ty : TypeId} (KK : KeyK P t kt et d kv) (h : MapAt kv w b L) (k : α) (kk : ∀ w', MapAt kv w' b (del L k) → Upd b w w' → K (.tuple #[]) w' Q) : sm P (Builtin.delete_ #[t, ts0] ty #[.map (some b), kv k]) K w Q := by
  have hn := h.nodup
  obtain ⟨es, clock, h1, h2, h3⟩ := h
  rcases found KK h2 h3 k with ⟨e1, e2, e3⟩ | ⟨i, e, u, e1, e2, e3, e4, e5, e6⟩
  · refine ⟨.tuple #[], sb w b (.map es clock), ?_, kk _ ⟨_, _, blk_sb h1, h2, ?_⟩ Upd_sb⟩
    · simp [Builtin.delete_, run_underlying KK.hm, Go.MapKept.run_getObj_map h1, Go.MapKept.run_checkKey KK.hd (KK.key k), Go.MapKept.run_findKey KK.hd e2, Go.MapKept.run_setObj_map _ h1, Result.andThen, sb]
    · rw [h3]
      congr 1
      unfold del
      rw [List.filter_eq_self.2]
      intro p hp
      simpa using lk_none.1 e1 p hp
  · refine ⟨.tuple #[], sb w b (.map (es.eraseIdxIfInBounds i) clock), ?_, kk _ ⟨_, _, blk_sb h1, stamped_erase h2 _, ?_⟩ Upd_sb⟩
    · simp [Builtin.delete_, run_underlying KK.hm, Go.MapKept.run_getObj_map h1, Go.MapKept.run_checkKey KK.hd (KK.key k), Go.MapKept.run_findKey KK.hd e2, Go.MapKept.run_setObj_map _ h1, Result.andThen, sb]
    · have hi : i < es.size := by
        rcases Nat.lt_or_ge i es.size with c | c
        · exact c
        · simp [Array.getElem?_eq_none c] at e3
      have e7 : (es.eraseIdxIfInBounds i).toList = es.toList.eraseIdx i := by
        unfold Array.eraseIdxIfInBounds
        simp [hi]
      rw [e7, map_eraseIdx', h3, ← map_eraseIdx']
      congr 1
      have hiL : i < L.length := by
        rcases Nat.lt_or_ge i L.length with c | c
        · exact c
        · simp [List.getElem?_eq_none c] at e6
      have e8 : L = L.take i ++ (k, u) :: L.drop (i + 1) := by
        have hLi : L[i] = (k, u) := by rw [List.getElem?_eq_getElem hiL] at e6; exact Option.some.inj e6
        rw [← hLi, List.getElem_cons_drop, List.take_append_drop]
      have hn' := hn
      rw [e8, List.map_append, List.map_cons, List.nodup_append] at hn'
      obtain ⟨_, n2, n3⟩ := hn'
      rw [List.nodup_cons] at n2
      have f1 : ∀ p ∈ L.take i, p.1 ≠ k := fun p hp e => n3 p.1 (List.mem_map.2 ⟨p, hp, rfl⟩) k (by simp) e
      have f2 : ∀ p ∈ L.drop (i + 1), p.1 ≠ k := fun p hp e => n2.1 (List.mem_map.2 ⟨p, hp, e⟩)
      rw [List.eraseIdx_eq_take_drop_succ]
      conv => rhs; rw [e8]
      unfold del
      rw [List.filter_append, List.filter_cons]
      simp only [ne_eq, not_true_eq_false, decide_false, Bool.false_eq_true, if_false]
      rw [List.filter_eq_self.2 (fun p hp => by simpa using f1 p hp), List.filter_eq_self.2 (fun p hp => by simpa using f2 p hp)]
/-- all keys deleted -/
theorem clear_map {ty : TypeId} (KK : KeyK P t kt et d kv) (h : MapAt kv w b L) (kk : ∀ w', MapAt kv w' b [] → Upd b w w' → K (.tuple #[]) w' Q) : sm P (Builtin.clear_ #[t] ty #[.map (some b)]) K w Q := by
  obtain ⟨es, clock, h1, h2, h3⟩ := h
  refine ⟨.tuple #[], sb w b (.map #[] clock), ?_, kk _ ⟨_, _, blk_sb h1, stamped_empty _, rfl⟩ Upd_sb⟩
  simp [Builtin.clear_, run_underlying KK.hm, Go.MapKept.run_getObj_map h1, Go.MapKept.run_setObj_map _ h1, Result.andThen, sb]
omit [DecidableEq α] in
/-- a new map -/
theorem mm_map (kk : ∀ w', MapAt kv w' w.heap.size [] → Below w.heap.size w w' → K (.map (some w.heap.size)) w' Q) : mm K w Q :=
  kk _ ⟨#[], 0, blk_psh_new, stamped_empty _, rfl⟩ (b_psh _ _)
omit [DecidableEq α] in
theorem len_map {ty : TypeId} (KK : KeyK P t kt et d kv) (h : MapAt kv w b L) : (Builtin.len_ #[t] ty #[.map (some b)]).run P w = .ok (.int .i64 L.length) w := by
  obtain ⟨es, clock, h1, h2, h3⟩ := h
  have : es.size = L.length := by simpa using congrArg List.length h3
  simp [Builtin.len_, run_underlying KK.hm, Go.MapKept.run_getObj_map h1, Result.andThen, goInt, this]
/-! ranges -/
/-- an iterator over a map: what has not yet been told -/
def RangeAt {α : Type} (kv : α → Value) (w : World) (r b : Nat) (L rest : List (α × Value)) : Prop :=
  ∃ es clock since seen c0, w.heap[b]? = some (.map es clock) ∧ w.heap[r]? = some (.mapIter (some b) since seen c0) ∧ Stamped es clock ∧ (∀ x ∈ es.toList, x.born < since) ∧ since ≤ c0 ∧ since ≤ clock ∧
    es.toList.map (fun e => (e.key, e.val)) = L.map (fun p => (kv p.1, p.2)) ∧ (leftOf es seen).toList.map (fun e => (e.key, e.val)) = rest.map (fun p => (kv p.1, p.2))
omit [DecidableEq α] in
theorem RangeAt.map {r : Nat} {rest : List (α × Value)} (h : RangeAt kv w r b L rest) : MapAt kv w b L := by
  obtain ⟨es, clock, since, seen, c0, h1, h2, h3, h4, h5, h6, h7, h8⟩ := h
  exact ⟨es, clock, h1, h3, h7⟩
omit [DecidableEq α] in
theorem RangeAt.stay {r : Nat} {rest : List (α × Value)} {w' : World} (h : RangeAt kv w r b L rest) (hb : w'.heap[b]? = w.heap[b]?) (hr : w'.heap[r]? = w.heap[r]?) : RangeAt kv w' r b L rest := by
  obtain ⟨es, clock, since, seen, c0, h1, h2, h3⟩ := h
  exact ⟨es, clock, since, seen, c0, by rw [hb]; exact h1, by rw [hr]; exact h2, h3⟩
omit [DecidableEq α] in
theorem RangeAt.lt {r : Nat} {rest : List (α × Value)} (h : RangeAt kv w r b L rest) : b < w.heap.size ∧ r < w.heap.size := by
  obtain ⟨es, clock, since, seen, c0, h1, h2, _⟩ := h
  exact ⟨blk_lt h1, blk_lt h2⟩
omit [DecidableEq α] in
theorem RangeAt.below {r : Nat} {rest : List (α × Value)} {w' : World} (h : RangeAt kv w r b L rest) (hb : Below w.heap.size w w') : RangeAt kv w' r b L rest := h.stay (hb.block _ h.lt.1) (hb.block _ h.lt.2)
omit [DecidableEq α] in
theorem RangeAt.chg {r p : Nat} {rest : List (α × Value)} {w' : World} (h : RangeAt kv w r b L rest) (hb : Chg p w w') (h1 : b ≠ p) (h2 : r ≠ p) : RangeAt kv w' r b L rest := h.stay (hb.block _ h.lt.1 h1) (hb.block _ h.lt.2 h2)
omit [DecidableEq α] in
theorem range_map (KK : KeyK P t kt et d kv) (h : MapAt kv w b L) (kk : ∀ w', RangeAt kv w' w.heap.size b L L → Below w.heap.size w w' → K (.pointer (some ⟨w.heap.size, 0, none⟩)) w' Q) : sm P (Instr.range t (.map (some b))) K w Q := by
  obtain ⟨es, clock, h1, h2, h3⟩ := h
  have hlt := blk_lt h1
  refine ⟨.pointer (some ⟨w.heap.size, 0, none⟩), psh w (.mapIter (some b) clock #[] clock), ?_, kk _ ⟨es, clock, clock, #[], clock, ?_, blk_psh_new, h2, h2.1, Nat.le_refl _, Nat.le_refl _, h3, ?_⟩ (b_psh _ _)⟩
  · simp [Instr.range, run_underlying KK.hm, Go.MapKept.run_getObj_map h1, Result.andThen, newObj, psh, Sem.run]
  · rw [blk_psh_old hlt]; exact h1
  · have : leftOf es #[] = es := by simp [leftOf]
    rw [this]; exact h3
theorem filter_born : ∀ (l : List MapEntry), (l.map (·.born)).Nodup → ∀ (i : Nat) (hi : i < l.length), l.filter (fun x => !(x.born == l[i].born)) = l.eraseIdx i := by
  intro l
  induction l with
  | nil => intro _ i hi; simp at hi
  | cons a l ih =>
    intro hn i hi
    simp only [List.map_cons, List.nodup_cons] at hn
    cases i with
    | zero =>
      simp only [List.getElem_cons_zero, List.eraseIdx_cons_zero, List.filter_cons, beq_self_eq_true, Bool.not_true, Bool.false_eq_true, if_false]
      rw [List.filter_eq_self.2]
      intro x hx
      have : x.born ≠ a.born := fun e => hn.1 (e ▸ List.mem_map.2 ⟨x, hx, rfl⟩)
      simpa using this
    | succ i =>
      have hi' : i < l.length := by simpa using hi
      have : a.born ≠ l[i].born := fun e => hn.1 (e ▸ List.mem_map.2 ⟨_, List.getElem_mem hi', rfl⟩)
      simp only [List.getElem_cons_succ, List.eraseIdx_cons_succ, List.filter_cons]
      rw [if_pos (by simpa using this), ih hn.2 i hi']
omit [DecidableEq α] in
theorem next_map {ty : TypeId} {r : Nat} {rest : List (α × Value)} (hrb : r ≠ b) (h : RangeAt kv w r b L rest) (k0 : rest = [] → K (.tuple #[.bool false]) w Q)
    (k1 : ∀ (i : Nat) (hi : i < rest.length) w', RangeAt kv w' r b L (rest.eraseIdx i) → Chg r w w' → K (.tuple #[.bool true, kv rest[i].1, rest[i].2]) w' Q) :
    sm P (Instr.next (.pointer (some ⟨r, 0, none⟩)) false ty) K w Q := by
  obtain ⟨es, clock, since, seen, c0, h1, h2, h3, h4, h5, h6, h7, h8⟩ := h
  rcases run_next_at (P := P) w ty r b since c0 seen es clock h2 h1 h4 h5 with ⟨e1, e2⟩ | ⟨e, he, w1, hw1, hrun⟩
  · refine ⟨_, w, e2, k0 ?_⟩
    have : (leftOf es seen).toList = [] := by simpa using e1
    rw [this] at h8
    simpa using h8.symm
  · obtain ⟨i, hi, hie⟩ := List.mem_iff_getElem.1 he
    have hli : i < rest.length := by have := congrArg List.length h8; simp at this; simp at hi; omega
    have hent : e.key = kv rest[i].1 ∧ e.val = rest[i].2 := by
      have := congrArg (fun l => l[i]?) h8
      simp only [List.getElem?_map, List.getElem?_eq_getElem hi, List.getElem?_eq_getElem hli, Option.map_some, hie] at this
      simpa using this
    refine ⟨_, _, hrun, ?_⟩
    rw [hent.1, hent.2]
    have hw1h : w1.heap = w.heap := by rcases hw1 with rfl | rfl <;> rfl
    refine k1 i hli _ ⟨es, clock, since, seen.push e.born, clock, ?_, ?_, h3, h4, h6, h6, h7, ?_⟩ ?_
    · show (w1.heap.setIfInBounds r _)[b]? = _
      rw [Array.getElem?_setIfInBounds_ne hrb, hw1h]; exact h1
    · show (w1.heap.setIfInBounds r _)[r]? = _
      rw [hw1h]
      have := blk_lt h2
      simp [this]
    · have : (leftOf es (seen.push e.born)).toList = (leftOf es seen).toList.eraseIdx i := by
        have hnd : ((leftOf es seen).toList.map (·.born)).Nodup := by
          unfold leftOf
          rw [Array.toList_filter]
          exact List.Nodup.sublist (List.Sublist.map _ List.filter_sublist) h3.2.1
        rw [← filter_born _ hnd i hi, hie]
        unfold leftOf
        simp only [Array.toList_filter, List.filter_filter]
        apply List.filter_congr
        intro x _
        rw [Bool.eq_iff_iff]
        simp [Array.mem_push, not_or, and_comm]
      rw [this, map_eraseIdx', h8, ← map_eraseIdx']
    · refine ⟨?_, ?_, ?_, ?_, ?_⟩
      · rcases hw1 with rfl | rfl <;> rfl
      · rcases hw1 with rfl | rfl <;> rfl
      · rcases hw1 with rfl | rfl <;> rfl
      · show _ ≤ (w1.heap.setIfInBounds r _).size
        rw [Array.size_setIfInBounds, hw1h]; exact Nat.le_refl _
      · intro k hk hne
        show (w1.heap.setIfInBounds r _)[k]? = _
        rw [Array.getElem?_setIfInBounds_ne (Ne.symm hne), hw1h]
end
end Sh
end Go.Proofs.YtongpnolikkknaaDoor

namespace Go.Proofs.YtongpnolikkknaaDoor
namespace Sh
open RowKit Go.MapKept
/-- a map's type, its keys' -/
theorem find_born : ∀ (l : List MapEntry), (l.map (·.born)).Nodup → ∀ e ∈ l, l.find? (fun x => x.born == e.born) = some e := by
  intro l
  induction l with
  | nil => intro _ e h; cases h
  | cons a l ih =>
    intro hn e he
    simp only [List.map_cons, List.nodup_cons] at hn
    rw [List.find?_cons]
    rcases List.mem_cons.1 he with rfl | he
    · simp
    · have : a.born ≠ e.born := fun c => hn.1 (c ▸ List.mem_map.2 ⟨e, he, rfl⟩)
      have h2 : (a.born == e.born) = false := by simpa using this
      rw [h2]
      exact ih hn.2 e he
section
variable {α : Type} [DecidableEq α] {kv : α → Value} {P : Program} {t kt et : TypeId} {d : TypeDesc} {w : World} {b : Nat} {L : List (α × Value)} {K : Value → M} {K0 : M} {Q : Value → World → Prop}
omit [DecidableEq α] in
theorem next_map_e {ty : TypeId} {r : Nat} {rest : List (α × Value)} (hrb : r ≠ b) (h : RangeAt kv w r b L rest) (k0 : rest = [] → K (.tuple #[.bool false]) w Q)
    (k1 : ∀ (i : Nat) (hi : i < rest.length) w', RangeAt kv w' r b L (rest.eraseIdx i) → Chg r w w' → (∀ w2 : World, w2.heap[r]? = w'.heap[r]? → w2.heap[b]? = w'.heap[b]? → (Instr.entry (.pointer (some ⟨r, 0, none⟩))).run P w2 = .ok (.tuple #[kv rest[i].1, rest[i].2]) w2) → K (.tuple #[.bool true, kv rest[i].1, rest[i].2]) w' Q) :
    sm P (Instr.next (.pointer (some ⟨r, 0, none⟩)) false ty) K w Q := by
  obtain ⟨es, clock, since, seen, c0, h1, h2, h3, h4, h5, h6, h7, h8⟩ := h
  rcases run_next_at (P := P) w ty r b since c0 seen es clock h2 h1 h4 h5 with ⟨e1, e2⟩ | ⟨e, he, w1, hw1, hrun⟩
  · refine ⟨_, w, e2, k0 ?_⟩
    have : (leftOf es seen).toList = [] := by simpa using e1
    rw [this] at h8
    simpa using h8.symm
  · obtain ⟨i, hi, hie⟩ := List.mem_iff_getElem.1 he
    have hli : i < rest.length := by have := congrArg List.length h8; simp at this; simp at hi; omega
    have hent : e.key = kv rest[i].1 ∧ e.val = rest[i].2 := by
      have := congrArg (fun l => l[i]?) h8
      simp only [List.getElem?_map, List.getElem?_eq_getElem hi, List.getElem?_eq_getElem hli, Option.map_some, hie] at this
      simpa using this
    refine ⟨_, _, hrun, ?_⟩
    rw [hent.1, hent.2]
    have hw1h : w1.heap = w.heap := by rcases hw1 with rfl | rfl <;> rfl
    refine k1 i hli _ ⟨es, clock, since, seen.push e.born, clock, ?_, ?_, h3, h4, h6, h6, h7, ?_⟩ ?_ ?_
    · show (w1.heap.setIfInBounds r _)[b]? = _
      rw [Array.getElem?_setIfInBounds_ne hrb, hw1h]; exact h1
    · show (w1.heap.setIfInBounds r _)[r]? = _
      rw [hw1h]
      have := blk_lt h2
      simp [this]
    · have : (leftOf es (seen.push e.born)).toList = (leftOf es seen).toList.eraseIdx i := by
        have hnd : ((leftOf es seen).toList.map (·.born)).Nodup := by
          unfold leftOf
          rw [Array.toList_filter]
          exact List.Nodup.sublist (List.Sublist.map _ List.filter_sublist) h3.2.1
        rw [← filter_born _ hnd i hi, hie]
        unfold leftOf
        simp only [Array.toList_filter, List.filter_filter]
        apply List.filter_congr
        intro x _
        rw [Bool.eq_iff_iff]
        simp [Array.mem_push, not_or, and_comm]
      rw [this, map_eraseIdx', h8, ← map_eraseIdx']
    · refine ⟨?_, ?_, ?_, ?_, ?_⟩
      · rcases hw1 with rfl | rfl <;> rfl
      · rcases hw1 with rfl | rfl <;> rfl
      · rcases hw1 with rfl | rfl <;> rfl
      · show _ ≤ (w1.heap.setIfInBounds r _).size
        rw [Array.size_setIfInBounds, hw1h]; exact Nat.le_refl _
      · intro k hk hne
        show (w1.heap.setIfInBounds r _)[k]? = _
        rw [Array.getElem?_setIfInBounds_ne (Ne.symm hne), hw1h]
    · intro w2 q1 q2
      have g1 : w2.heap[r]? = some (.mapIter (some b) since (seen.push e.born) clock) := by
        rw [q1]
        show (w1.heap.setIfInBounds r _)[r]? = _
        rw [hw1h]
        have := blk_lt h2
        simp [this]
      have g2 : w2.heap[b]? = some (.map es clock) := by
        rw [q2]
        show (w1.heap.setIfInBounds r _)[b]? = _
        rw [Array.getElem?_setIfInBounds_ne hrb, hw1h]; exact h1
      have hem : e ∈ es.toList := by
        have : e ∈ (leftOf es seen).toList := he
        unfold leftOf at this
        rw [Array.toList_filter] at this
        exact (List.mem_filter.1 this).1
      have hfind : es.find? (fun x => x.born == e.born) = some e := by
        rw [← Array.find?_toList]
        exact find_born es.toList h3.2.1 e hem
      have o1 : (getObj r).run P w2 = .ok (.mapIter (some b) since (seen.push e.born) clock) w2 := by simp [getObj, Sem.run, g1]
      have o2 : (getObj b).run P w2 = .ok (.map es clock) w2 := Go.MapKept.run_getObj_map g2
      rw [← hent.1, ← hent.2]
      simp [Instr.entry, o1, o2, hfind, Result.andThen]
end
end Sh
end Go.Proofs.YtongpnolikkknaaDoor

namespace Go.Proofs.YtongpnolikkknaaDoor
namespace Sh
open RowKit Go.MapKept
structure KeyG {α : Type} (P : Program) (t kt et : TypeId) (kv : α → Value) (ok : α → Prop) : Prop where
  hm : P.underlying t = some (.map kt et)
  law : WideMaps.KeyLaw P kt
  ko : ∀ a, ok a → ∃ l, keyOf P kt (kv a) = some l
  inj : ∀ a b, kv a = kv b → a = b
section
variable {α : Type} [DecidableEq α] {kv : α → Value} {ok : α → Prop} {P : Program} {t kt et : TypeId} {w : World} {b : Nat} {L : List (α × Value)} {K : Value → M} {K0 : M} {Q : Value → World → Prop}
theorem foundG (KK : KeyG P t kt et kv ok) {es : Array MapEntry} {clock : Nat} (hs : Stamped es clock) (h : es.toList.map (fun e => (e.key, e.val)) = L.map (fun p => (kv p.1, p.2))) (hL : ∀ p ∈ L, ok p.1) (k : α) (hk : ok k) :
    (lk L k = none ∧ (Instr.findKey kt (kv k) es.toList).run P w = .ok none w ∧ ∀ x ∈ es.toList, x.key ≠ kv k) ∨
    ∃ (i : Nat) (e : MapEntry) (v : Value), lk L k = some v ∧ (Instr.findKey kt (kv k) es.toList).run P w = .ok (some (i, v)) w ∧ es[i]? = some e ∧ e.key = kv k ∧ e.val = v ∧ L[i]? = some (k, v) := by
  have hn : (L.map (·.1)).Nodup := MapAt.nodup (w := { (default : World) with heap := #[.map es clock] }) (b := 0) ⟨es, clock, rfl, hs, h⟩
  obtain ⟨lx, hlx⟩ := KK.ko k hk
  have hall : ∀ e ∈ es.toList, ∃ l, keyOf P kt e.key = some l := by
    intro e he
    have : (e.key, e.val) ∈ L.map (fun p => (kv p.1, p.2)) := h ▸ List.mem_map.2 ⟨e, he, rfl⟩
    obtain ⟨p, hp, e1⟩ := List.mem_map.1 this
    rw [← (Prod.mk.inj e1).1]
    exact KK.ko _ (hL p hp)
  rcases KK.law.find w hlx es.toList hall with ⟨h1, h2⟩ | ⟨j, e, h1, h2, h3⟩
  · refine .inl ⟨lk_none.2 fun p hp e => ?_, h1, h2⟩
    have : (kv p.1, p.2) ∈ es.toList.map (fun e => (e.key, e.val)) := h ▸ List.mem_map.2 ⟨p, hp, rfl⟩
    obtain ⟨x, hx, e1⟩ := List.mem_map.1 this
    exact h2 x hx (by rw [(Prod.mk.inj e1).1, e])
  · have ha := ent_at h j
    rw [h2] at ha
    cases hp : L[j]? with
    | none => rw [hp] at ha; cases ha
    | some p =>
      rw [hp] at ha
      simp only [Option.map_some, Option.some.injEq, Prod.mk.injEq] at ha
      have hk1 : p.1 = k := KK.inj _ _ (by rw [← ha.1, h3])
      obtain ⟨p1, p2⟩ := p
      simp only at hk1 ha
      subst hk1
      refine .inr ⟨j, e, p2, mem_lk hn (List.mem_of_getElem? hp), by rw [h1, ha.2], by simpa using h2, h3, ha.2, hp⟩
theorem look_vG (KK : KeyG P t kt et kv ok) (h : MapAt kv w b L) (hL : ∀ p ∈ L, ok p.1) {z : Value} (hz : zeroIs P et z) (k : α) (hk : ok k) :
    smr P (Instr.lookup t (.map (some b)) (kv k) false) K w Q = K ((lk L k).getD z) w Q := by
  obtain ⟨es, clock, h1, h2, h3⟩ := h
  obtain ⟨lx, hlx⟩ := KK.ko k hk
  refine smr_run ?_
  rcases foundG (w := w) KK h2 h3 hL k hk with ⟨e1, e2, _⟩ | ⟨i, e, v, e1, e2, _, _, _, _⟩
  · simp [Instr.lookup, run_underlying KK.hm, Go.MapKept.run_getObj_map h1, KK.law.check w _ hlx, e2, e1, Result.andThen, zero_run hz]
  · simp [Instr.lookup, run_underlying KK.hm, Go.MapKept.run_getObj_map h1, KK.law.check w _ hlx, e2, e1, Result.andThen]
/-- a map of which one entry is at hand -/
def EntryAt {α : Type} (kv : α → Value) (w : World) (b : Nat) (L : List (α × Value)) (k : α) (st : Nat) : Prop :=
  ∃ es clock, w.heap[b]? = some (.map es clock) ∧ Stamped es clock ∧ es.toList.map (fun e => (e.key, e.val)) = L.map (fun p => (kv p.1, p.2)) ∧ ∃ (i : Nat) (e : MapEntry), es[i]? = some e ∧ e.born = st ∧ e.key = kv k
omit [DecidableEq α] in
theorem EntryAt.stay {w' : World} {k : α} {st : Nat} (h : EntryAt kv w b L k st) (hb : w'.heap[b]? = w.heap[b]?) : EntryAt kv w' b L k st := by
  obtain ⟨es, clock, h1, h2⟩ := h
  exact ⟨es, clock, by rw [hb]; exact h1, h2⟩
omit [DecidableEq α] in
theorem EntryAt.lt {k : α} {st : Nat} (h : EntryAt kv w b L k st) : b < w.heap.size := by obtain ⟨es, clock, h1, _⟩ := h; exact blk_lt h1
omit [DecidableEq α] in
theorem EntryAt.map {k : α} {st : Nat} (h : EntryAt kv w b L k st) : MapAt kv w b L := by
  obtain ⟨es, clock, h1, h2, h3, _⟩ := h
  exact ⟨es, clock, h1, h2, h3⟩
def ent (L : List (α × Value)) (k : α) (z : Value) : List (α × Value) := if k ∈ L.map (·.1) then L else L ++ [(k, z)]
theorem put_ent (L : List (α × Value)) (k : α) (z v : Value) : put (ent L k z) k v = put L k v := by
  unfold ent
  split
  · rfl
  · rename_i h
    unfold put
    rw [if_pos (by simp), if_neg h, List.map_append]
    congr 1
    · conv => rhs; rw [← List.map_id L]
      refine List.map_congr_left fun p hp => ?_
      rw [if_neg (fun e => h (by rw [← e]; exact List.mem_map.2 ⟨p, hp, rfl⟩))]; rfl
    · simp
theorem lk_some_mem {k : α} {v : Value} (h : lk L k = some v) : k ∈ L.map (·.1) := List.mem_map.2 ⟨_, lk_mem h, rfl⟩
theorem ent_map (KK : KeyG P t kt et kv ok) (h : MapAt kv w b L) (hL : ∀ p ∈ L, ok p.1) {z : Value} (hz : zeroIs P et z) (k : α) (hk : ok k)
    (kk : ∀ w' st, EntryAt kv w' b (ent L k z) k st → Upd b w w' → K (.tuple #[(lk L k).getD z, .int .i64 (st : Nat)]) w' Q) : sm P (Instr.mapEntry t (.map (some b)) (kv k)) K w Q := by
  obtain ⟨es, clock, h1, h2, h3⟩ := h
  obtain ⟨lx, hlx⟩ := KK.ko k hk
  rcases foundG (w := w) KK h2 h3 hL k hk with ⟨e1, e2, e3⟩ | ⟨i, e, v, e1, e2, e4, e5, e6, e7⟩
  · refine ⟨.tuple #[z, .int .i64 clock], sb w b (.map (es.push { key := kv k, val := z, born := clock }) (clock + 1)), ?_, ?_⟩
    · simp [Instr.mapEntry, run_underlying KK.hm, Go.MapKept.run_getObj_map h1, KK.law.check w _ hlx, e2, Go.MapKept.run_setObj_map _ h1, Result.andThen, sb, zero_run hz, goInt]
    · have hne : ¬ k ∈ L.map (·.1) := by
        intro hm
        obtain ⟨p, hp, rfl⟩ := List.mem_map.1 hm
        exact lk_none.1 e1 p hp rfl
      have hpL : (es.push { key := kv k, val := z, born := clock }).toList.map (fun e => (e.key, e.val)) = (ent L k z).map (fun p => (kv p.1, p.2)) := by
        unfold ent
        rw [if_neg hne]
        simp [h3]
      have := kk (sb w b (.map (es.push { key := kv k, val := z, born := clock }) (clock + 1))) clock ⟨_, _, blk_sb h1, stamped_push h2 e3, hpL, es.size, { key := kv k, val := z, born := clock }, by simp, rfl, rfl⟩ Upd_sb
      rw [e1] at this
      exact this
  · have hmod : es.modify i (fun x => { x with key := kv k }) = es := by
      apply Array.ext_getElem?
      intro j
      rw [Array.getElem?_modify]
      split
      · rename_i c
        subst c
        rw [e4, Option.map_some, ← e5]
      · rfl
    have hst := KK.law.stays w hlx
    refine ⟨.tuple #[v, .int .i64 e.born], sb w b (.map es clock), ?_, ?_⟩
    · have e5' : (es[i]?.map (·.key)).getD (kv k) = kv k := by rw [e4]; simp [e5]
      simp [Instr.mapEntry, run_underlying KK.hm, Go.MapKept.run_getObj_map h1, KK.law.check w _ hlx, e2, e4, e5, hst, hmod, Go.MapKept.run_setObj_map _ h1, Result.andThen, sb, goInt]
    · have hpL : es.toList.map (fun e => (e.key, e.val)) = (ent L k z).map (fun p => (kv p.1, p.2)) := by
        unfold ent
        rw [if_pos (lk_some_mem e1)]
        exact h3
      have := kk (sb w b (.map es clock)) e.born ⟨_, _, blk_sb h1, h2, hpL, i, e, e4, rfl, e5⟩ Upd_sb
      rw [e1] at this
      exact this
theorem sto_map (KK : KeyG P t kt et kv ok) {k : α} {st : Nat} (h : EntryAt kv w b L k st) (v : Value) (kk : ∀ w', MapAt kv w' b (put L k v) → Upd b w w' → K0 w' Q) : smu P (Instr.entryStore t (.map (some b)) (.int .i64 (st : Nat)) v) K0 w Q := by
  have hn := h.map.nodup
  obtain ⟨es, clock, h1, h2, h3, i, e, e4, rfl, e5⟩ := h
  have hi : i < es.size := (Array.getElem?_eq_some_iff.1 e4).1
  have hei : es[i] = e := (Array.getElem?_eq_some_iff.1 e4).2
  have hidx : es.findIdx? (fun x => (x.born : Int) == (e.born : Int)) = some i := by
    rw [Array.findIdx?_eq_some_iff_getElem]
    refine ⟨hi, by rw [hei]; simp, fun j hj => ?_⟩
    have hne : es[j].born ≠ e.born := by
      intro c
      have hb := h2.2.1
      have z1 : (es.toList.map (·.born))[j]? = (es.toList.map (·.born))[i]? := by
        rw [List.getElem?_map, List.getElem?_map, Array.getElem?_toList, Array.getElem?_toList, Array.getElem?_eq_getElem (by omega), e4]
        simp [c]
      have := (List.getElem?_inj (by simp; omega) hb).1 z1
      omega
    simp
    omega
  refine ⟨sb w b (.map (es.modify i fun x => { x with val := v }) clock), ?_, kk _ ⟨_, _, blk_sb h1, ?_, ?_⟩ Upd_sb⟩
  · simp [Instr.entryStore, Go.MapKept.run_getObj_map h1, asInt, asIntOf, hidx, Go.MapKept.run_setObj_map _ h1, Result.andThen, sb]
  · exact stamped_modify h2 _ _ (fun _ _ => rfl) (fun _ _ _ => rfl)
  · have ha := ent_at h3 i
    rw [show es.toList[i]? = some e by simpa using e4] at ha
    cases hp : L[i]? with
    | none => rw [hp] at ha; cases ha
    | some p =>
      rw [hp] at ha
      simp only [Option.map_some, Option.some.injEq, Prod.mk.injEq] at ha
      have hk1 : p.1 = k := KK.inj _ _ (by rw [← ha.1, e5])
      obtain ⟨p1, p2⟩ := p
      simp only at hk1
      subst hk1
      rw [put_at hn hp]
      apply List.ext_getElem?
      intro j
      have hj := ent_at h3 j
      have hlt : i < L.length := (List.getElem?_eq_some_iff.1 hp).1
      simp only [List.getElem?_map, Array.getElem?_toList, Array.getElem?_modify, List.getElem?_set] at hj ⊢
      by_cases hij : i = j
      · subst hij
        simp [e4, hlt, e5]
      · simp only [hij, if_false]
        exact hj
end
end Sh
end Go.Proofs.YtongpnolikkknaaDoor

namespace Go.Proofs.YtongpnolikkknaaDoor
namespace Sh
open RowKit
/-- the method's row of a type: its function, and whether it takes a pointer -/
def mrow (P : Program) (t : TypeId) (name : String) : Option (FuncId × Bool) :=
  match P.info? t with
  | some i => match i.methods.find? (·.name == name) with
    | some m => if m.path.toList = [] then m.func else none
    | none => none
  | none => none
/-- a function that may be entered -/
def canEnter (P : Program) (f : FuncId) : Bool := match P.funcs[f]? with | some fn => fn.body.isSome && !(fn.name == "runtime.NumGoroutine") | none => false
section
variable {P : Program} {w : World} {Q : Value → World → Prop} {K : Value → M} {t e : TypeId} {name : String} {f : FuncId} {args : Array Value} {v : Value}
theorem run_callFunc (h : canEnter P f = true) : (callFunc f args).run P w = .ok (.enter f args) w := by
  unfold canEnter at h
  cases hf : P.funcs[f]? with
  | none => simp [hf] at h
  | some fn =>
    simp [hf] at h
    obtain ⟨h1, h2⟩ := h
    obtain ⟨b, hb⟩ := Option.isSome_iff_exists.1 h1
    simp [callFunc, hf, hb, h2]
theorem mrow_info {q : Bool} (h : mrow P t name = some (f, q)) : ∃ i m, P.info? t = some i ∧ i.methods.find? (·.name == name) = some m ∧ m.path.toList = [] ∧ m.func = some (f, q) := by
  unfold mrow at h
  cases hi : P.info? t with
  | none => simp [hi] at h
  | some i =>
    simp only [hi] at h
    cases hm : i.methods.find? (·.name == name) with
    | none => simp [hm] at h
    | some m =>
      simp only [hm] at h
      split at h
      · exact ⟨i, m, rfl, hm, by assumption, h⟩
      · cases h
/-- a method of a pointer, called with it -/
theorem run_meth_p (hm : mrow P t name = some (f, true)) (hp : P.underlying t = some (.pointer e)) (hf : canEnter P f = true) (hz : 0 < P.types.size) :
    (callMethod (.iface t v) name args).run P w = .ok (.enter f (#[v] ++ args)) w := by
  obtain ⟨i, m, h1, h2, h3, h4⟩ := mrow_info hm
  obtain ⟨n, hn⟩ : ∃ n, P.types.size + Made.depth = n + 1 := ⟨P.types.size + Made.depth - 1, by omega⟩
  unfold callMethod
  simp only [Sem.run_bind, run_program, Result.andThen_ok, hn]
  unfold method
  simp [typeInfo, h1, h2, h3, h4, follow, receiverAt, run_underlying hp, Place.get, run_callFunc hf, Result.andThen]
theorem nilchk {ts : Array TypeId} {ty : TypeId} {a : Addr} {s n : String} : Builtin.ssaWrapNilChk_ ts ty #[.pointer (some a), strVal s, strVal n] = pure (.pointer (some a)) := rfl
/-- a method of what a pointer points at -/
theorem run_meth_v (hm : mrow P t name = some (f, false)) (hp : P.underlying t = some (.pointer e)) (hs : isSc P e = true) (hf : canEnter P f = true) (hz : 0 < P.types.size) {a : Addr} (hc : w.cell? a = some v) :
    (callMethod (.iface t (.pointer (some a))) name args).run P w = .ok (.enter f (#[v] ++ args)) w := by
  obtain ⟨i, m, h1, h2, h3, h4⟩ := mrow_info hm
  obtain ⟨n, hn⟩ : ∃ n, P.types.size + Made.depth = n + 1 := ⟨P.types.size + Made.depth - 1, by omega⟩
  have h3' : m.path = #[] := by simpa using h3
  unfold callMethod
  simp only [Sem.run_bind, run_program, Result.andThen_ok, hn]
  unfold method
  simp [typeInfo, h1, h2, h3, h3', h4, follow, receiverAt, run_underlying hp, Place.get, nilchk, asAddr, loadVar, run_isAgg_sc hs, hc, run_callFunc hf, Result.andThen]
theorem ci_p (hm : mrow P t name = some (f, true)) (hp : P.underlying t = some (.pointer e)) (hf : canEnter P f = true) (hz : 0 < P.types.size) (k : Calls P f (#[v] ++ args) w (Rt fun v w' => K v w' Q)) : ci P (.iface t v) name args K w Q :=
  ⟨f, _, w, run_meth_p hm hp hf hz, k⟩
theorem ci_v (hm : mrow P t name = some (f, false)) (hp : P.underlying t = some (.pointer e)) (hs : isSc P e = true) (hf : canEnter P f = true) (hz : 0 < P.types.size) {a : Addr} (hc : w.cell? a = some v)
    (k : Calls P f (#[v] ++ args) w (Rt fun v w' => K v w' Q)) : ci P (.iface t (.pointer (some a))) name args K w Q :=
  ⟨f, _, w, run_meth_v hm hp hs hf hz hc, k⟩
end
end Sh
end Go.Proofs.YtongpnolikkknaaDoor

namespace Go.Proofs.YtongpnolikkknaaDoor
namespace Sh
open RowKit
/-- of the old blocks none but those of S has changed -/
structure ChgS (S : Nat → Prop) (w w' : World) : Prop where
  os : w'.os = w.os
  tape : w'.tape = w.tape
  output : w'.output = w.output
  size : w.heap.size ≤ w'.heap.size
  block : ∀ k, k < w.heap.size → ¬ S k → w'.heap[k]? = w.heap[k]?
theorem of_drw' {w w' : World} (h : Below (Sh.drw w).heap.size (Sh.drw w) w') : Below w.heap.size w w' := ⟨h.os, h.tape, h.output, h.size, h.block⟩
section
variable {S T : Nat → Prop} {w w' w2 : World}
theorem ChgS.refl (S : Nat → Prop) (w : World) : ChgS S w w := ⟨rfl, rfl, rfl, Nat.le_refl _, fun _ _ _ => rfl⟩
theorem ChgS.mono (h : ChgS S w w') (hs : ∀ k, S k → T k) : ChgS T w w' := ⟨h.os, h.tape, h.output, h.size, fun k a b => h.block k a (fun c => b (hs k c))⟩
theorem ChgS.mono' (h : ChgS S w w') (hs : ∀ k, k < w.heap.size → S k → T k) : ChgS T w w' := ⟨h.os, h.tape, h.output, h.size, fun k a b => h.block k a (fun c => b (hs k a c))⟩
theorem ChgS.trans (h : ChgS S w w') (k : ChgS T w' w2) (hs : ∀ x, x < w.heap.size → T x → S x) : ChgS S w w2 :=
  ⟨k.os.trans h.os, k.tape.trans h.tape, k.output.trans h.output, Nat.le_trans h.size k.size, fun i hi hp => (k.block i (Nat.lt_of_lt_of_le hi h.size) (fun c => hp (hs i hi c))).trans (h.block i hi hp)⟩
theorem ChgS.of_below (h : Below w.heap.size w w') : ChgS S w w' := ⟨h.os, h.tape, h.output, h.size, fun k hk _ => h.block k hk⟩
theorem ChgS.of_upd {p : Nat} (h : Upd p w w') (hp : S p) : ChgS S w w' := ⟨h.os, h.tape, h.output, by rw [h.size]; exact Nat.le_refl _, fun k _ hk => h.block k (fun e => hk (e ▸ hp))⟩
theorem ChgS.of_chg {p : Nat} (h : Chg p w w') (hp : S p) : ChgS S w w' := ⟨h.os, h.tape, h.output, h.size, fun k hl hk => h.block k hl (fun e => hk (e ▸ hp))⟩
theorem ChgS.below {B : Nat} (h : ChgS S w w') (hB : ∀ k, S k → B ≤ k) (hw : B ≤ w.heap.size) : Below B w w' := ⟨h.os, h.tape, h.output, h.size, fun k hk => h.block k (by omega) (fun c => by have := hB k c; omega)⟩
theorem ChgS.keep {q : Nat} {o : Obj} (h : ChgS S w w') (hq : w.heap[q]? = some o) (hne : ¬ S q) : w'.heap[q]? = some o := by rw [h.block q (blk_lt hq) hne]; exact hq
theorem ChgS.drw (h : ChgS S w w') : ChgS S w (drw w') := ⟨h.os, h.tape, h.output, h.size, h.block⟩
theorem ChgS.of_drw (h : ChgS S (Sh.drw w) w') : ChgS S w w' := ⟨h.os, h.tape, h.output, h.size, h.block⟩
theorem bs {B : Nat} {w0 : World} (b : Below B w0 w) (hB : ∀ k, S k → B ≤ k) (hw : B ≤ w.heap.size) (h : ChgS S w w') : Below B w0 w' := b.trans (h.below hB hw)
theorem ChgS.grown {w' : World} {row : Option Nat} (hg : w.grownBy w' row) (hr : ∀ k, row = some k → S k) : ChgS S w w' := by
  refine ⟨hg.os, hg.tape, hg.output, hg.size, fun k hk hs => hg.block k hk (fun e => hs (hr k e.symm))⟩
end
/-- a row of one-cell values, the call's own -/
def ownV (B : Nat) (e : TypeId) (w : World) (v : Value) (xs : List Value) : Prop := w.ownsRow B e 1 v xs.length xs
section
variable {P : Program} {w : World} {Q : Value → World → Prop} {K : Value → M} {K0 : M} {B : Nat} {e : TypeId} {v : Value} {xs : List Value}
theorem ownV_nil : ownV B e w (.slice none 0 0) [] := World.ownsRow_nil w B e 1
/-- the row's block, if it has one -/
theorem ownV_cases (h : ownV B e w v xs) : (v = .slice none 0 0 ∧ xs = []) ∨ ∃ g cap cur, v = .slice (some ⟨g, 0, none⟩) xs.length cap ∧ B ≤ g ∧ w.heap[g]? = some (.cells cur e (0, 0)) ∧ xs.length ≤ cap ∧ cap ≤ maxLen ∧ cur.size = cap ∧ cur.toList.take xs.length = xs := by
  obtain ⟨h1, h2⟩ := h
  rcases h2 with ⟨rfl, h0⟩ | ⟨g, cap, cur, rfl, hg, hb, hn, hm, hs, ht⟩
  · exact .inl ⟨rfl, List.length_eq_zero_iff.1 h0⟩
  · exact .inr ⟨g, cap, cur, rfl, hg, hb, hn, hm, by simpa using hs, by simpa using ht⟩
theorem ownV_mk {g cap : Nat} {cur : Array Value} (hg : B ≤ g) (hb : w.heap[g]? = some (.cells cur e (0, 0))) (hn : xs.length ≤ cap) (hm : cap ≤ maxLen) (hs : cur.size = cap) (ht : cur.toList.take xs.length = xs) : ownV B e w (.slice (some ⟨g, 0, none⟩) xs.length cap) xs :=
  ⟨by simp, .inr ⟨g, cap, cur, rfl, hg, hb, hn, hm, by simpa using hs, by simpa using ht⟩⟩
theorem ownV_len (h : ownV B e w v xs) : ∃ p c, v = .slice p xs.length c := by
  rcases ownV_cases h with ⟨rfl, rfl⟩ | ⟨g, cap, cur, rfl, _⟩
  · exact ⟨none, 0, rfl⟩
  · exact ⟨_, _, rfl⟩
theorem ownV_blk (h : ownV B e w v xs) (hne : xs ≠ []) : ∃ g cap, v = .slice (some ⟨g, 0, none⟩) xs.length cap ∧ v.ownBlock = some g ∧ B ≤ g ∧ (∃ cur, w.heap[g]? = some (.cells cur e (0, 0))) ∧ ∀ (i : Nat) (hi : i < xs.length), w.cell? ⟨g, i, none⟩ = some xs[i] := by
  rcases ownV_cases h with ⟨rfl, rfl⟩ | ⟨g, cap, cur, rfl, hg, hb, hn, hm, hs, ht⟩
  · exact absurd rfl hne
  · refine ⟨g, cap, rfl, rfl, hg, ⟨cur, hb⟩, fun i hi => ?_⟩
    rw [cell_of_blk hb]
    have : (cur.toList.take xs.length)[i]? = xs[i]? := by rw [ht]
    rw [List.getElem?_take_of_lt hi] at this
    rw [← Array.getElem?_toList, this, List.getElem?_eq_getElem hi]
theorem lnl_V {w1 : World} (h : ownV B e w v xs) (kk : K (.int .i64 xs.length) w1 Q) : lnl v K w1 Q := by
  obtain ⟨p, c, rfl⟩ := ownV_len h
  rw [lnl_e]; exact kk
theorem ia_at {g l c i : Nat} {k : IntKind} (hi : i < l) : ia 1 (.slice (some ⟨g, 0, none⟩) l c) (.int k (i : Int)) K w Q = K (.pointer (some ⟨g, i, none⟩)) w Q := by
  rw [ia_e, Int.toNat_natCast, Nat.mul_one, add_lit, Nat.zero_add]
  apply propext
  constructor
  · rintro ⟨_, _, h⟩; exact h
  · intro h; exact ⟨by omega, by omega, h⟩
theorem ownV_stay {w' : World} (h : ownV B e w v xs) (hb : ∀ g, v.ownBlock = some g → w'.heap[g]? = w.heap[g]?) : ownV B e w' v xs := by
  rcases ownV_cases h with ⟨rfl, rfl⟩ | ⟨g, cap, cur, rfl, hg, hb', hn, hm, hs, ht⟩
  · exact ownV_nil
  · exact ownV_mk hg (by rw [hb g rfl]; exact hb') hn hm hs ht
theorem ownV_lt (h : ownV B e w v xs) : ∀ g, v.ownBlock = some g → B ≤ g ∧ g < w.heap.size ∧ ∃ cur, w.heap[g]? = some (.cells cur e (0, 0)) := by
  intro g hg
  rcases ownV_cases h with ⟨rfl, rfl⟩ | ⟨g', cap, cur, rfl, hg', hb', _⟩
  · cases hg
  · cases hg; exact ⟨hg', blk_lt hb', _, hb'⟩
theorem ownV_below {w' : World} (h : ownV B e w v xs) (hb : Below w.heap.size w w') : ownV B e w' v xs := ownV_stay h (fun g hg => hb.block g (ownV_lt h g hg).2.1)
/-- a place stored: the row behind it -/
theorem ownV_set {w' : World} {i : Nat} {x : Value} {g : Nat} (h : ownV B e w v xs) (hi : i < xs.length) (hg : v.ownBlock = some g) (hw : ∀ cur, w.heap[g]? = some (.cells cur e (0, 0)) → w'.heap[g]? = some (.cells (cur.setIfInBounds i x) e (0, 0))) : ownV B e w' v (xs.set i x) := by
  rcases ownV_cases h with ⟨rfl, rfl⟩ | ⟨g', cap, cur, rfl, hg', hb', hn, hm, hs, ht⟩
  · simp at hi
  · cases hg
    have h1 := hw cur hb'
    have := ownV_mk (xs := xs.set i x) (cap := cap) hg' h1 (by simpa using hn) hm (by simp [hs]) (by
      rw [Array.toList_setIfInBounds, List.length_set, List.take_set, ht])
    simpa using this
theorem ia_stV {j : IntKind} {i : Nat} {x : Value} (h : ownV B e w v xs) (hi : i < xs.length) (hx : x.oneCell' = true)
    (kk : ∀ w' g, v.ownBlock = some g → ownV B e w' v (xs.set i x) → Upd g w w' → K0 w' Q) : ia 1 v (.int j (i : Int)) (fun p => st p x K0) w Q := by
  have h0 := h
  rcases ownV_cases h with ⟨rfl, rfl⟩ | ⟨g, cap, cur, rfl, hg, hb, hn, hm, hs, ht⟩
  · simp at hi
  · rw [ia_at hi]
    refine st_box hb (by omega) hx fun w' hw hu => ?_
    exact kk w' g rfl (ownV_set h0 hi rfl (fun cur' h' => by rw [hb] at h'; cases h'; exact hw)) hu
/-- one more, behind a row of the call's own -/
theorem ap_V {t : TypeId} {z x : Value} {b : Nat} (ht : slT P t e z 1 b) (hz : z.cells.size = 1) (hx : x.oneCell' = true) (hxc : x.cells = #[x]) (h : ownV B e w v xs) (h63 : xs.length + 1 ≤ maxLen) (hbytes : (xs.length + 1) * b ≤ 140737488355328) (hB : B ≤ w.heap.size)
    (kk : ∀ v' w', ownV B e w' v' (xs ++ [x]) → (∀ k, k < w.heap.size → v.ownBlock ≠ some k → w'.heap[k]? = w.heap[k]?) → w.heap.size ≤ w'.heap.size → (w'.os = w.os ∧ w'.tape = w.tape ∧ w'.output = w.output) → (∀ g, v'.ownBlock = some g → v.ownBlock = some g ∨ w.heap.size ≤ g) → K v' w' Q) :
    sm P (Instr.buildSlice t 1 #[(0, x)]) (fun u => sm P (Builtin.append_ #[t, t] t #[v, u]) K) w Q := by
  refine bsl1 ht hz hxc ?_
  have h1 : (psh w (.cells #[x] e)).ownsRow B e 1 v xs.length xs := World.ownsRow.alloc h _
  obtain ⟨i, g1, g2, g3, g4, g5⟩ := slT_info ht
  obtain ⟨v', w', hr, ho, hg, _, hf⟩ := run_append_own_at (P := P) (psh w (.cells #[x] e)) B t t e i z 1 b g1 g2 g3 g4 g5 hz (by decide) v xs.length xs h1 ⟨w.heap.size, 0, none⟩ 1 1 [x] rfl (by
    intro j u hj
    cases j with
    | zero => simp at hj; subst hj; rw [add_lit, cell_psh_new]; rfl
    | succ j => simp at hj) (by intro u hu; simp at hu; subst hu; exact hx) h63 hbytes (by rw [size_psh]; omega)
  refine ⟨v', w', hr, kk v' w' ?_ (fun k hk hne => ?_) ?_ ?_ ?_⟩
  · unfold ownV; rw [List.length_append]; exact ho
  · rw [hg.block k (by rw [size_psh]; omega) (fun e => hne e.symm), blk_psh_old hk]
  · have := hg.size; rw [size_psh] at this; omega
  · exact ⟨hg.os, hg.tape, hg.output⟩
  · intro g hgv
    rcases hf with hf | hf
    · left; rw [← hf]; exact hgv
    · right
      rw [hf, size_psh] at hgv
      cases hgv; omega
/-- one number more, behind a row of the call's own -/
theorem ap_one {t : TypeId} {k : IntKind} {l : List Int} {x : Int} {b : Nat} (ht : slT P t e (.int k 0) 1 b) (ho : ownI B e k w v l) (h63 : l.length + 1 ≤ 140737488355328) (hbytes : (l.length + 1) * b ≤ 140737488355328) (hB : B ≤ w.heap.size)
    (kk : ∀ v' w', ownI B e k w' v' (l ++ [x]) → Below B w w' → (∀ (B' : Nat) (e' : TypeId) (k' : IntKind) (u : Value) (l' : List Int), e' ≠ e → ownI B' e' k' w u l' → ownI B' e' k' w' u l') → (∀ q o, w.heap[q]? = some o → v.ownBlock ≠ some q → w'.heap[q]? = some o) → K v' w' Q) :
    sm P (Instr.buildSlice t 1 #[(0, .int k x)]) (fun u => sm P (Builtin.append_ #[t, t] t #[v, u]) K) w Q := by
  refine bsl1 ht rfl rfl ?_
  have ho1 := ownI_psh ho (.cells #[.int k x] e)
  have hb1 := b_psh w (.cells #[.int k x] e)
  refine ap_rd (b := b) (m := [x]) ht ho1 (.inr ⟨⟨w.heap.size, 0, none⟩, 1, rfl, fun i hi => ?_⟩) (by simpa using hbytes) (by simpa using h63) (by rw [size_psh]; omega) ?_
  · have : i = 0 := by simpa using hi
    subst this
    rw [add_lit, cell_psh_new]; rfl
  · intro v' w' ho' hg
    have hq : ∀ q o, w.heap[q]? = some o → v.ownBlock ≠ some q → w'.heap[q]? = some o := by
      intro q o hqo hne
      rw [hg.block q (by rw [size_psh]; have := blk_lt hqo; omega) (fun e => hne e.symm), blk_psh_old (blk_lt hqo)]
      exact hqo
    refine kk v' w' ho' (Below_grown (bt' (Below.refl _ _) hB hb1) ho1 (by rw [size_psh]; omega) hg) ?_ hq
    intro B' e' k' u l' hne hu
    obtain ⟨h1, h2⟩ := hu
    refine ⟨h1, ?_⟩
    rcases h2 with h2 | ⟨g, cap, cur, rfl, hg', hb', rest⟩
    · exact .inl h2
    · refine .inr ⟨g, cap, cur, rfl, hg', hq g _ hb' ?_, rest⟩
      intro ev
      obtain ⟨_, h3⟩ := ho
      rcases h3 with ⟨rfl, _⟩ | ⟨g2, cap2, cur2, rfl, _, hb2, _⟩
      · cases ev
      · cases ev
        rw [hb'] at hb2
        cases hb2
        exact hne rfl
end
end Sh
end Go.Proofs.YtongpnolikkknaaDoor

namespace Go.Proofs.YtongpnolikkknaaDoor
namespace Sh
open RowKit
/-- an element's cells told by a function of it -/
def eR {α : Type} (enc : α → List Value) : RepT α := fun _ cs x => cs = enc x
theorem eR_st {α : Type} {enc : α → List Value} : Stable (eR enc) := fun _ _ _ _ _ h => h
theorem flat_len {α : Type} {enc : α → List Value} {n : Nat} (hn : ∀ x, (enc x).length = n) : ∀ l : List α, (l.flatMap enc).length = l.length * n
  | [] => by simp
  | x :: l => by rw [List.flatMap_cons, List.length_append, hn, flat_len hn l, List.length_cons, Nat.add_mul]; omega
theorem flat_get {α : Type} {enc : α → List Value} {n : Nat} (hn : ∀ x, (enc x).length = n) : ∀ (l : List α) (i j : Nat) (hi : i < l.length), j < n → (l.flatMap enc)[i * n + j]? = (enc l[i])[j]?
  | x :: l, 0, j, hi, hj => by
    rw [List.flatMap_cons, Nat.zero_mul, Nat.zero_add, List.getElem?_append_left (by rw [hn]; exact hj)]; rfl
  | x :: l, i + 1, j, hi, hj => by
    rw [List.flatMap_cons, List.getElem?_append_right (by rw [hn, Nat.add_mul]; omega), hn]
    have e : (i + 1) * n + j - n = i * n + j := by rw [Nat.add_mul]; omega
    rw [e, flat_get hn l i j (by simpa using hi) hj]
    rfl
/-- the elements, the call's own -/
def ownE {α : Type} (B : Nat) (e : TypeId) (n : Nat) (enc : α → List Value) (w : World) (v : Value) (l : List α) : Prop := w.ownsRow B e n v l.length (l.flatMap enc)
section
variable {α : Type} {enc : α → List Value} {n : Nat} {P : Program} {w : World} {Q : Value → World → Prop} {K : Value → M} {B : Nat} {e : TypeId} {v : Value} {l : List α}
theorem ownE_nil : ownE B e n enc w (.slice none 0 0) [] := World.ownsRow_nil w B e n
theorem ownE_below {w' : World} (h : ownE B e n enc w v l) (hb : Below w.heap.size w w') : ownE B e n enc w' v l := by
  obtain ⟨h1, h2⟩ := h
  refine ⟨h1, ?_⟩
  rcases h2 with h2 | ⟨g, cap, cur, h3, hg, hb', rest⟩
  · exact .inl h2
  · exact .inr ⟨g, cap, cur, h3, hg, stay hb hb', rest⟩
theorem ownE_weak {B' : Nat} (h : ownE B e n enc w v l) (hB : B' ≤ B) : ownE B' e n enc w v l := by
  obtain ⟨h1, h2⟩ := h
  refine ⟨h1, ?_⟩
  rcases h2 with h2 | ⟨g, cap, cur, h3, hg, rest⟩
  · exact .inl h2
  · exact .inr ⟨g, cap, cur, h3, Nat.le_trans hB hg, rest⟩
theorem ownE_blk (h : ownE B e n enc w v l) : ∀ g, v.ownBlock = some g → B ≤ g ∧ g < w.heap.size ∧ ∃ cur, w.heap[g]? = some (.cells cur e (0, 0)) := by
  intro g hg
  obtain ⟨h1, h2⟩ := h
  rcases h2 with ⟨rfl, _⟩ | ⟨g', cap, cur, rfl, hg', hb', _⟩
  · cases hg
  · cases hg; exact ⟨hg', blk_lt hb', _, hb'⟩
theorem ownE_stay {w' : World} (h : ownE B e n enc w v l) (hb : ∀ g, v.ownBlock = some g → w'.heap[g]? = w.heap[g]?) : ownE B e n enc w' v l := by
  obtain ⟨h1, h2⟩ := h
  refine ⟨h1, ?_⟩
  rcases h2 with h2 | ⟨g, cap, cur, rfl, hg, hb', rest⟩
  · exact .inl h2
  · exact .inr ⟨g, cap, cur, rfl, hg, by rw [hb g rfl]; exact hb', rest⟩
theorem ownE_rd (hn : ∀ x, (enc x).length = n) (hn0 : 0 < n) (h : ownE B e n enc w v l) : rdS n (eR enc) w v l := by
  obtain ⟨h1, h2⟩ := h
  rcases h2 with ⟨rfl, h0⟩ | ⟨g, cap, cur, rfl, hg, hb, hnc, hm, hs, ht⟩
  · exact .inl ⟨rfl, List.length_eq_zero_iff.1 h0⟩
  · refine .inr ⟨⟨g, 0, none⟩, cap, rfl, hnc, fun i hi => ⟨enc l[i], hn _, fun j u hj => ?_, rfl⟩⟩
    have hjn : j < n := by
      rcases Nat.lt_or_ge j n with c | c
      · exact c
      · rw [List.getElem?_eq_none (by rw [hn]; exact c)] at hj; cases hj
    rw [add_lit, add_lit, Nat.zero_add, cell_of_blk hb]
    have h3 : (cur.toList.take (l.length * n))[i * n + j]? = (l.flatMap enc)[i * n + j]? := by rw [ht]
    have hlt : i * n + j < l.length * n := by
      have : (i + 1) * n ≤ l.length * n := Nat.mul_le_mul_right _ hi
      rw [Nat.add_mul] at this; omega
    rw [List.getElem?_take_of_lt hlt, flat_get hn l i j hi hjn, hj] at h3
    simpa using h3
/-- a row of several-cell elements, as cells in a line -/
theorem rdS_flat (hn : ∀ x, (enc x).length = n) (h : rdS n (eR enc) w v l) : (v = .slice none 0 0 ∧ l = []) ∨ ∃ a c, v = .slice (some a) l.length c ∧ ∀ j u, (l.flatMap enc)[j]? = some u → w.cell? (a.add j) = some u := by
  rcases h with h | ⟨a, c, rfl, hcc, h⟩
  · exact .inl h
  · refine .inr ⟨a, c, rfl, fun j u hj => ?_⟩
    have hjl : j < (l.flatMap enc).length := by
      rcases Nat.lt_or_ge j (l.flatMap enc).length with c | c
      · exact c
      · rw [List.getElem?_eq_none c] at hj; cases hj
    rw [flat_len hn] at hjl
    have hn0 : 0 < n := by
      rcases Nat.eq_zero_or_pos n with c | c
      · rw [c, Nat.mul_zero] at hjl; omega
      · exact c
    have hi : j / n < l.length := Nat.div_lt_of_lt_mul (by rw [Nat.mul_comm]; exact hjl)
    have hr : j % n < n := Nat.mod_lt _ hn0
    have e : j = j / n * n + j % n := by rw [Nat.mul_comm]; exact (Nat.div_add_mod j n).symm
    obtain ⟨es, h1, h2, h3⟩ := h (j / n) hi
    have h3 : es = enc l[j / n] := h3
    rw [e, flat_get hn l _ _ hi hr, ← h3] at hj
    have h4 := h2 _ _ hj
    have e2 : (a.add (j / n * n)).add (j % n) = a.add j := by
      conv => rhs; rw [e]
      unfold Addr.add
      by_cases z1 : j / n * n = 0
      · simp [z1]
      · by_cases z2 : j % n = 0
        · simp [z1, z2]
        · have : ¬ (j / n * n + j % n = 0) := by omega
          simp [z1, z2, this, Nat.add_assoc]
    rw [← e2]; exact h4
/-- elements behind a row of the call's own -/
theorem ap_E {t ty : TypeId} {z u : Value} {b : Nat} {m : List α} (ht : slT P t e z n b) (hz : z.cells.size = n) (hn0 : 0 < n) (hn : ∀ x, (enc x).length = n) (h1 : ∀ x, ∀ c ∈ enc x, c.oneCell' = true) (ho : ownE B e n enc w v l) (hr : rdS n (eR enc) w u m)
    (h63 : l.length + m.length ≤ maxLen) (hbytes : (l.length + m.length) * b ≤ 140737488355328) (hB : B ≤ w.heap.size)
    (kk : ∀ v' w', ownE B e n enc w' v' (l ++ m) → w.grownBy w' v.ownBlock → (v'.ownBlock = v.ownBlock ∨ v'.ownBlock = some w.heap.size) → K v' w' Q) : sm P (Builtin.append_ #[t, t] ty #[v, u]) K w Q := by
  obtain ⟨i, g1, g2, g3, g4, g5⟩ := slT_info ht
  rcases rdS_flat hn hr with ⟨rfl, rfl⟩ | ⟨a, c, rfl, hrf⟩
  · refine ⟨v, w, run_append_owned_none w B t ty e i n g1 g2 v l.length (l.flatMap enc) ho, kk v w (by rw [List.append_nil]; exact ho) (World.grownBy.refl w _) (.inl rfl)⟩
  · obtain ⟨v', w', hrun, ho', hg, _, hf⟩ := run_append_own_at (P := P) w B t ty e i z n b g1 g2 g3 g4 g5 hz hn0 v l.length (l.flatMap enc) ho a m.length c (m.flatMap enc) (flat_len hn m) hrf (by
        intro x hx
        obtain ⟨y, _, hy⟩ := List.mem_flatMap.1 hx
        exact h1 y x hy) h63 hbytes hB
    refine ⟨v', w', hrun, kk v' w' ?_ hg hf⟩
    unfold ownE
    rw [List.length_append, List.flatMap_append]
    exact ho'
/-- the rest of a slice -/
theorem sll_drop {R : RepT α} {k : Nat} {j : IntKind} (h : rdS n R w v l) (hk : k ≤ l.length) (kk : ∀ v', rdS n R w v' (l.drop k) → (∀ a c, v' = .slice (some a) (l.drop k).length c → ∃ a' c', v = .slice (some a') l.length c' ∧ a.block = a'.block) → (v = .slice none 0 0 → v' = .slice none 0 0) → K v' w Q) : sll n v (some (.int j (k : Int))) none K w Q := by
  rcases h with ⟨rfl, rfl⟩ | ⟨a, c, rfl, hcc, h⟩
  · have : k = 0 := by simpa using hk
    subst this
    refine ⟨none, 0, 0, 0, 0, rfl, rfl, ⟨_, _, rfl, by omega, by omega, by omega⟩, ?_⟩
    exact kk _ (.inl ⟨by simp, by simp⟩) (fun a c e => by cases e) (fun _ => by simp)
  · refine ⟨some a, l.length, c, k, l.length, rfl, rfl, ⟨_, _, rfl, by omega, by omega, by omega⟩, ?_⟩
    by_cases hck : c = k
    · subst hck
      have hl : l.length = c := by omega
      rw [if_pos rfl]
      refine kk _ (.inr ⟨a, c - c, by rw [List.length_drop], by rw [List.length_drop]; omega, fun i hi => by rw [List.length_drop] at hi; omega⟩) (fun a' c' e => ⟨a, _, rfl, by simp only [Value.slice.injEq, Option.some.injEq] at e; rw [e.1]⟩) (fun e => by cases e)
    · rw [if_neg hck]
      refine kk _ (.inr ⟨a.add (k * n), c - k, by rw [List.length_drop]; rfl, by rw [List.length_drop]; omega, fun i hi => ?_⟩) (fun a' c' e => ⟨a, _, rfl, by simp only [Value.slice.injEq, Option.map_some, Option.some.injEq] at e; rw [← e.1, add_block]⟩) (fun e => by cases e)
      rw [List.length_drop] at hi
      obtain ⟨es, g1, g2, g3⟩ := h (k + i) (by omega)
      refine ⟨es, g1, ?_, by simpa using g3⟩
      have e2 : (a.add (k * n)).add (i * n) = a.add ((k + i) * n) := by
        rw [Nat.add_mul]
        unfold Addr.add
        by_cases z1 : k * n = 0
        · simp [z1]
        · by_cases z2 : i * n = 0
          · simp [z1, z2]
          · have : ¬ (k * n + i * n = 0) := by omega
            simp [z1, z2, this, Nat.add_assoc]
      rw [e2]; exact g2
theorem fold_set : ∀ (cs : List Value) (k : Nat) (base : Array Value), k + cs.length ≤ base.size → ((cs.zipIdx k).foldl (fun a p => a.setIfInBounds (0 + p.2) p.1) base).toList = base.toList.take k ++ cs ++ base.toList.drop (k + cs.length) := by
  intro cs
  induction cs with
  | nil => intro k base h; simp
  | cons c cs ih =>
    intro k base h
    simp only [List.length_cons] at h
    rw [List.zipIdx_cons, List.foldl_cons, ih (k + 1) _ (by simp; omega)]
    simp only [Nat.zero_add, Array.toList_setIfInBounds, List.length_cons]
    have hlt : k < base.toList.length := by simp; omega
    have q1 : (base.toList.set k c).take (k + 1) = base.toList.take k ++ [c] := by
      rw [List.take_succ_eq_append_getElem (by simpa using hlt)]
      simp [List.take_set]
      rw [List.set_eq_of_length_le (by simp; omega)]
    have q2 : (base.toList.set k c).drop (k + 1 + cs.length) = base.toList.drop (k + (cs.length + 1)) := by
      rw [List.drop_set_of_lt (by omega)]; congr 1; omega
    rw [q1, q2]; simp
/-- []T{x}: an element of several cells -/
theorem bslE {t : TypeId} {z : Value} {b : Nat} {x : α} (ht : slT P t e z n b) (hz : z.cells.size = n) (hn0 : 0 < n) (hn24 : n ≤ 16777216) (hn : (enc x).length = n)
    (k : ∀ w', w'.heap[w.heap.size]? = some (.cells (enc x).toArray e (0, 0)) → Below w.heap.size w w' → K (.slice (some ⟨w.heap.size, 0, none⟩) 1 1) w' Q) : sm P (Instr.buildSlice t 1 #[(0, .agg (enc x).toArray)]) K w Q := by
  obtain ⟨i, h1, h2, h3, h4, h5⟩ := slT_info ht
  refine ⟨.slice (some ⟨w.heap.size, 0, none⟩) 1 1, psh w (.cells (enc x).toArray e), ?_, k _ blk_psh_new (b_psh _ _)⟩
  have hsz : (enc x).toArray.size = n := by simpa using hn
  have hne : ¬ n = 0 := by omega
  have hle : ¬ 2 ^ 24 < n := by omega
  have hfill : ∀ base : Array Value, base.size = n → Instr.fill (fun i => some (i * n, n)) base [(0, .agg (enc x).toArray)] = some (enc x).toArray := by
    intro base hb
    simp only [Instr.fill, Value.cells, Nat.zero_mul, hsz, ne_eq, not_true_eq_false, Nat.zero_add, hb, Nat.lt_irrefl, gt_iff_lt, or_self, decide_false, Bool.or_self, Bool.false_eq_true, if_false]
    congr 1
    apply Array.toList_inj.1
    have hf := fold_set (enc x) 0 base (by omega)
    rw [← Array.foldl_toList, Array.toList_zipIdx]
    simp only [Nat.zero_add] at hf ⊢
    refine hf.trans ?_
    rw [List.take_zero, List.drop_of_length_le (by simp; omega)]
    simp
  simp only [Instr.buildSlice, underlying, Sem.run_bind, run_program, Result.andThen_ok, h1, Sem.run_pure, sizeOf, typeInfo, h2, h4, Nat.one_mul, gt_iff_lt, hle, if_false, hne, zeroValue, h3]
  rw [hfill _ (by simp)]
  simp [newRow, newObj, psh, Sem.run]
theorem rd_lit {x : α} {g : Nat} (hn : (enc x).length = n) (h : w.heap[g]? = some (.cells (enc x).toArray e (0, 0))) : rdS n (eR enc) w (.slice (some ⟨g, 0, none⟩) 1 1) [x] := by
  refine .inr ⟨⟨g, 0, none⟩, 1, rfl, Nat.le_refl _, fun i hi => ?_⟩
  have : i = 0 := by simpa using hi
  subst this
  refine ⟨enc x, hn, fun j u hj => ?_, rfl⟩
  rw [Nat.zero_mul, add_zero', add_lit, Nat.zero_add, cell_of_blk h]
  simpa using hj
end
end Sh
end Go.Proofs.YtongpnolikkknaaDoor

namespace Go.Proofs.YtongpnolikkknaaDoor
open Sh RowKit
namespace Sh
/-- cells laid over a list's, from a place on -/
def ovl (l : List Value) (o : Nat) (cs : List Value) : List Value := l.take o ++ cs ++ l.drop (o + cs.length)
theorem ovl_len {l cs : List Value} {o : Nat} (h : o + cs.length ≤ l.length) : (ovl l o cs).length = l.length := by
  unfold ovl; simp; omega
theorem ovl_one {l : List Value} {o : Nat} {c : Value} (h : o < l.length) : ovl l o [c] = l.set o c := by
  unfold ovl
  rw [List.set_eq_take_append_cons_drop, if_pos h]
  simp
theorem ovl_all {l cs : List Value} (h : cs.length = l.length) : ovl l 0 cs = cs := by
  unfold ovl; simp [h]
section
variable {α : Type} {enc : α → List Value} {n : Nat}
theorem flat_ovl (hn : ∀ x, (enc x).length = n) : ∀ (l : List α) (i o : Nat) (cs : List Value) (y : α) (hi : i < l.length), o + cs.length ≤ n → enc y = ovl (enc l[i]) o cs → ovl (l.flatMap enc) (i * n + o) cs = (l.set i y).flatMap enc
  | [], i, o, cs, y, hi, _, _ => by simp at hi
  | x :: l, 0, o, cs, y, hi, ho, he => by
    simp only [List.flatMap_cons, List.set_cons_zero, Nat.zero_mul, Nat.zero_add, List.getElem_cons_zero] at *
    rw [he]
    unfold ovl
    have hx := hn x
    rw [List.take_append_of_le_length (by omega), List.drop_append_of_le_length (by omega)]
    simp
  | x :: l, i + 1, o, cs, y, hi, ho, he => by
    have ih := flat_ovl hn l i o cs y (by simpa using hi) ho (by simpa using he)
    rw [List.flatMap_cons, List.set_cons_succ, List.flatMap_cons, ← ih]
    unfold ovl
    have hx := hn x
    have e1 : (i + 1) * n + o = (enc x).length + (i * n + o) := by rw [hx, Nat.add_mul]; omega
    rw [e1, List.take_length_add_append, Nat.add_assoc (enc x).length, List.drop_length_add_append]
    simp [List.append_assoc]
variable {P : Program} {w : World} {Q : Value → World → Prop} {K : Value → M} {K0 : M} {B : Nat} {e : TypeId} {v : Value} {l : List α}
/-- a row that is not empty, opened -/
theorem ownE_open (h : ownE B e n enc w v l) (hl : 0 < l.length) : ∃ g cap cur, v = .slice (some ⟨g, 0, none⟩) l.length cap ∧ v.ownBlock = some g ∧ B ≤ g ∧ w.heap[g]? = some (.cells cur e (0, 0)) ∧ l.length ≤ cap ∧ cap ≤ maxLen ∧ cur.size = cap * n ∧ cur.toList.take (l.length * n) = l.flatMap enc := by
  obtain ⟨h1, h2⟩ := h
  rcases h2 with ⟨rfl, h0⟩ | ⟨g, cap, cur, rfl, hg, hb, hn, hm, hs, ht⟩
  · omega
  · exact ⟨g, cap, cur, rfl, rfl, hg, hb, hn, hm, hs, ht⟩
theorem ovl_take {l cs : List Value} {o m : Nat} (h : o + cs.length ≤ m) (hm : m ≤ l.length) : (ovl l o cs).take m = ovl (l.take m) o cs := by
  unfold ovl
  have e1 : (l.take o ++ cs).length = o + cs.length := by simp; omega
  rw [List.take_append, List.take_of_length_le (by omega), e1, List.take_take, List.drop_take, Nat.min_eq_left (by omega)]
theorem ownE_put {w' : World} {i o : Nat} {cs : List Value} {y : α} (hn : ∀ x, (enc x).length = n) (h : ownE B e n enc w v l) (hi : i < l.length) (ho : o + cs.length ≤ n) (he : enc y = ovl (enc l[i]) o cs)
    (hw : ∀ g cur, v.ownBlock = some g → w.heap[g]? = some (.cells cur e (0, 0)) → ∃ cur', w'.heap[g]? = some (.cells cur' e (0, 0)) ∧ cur'.toList = ovl cur.toList (i * n + o) cs) : ownE B e n enc w' v (l.set i y) := by
  obtain ⟨g, cap, cur, rfl, hob, hg, hb, hc, hm, hs, ht⟩ := ownE_open h (by omega)
  obtain ⟨cur', h1, h2⟩ := hw g cur rfl hb
  have hin : i * n + n ≤ l.length * n := by
    have := Nat.mul_le_mul_right n (show i + 1 ≤ l.length by omega)
    rw [Nat.add_mul, Nat.one_mul] at this; exact this
  have hcap : l.length * n ≤ cap * n := Nat.mul_le_mul_right n hc
  have hsl : cur.toList.length = cap * n := by simpa using hs
  refine ⟨by rw [flat_len hn], .inr ⟨g, cap, cur', by rw [List.length_set], hg, h1, by rw [List.length_set]; exact hc, hm, ?_, ?_⟩⟩
  · have := congrArg List.length h2
    rw [ovl_len (by omega)] at this
    simpa [hs] using this
  · rw [List.length_set, h2, ovl_take (by omega) (by omega), ht, flat_ovl hn l i o cs y hi ho he]
theorem ia_E {g cap L i n : Nat} {j : IntKind} (hi : i < L) : ia n (.slice (some ⟨g, 0, none⟩) L cap) (.int j (i : Int)) K w Q = K (.pointer (some ⟨g, i * n, none⟩)) w Q := by
  rw [ia_e, Int.toNat_natCast, add_lit, Nat.zero_add]
  apply propext
  constructor
  · rintro ⟨_, _, h⟩; exact h
  · intro h; exact ⟨by omega, by omega, h⟩
/-- some cells of a block stored -/
theorem stn_at {b o m : Nat} {c cs : Array Value} {t : TypeId} (h : w.heap[b]? = some (.cells c t (0, 0))) (hm : cs.size = m) (hc : o + m ≤ c.size) (h1 : ∀ v ∈ cs.toList, v.oneCell' = true)
    (k : ∀ w' c', w'.heap[b]? = some (.cells c' t (0, 0)) → c'.toList = ovl c.toList o cs.toList → Upd b w w' → K0 w' Q) : stn m (.pointer (some ⟨b, o, none⟩)) (.agg cs) K0 w Q := by
  obtain ⟨w', c', e1, e2, e3, e4⟩ := sts_blk (o := o) cs.toList 0 w c h (by simpa [hm] using hc) h1
  exact ⟨_, cs, w', rfl, rfl, hm, e1, k w' c' e2 (by rw [e3]; rfl) e4⟩
theorem ia_stnE {j : IntKind} {i : Nat} {y : α} (hn : ∀ x, (enc x).length = n) (h1 : ∀ x, ∀ c ∈ enc x, c.oneCell' = true) (h : ownE B e n enc w v l) (hi : i < l.length)
    (kk : ∀ w' g, v.ownBlock = some g → ownE B e n enc w' v (l.set i y) → Upd g w w' → K0 w' Q) : ia n v (.int j (i : Int)) (fun p => stn n p (.agg (enc y).toArray) K0) w Q := by
  obtain ⟨g, cap, cur, rfl, hob, hg, hb, hc, hm, hs, ht⟩ := ownE_open h (by omega)
  rw [ia_E hi]
  have hcs : i * n + n ≤ cur.size := by
    rw [hs]
    have := Nat.mul_le_mul_right n (show i + 1 ≤ cap by omega)
    rw [Nat.add_mul, Nat.one_mul] at this; exact this
  refine stn_at hb (by simpa using hn y) hcs (by simpa using h1 y) fun w' c' q1 q2 q3 => kk w' g rfl ?_ q3
  refine ownE_put (o := 0) (cs := enc y) hn h hi (by rw [hn]; omega) (by rw [ovl_all (by rw [hn, hn])]) (fun g' cur' e1 e2 => ?_)
  cases e1
  rw [hb] at e2; cases e2
  exact ⟨c', q1, by simpa using q2⟩
theorem ia_stE {j : IntKind} {i o : Nat} {y : α} {c : Value} (hn : ∀ x, (enc x).length = n) (h : ownE B e n enc w v l) (hi : i < l.length) (ho : o < n) (hc : c.oneCell' = true) (he : enc y = (enc l[i]).set o c)
    (kk : ∀ w' g, v.ownBlock = some g → ownE B e n enc w' v (l.set i y) → Upd g w w' → K0 w' Q) : ia n v (.int j (i : Int)) (fun p => fa o p (fun q => st q c K0)) w Q := by
  obtain ⟨g, cap, cur, rfl, hob, hg, hb, hcc, hm, hs, ht⟩ := ownE_open h (by omega)
  rw [ia_E hi]
  have hcs : i * n + n ≤ cur.size := by
    rw [hs]
    have := Nat.mul_le_mul_right n (show i + 1 ≤ cap by omega)
    rw [Nat.add_mul, Nat.one_mul] at this; exact this
  rw [fa_e]
  show st (.pointer (some (Addr.add ⟨g, i * n, none⟩ o))) c K0 w Q
  rw [add_lit]
  refine st_box hb (by omega) hc fun w' q1 q3 => kk w' g rfl ?_ q3
  refine ownE_put (o := o) (cs := [c]) hn h hi (by simp only [List.length_singleton]; omega) (by rw [ovl_one (by rw [hn]; exact ho)]; exact he) (fun g' cur' e1 e2 => ?_)
  cases e1
  rw [hb] at e2; cases e2
  exact ⟨_, q1, by rw [ovl_one (by simp; omega)]; simp⟩
/-- a new row of noughts -/
theorem made_eq {m : Nat} {c : Value} (hm : 0 < m) : ∀ k, (madeCells (Array.replicate m c) k).toList = List.replicate k c := by
  intro k
  apply List.ext_getElem
  · simp [madeCells]
  · intro i h1 h2
    have : i % m < m := Nat.mod_lt _ hm
    simp [madeCells, this]
theorem mkE {t : TypeId} {z c : Value} {j j' : IntKind} {b k : Nat} {x : α} (ht : slT P t e z n b) (hz : z.cells = Array.replicate n c) (hn0 : 0 < n) (hx : enc x = List.replicate n c) (hb : b * k ≤ 281474976710656) (hk : k ≤ 281474976710656) (hB : B ≤ w.heap.size)
    (kk : ∀ w' v', v' = .slice (some ⟨w.heap.size, 0, none⟩) k k → ownE B e n enc w' v' (List.replicate k x) → Below w.heap.size w w' → K v' w' Q) : sm P (Instr.makeSlice t (.int j (k : Int)) (.int j' (k : Int))) K w Q := by
  obtain ⟨i, g1, g2, g3, g4, g5⟩ := slT_info ht
  obtain ⟨w', hr, ho, hg⟩ := run_make_full (P := P) w B t e i z n g1 g2 g3 g4 j j' k (by rw [g5]; exact hb) (by unfold maxLen; omega) hB
  refine ⟨_, w', hr, kk w' _ rfl ?_ ((Below.refl _ _).grown hg (Nat.le_refl _) (fun k hk => by cases hk))⟩
  unfold ownE
  rw [List.length_replicate]
  have : (List.replicate k x).flatMap enc = (madeCells z.cells (k * n)).toList := by
    rw [hz, made_eq hn0, List.flatMap_replicate, hx, List.flatten_replicate_replicate]
  rw [this]
  exact ho
theorem run_copy_str {dT sT ty elem : TypeId} {g o dLen dCap : Nat} {s : ByteArray} {cur : Array Value} {t : TypeId} (hu : P.underlying dT = some (.slice elem)) (hs : (P.info? elem).map (·.size) = some 1)
    (hg : w.heap[g]? = some (.cells cur t (0, 0))) (hle : s.size ≤ dLen) (hfit : o + s.size ≤ cur.size) :
    (Builtin.copy_ #[dT, sT] ty #[.slice (some ⟨g, o, none⟩) dLen dCap, .string s]).run P w = .ok (.int .i64 s.size) (w.setRow g (ovl cur.toList o ((byL s).map (.int .u8))).toArray) := by
  have hc : (Builtin.firstCells 1 s.size (.string s)).run P w = .ok ((byL s).map (Value.int .u8)).toArray w := by
    have : s.extract 0 s.size = s := ByteArray.extract_zero_size
    simp only [Builtin.firstCells, this, Sem.run_pure, byL]
    congr 1
    apply Array.ext'
    simp [Function.comp_def]
  have hl : ((byL s).map (Value.int .u8)).length = s.size := by rw [List.length_map, byL_len]
  have hst := run_storeCells_at P g o t ((byL s).map (Value.int .u8)) 0 cur w hg (by rw [hl]; simpa using hfit) (by intro v hv; obtain ⟨a, _, rfl⟩ := List.mem_map.1 hv; rfl)
  have hmin : Nat.min s.size dLen = s.size := Nat.min_eq_left hle
  cases hq : P.info? elem with
  | none => simp [hq] at hs
  | some i =>
    have hi : i.size = 1 := by simpa [hq] using hs
    simp only [Nat.add_zero] at hst
    simp [Builtin.copy_, run_underlying hu, Builtin.lenOf, sizeOf, typeInfo, hq, hi, hmin, hc, hst, goInt, ovl, Result.andThen]
theorem Upd_setRow {g : Nat} {c cs : Array Value} {t : TypeId} {fr : Nat × Nat} (h : w.heap[g]? = some (.cells c t fr)) : Upd g w (w.setRow g cs) ∧ (w.setRow g cs).heap[g]? = some (.cells cs t fr) :=
  ⟨⟨rfl, rfl, rfl, by simp [World.setRow], fun k hk => setRow_other w g k cs hk⟩, setRow_heap w g c cs t fr h⟩
end
end Sh
end Go.Proofs.YtongpnolikkknaaDoor

namespace Go.Proofs.YtongpnolikkknaaDoor
namespace Sh
open RowKit
section
variable {P : Program} {w : World} {e t : TypeId} {k : IntKind} {n : Nat} {xa0 xb0 : List Int}
theorem eqInt (he : P.underlying e = some (.int k)) (d : Nat) (a b : Int) : (Op.equalIn (d + 1) e (.int k a) (.int k b)).run P w = .ok (a == b) w := by
  simp [Op.equalIn, underlying, he]
theorem pk_int (he : P.underlying e = some (.int k)) : P.plainKey e = true := by simp [Program.plainKey, he]
theorem eqItems_run (he : P.underlying e = some (.int k)) (d : Nat) (ha : xa0.length = n) (hb : xb0.length = n) : ∀ (is : List Nat), (∀ i ∈ is, i < n) →
    (Op.eqItems (d + 1) e 1 (xa0.map (Value.int k)).toArray (xb0.map (Value.int k)).toArray is).run P w = .ok (is.all fun i => xa0[i]? == xb0[i]?) w
  | [], _ => by simp [Op.eqItems]
  | i :: is, h => by
    have hi := h i (by simp)
    have ih := eqItems_run he d ha hb is (fun j hj => h j (by simp [hj]))
    have xa : (xa0.map (Value.int k)).toArray[i * 1]? = some (.int k xa0[i]) := by simp; try exact ⟨by omega, rfl⟩
    have xb : (xb0.map (Value.int k)).toArray[i * 1]? = some (.int k xb0[i]) := by simp; try exact ⟨by omega, rfl⟩
    have e1 : (xa0[i]? == xb0[i]?) = (xa0[i] == xb0[i]) := by rw [List.getElem?_eq_getElem (by omega), List.getElem?_eq_getElem (by omega)]; rfl
    rw [Op.eqItems]
    simp only [Sem.run_bind, run_part_plain w (pk_int he) xa, run_part_plain w (pk_int he) xb, eqInt he, Result.andThen_ok, List.all_cons, e1]
    cases hc : (xa0[i] == xb0[i])
    · simp
    · simpa using ih
theorem all_eq (ha : xa0.length = n) (hb : xb0.length = n) : ((List.range n).all fun i => xa0[i]? == xb0[i]?) = decide (xa0 = xb0) := by
  rw [Bool.eq_iff_iff, List.all_eq_true, decide_eq_true_iff]
  constructor
  · intro h
    apply List.ext_getElem?
    intro i
    rcases Nat.lt_or_ge i n with c | c
    · simpa using h i (List.mem_range.2 c)
    · rw [List.getElem?_eq_none (by omega), List.getElem?_eq_none (by omega)]
  · rintro rfl i _
    simp
theorem run_ne_arr {x y : Operand} (hu : P.underlying t = some (.array n e)) (he : P.underlying e = some (.int k)) (hc : P.cellsOf e = 1) (hi : (P.info? e).isSome = true) (hg : P.eqGuardType P.depth t = false) (ha : xa0.length = n) (hb : xb0.length = n) :
    ((do eqGuard .neq t x y (.agg (xa0.map (Value.int k)).toArray) (.agg (xb0.map (Value.int k)).toArray); binOp .neq t (.agg (xa0.map (Value.int k)).toArray) (.agg (xb0.map (Value.int k)).toArray) : Sem Value)).run P w = .ok (.bool (!decide (xa0 = xb0))) w := by
  obtain ⟨i, hi⟩ := Option.isSome_iff_exists.1 hi
  have h2 : (Op.equalIn 10000 t (.agg (xa0.map (Value.int k)).toArray) (.agg (xb0.map (Value.int k)).toArray)).run P w = .ok (decide (xa0 = xb0)) w := by
    rw [run_equalIn_array (P := P) w 9999 _ _ hu hi, hc, eqItems_run he 9998 ha hb _ (fun i hi => List.mem_range.1 hi), all_eq ha hb]
  have h3 : (Op.equal t (.agg (xa0.map (Value.int k)).toArray) (.agg (xb0.map (Value.int k)).toArray)).run P w = .ok (decide (xa0 = xb0)) w := h2
  simp [eqGuard, hg, binOp, h3]
theorem run_eq_arr {x y : Operand} (hu : P.underlying t = some (.array n e)) (he : P.underlying e = some (.int k)) (hc : P.cellsOf e = 1) (hi : (P.info? e).isSome = true) (hg : P.eqGuardType P.depth t = false) (ha : xa0.length = n) (hb : xb0.length = n) :
    ((do eqGuard .eql t x y (.agg (xa0.map (Value.int k)).toArray) (.agg (xb0.map (Value.int k)).toArray); binOp .eql t (.agg (xa0.map (Value.int k)).toArray) (.agg (xb0.map (Value.int k)).toArray) : Sem Value)).run P w = .ok (.bool (decide (xa0 = xb0))) w := by
  obtain ⟨i, hi⟩ := Option.isSome_iff_exists.1 hi
  have h2 : (Op.equalIn 10000 t (.agg (xa0.map (Value.int k)).toArray) (.agg (xb0.map (Value.int k)).toArray)).run P w = .ok (decide (xa0 = xb0)) w := by
    rw [run_equalIn_array (P := P) w 9999 _ _ hu hi, hc, eqItems_run he 9998 ha hb _ (fun i hi => List.mem_range.1 hi), all_eq ha hb]
  have h3 : (Op.equal t (.agg (xa0.map (Value.int k)).toArray) (.agg (xb0.map (Value.int k)).toArray)).run P w = .ok (decide (xa0 = xb0)) w := h2
  simp [eqGuard, hg, binOp, h3]
/-- an element's place and value, in whatever world -/
theorem rdI_at {v : Value} {l : List Int} (h : rdI k w v l) {i : Nat} (hi : i < l.length) : ∃ a : Addr, w.cell? a = some (.int k l[i]) ∧ ∀ (j : IntKind) (K : Value → M) (w' : World) (Q : Value → World → Prop), ia 1 v (.int j (i : Int)) K w' Q = K (.pointer (some a)) w' Q := by
  obtain ⟨p, c, rfl, h⟩ := h
  obtain ⟨a, rfl, hc⟩ := h i hi
  refine ⟨a.add i, hc, fun j K w' Q => ?_⟩
  rw [ia_e, Int.toNat_natCast, Nat.mul_one]
  apply propext
  constructor
  · rintro ⟨_, _, h⟩; exact h
  · intro h; exact ⟨by omega, by omega, h⟩
/-- a beginning of a row of the call's own copied over some of another's cells -/
theorem cpy {dT sT ty : TypeId} {elem : TypeId} {g o m g2 c1 c2 l2 : Nat} {cur cur2 : Array Value} {t2 : TypeId} {fr : Nat × Nat} {K : Value → M} {Q : Value → World → Prop} (hu : P.underlying dT = some (.slice elem)) (hs : (P.info? elem).map (·.size) = some 1)
    (hg : w.heap[g]? = some (.cells cur t (0, 0))) (hg2 : w.heap[g2]? = some (.cells cur2 t2 fr)) (hm : m ≤ l2) (h2 : m ≤ cur2.size) (hfit : o + m ≤ cur.size) (h1 : ∀ v ∈ cur2.toList, v.oneCell' = true)
    (kk : ∀ w', w'.heap[g]? = some (.cells (ovl cur.toList o (cur2.toList.take m)).toArray t (0, 0)) → Upd g w w' → K (.int .i64 m) w' Q) :
    sm P (Builtin.copy_ #[dT, sT] ty #[.slice (some ⟨g, o, none⟩) m c1, .slice (some ⟨g2, 0, none⟩) l2 c2]) K w Q := by
  have hl : (cur2.toList.take m).length = m := by rw [List.length_take, Array.length_toList]; omega
  have hr := run_copy_row (P := P) w dT sT ty elem g o m c1 ⟨g2, 0, none⟩ l2 c2 cur t (cur2.toList.take m) hu hs hg (by rw [hl]; exact (Nat.min_eq_right hm).symm) (fun j v hj => by
      rw [add_lit, Nat.zero_add, cell_of_blk hg2]
      have : j < m := by rcases Nat.lt_or_ge j m with c | c; exact c; rw [List.getElem?_eq_none (by omega)] at hj; cases hj
      rw [List.getElem?_take_of_lt this] at hj
      simpa using hj) (by rw [hl]; exact hfit) (fun v hv => h1 v (List.mem_of_mem_take hv))
  rw [hl] at hr
  obtain ⟨u1, u2⟩ := Upd_setRow (cs := (ovl cur.toList o (cur2.toList.take m)).toArray) hg
  refine ⟨_, _, hr, ?_⟩
  have e : (w.setRow g (cur.toList.take o ++ cur2.toList.take m ++ cur.toList.drop (o + m)).toArray) = w.setRow g (ovl cur.toList o (cur2.toList.take m)).toArray := by unfold ovl; rw [hl]
  rw [e]
  exact kk _ u2 u1
end
end Sh
end Go.Proofs.YtongpnolikkknaaDoor

namespace Go.Proofs.YtongpnolikkknaaDoor
namespace Srt
/-- an order that is total; ties stay -/
structure Ord {β : Type} (le : β → β → Bool) : Prop where
  total : ∀ a b, le a b = true ∨ le b a = true
  trans : ∀ a b c, le a b = true → le b c = true → le a c = true
section
variable {β : Type} {le : β → β → Bool}
/-- one is ahead of the other -/
def slt (le : β → β → Bool) (x y : β × Nat) : Prop := le x.1 y.1 = true ∧ (le y.1 x.1 = false ∨ x.2 < y.2)
theorem slt_trans (O : Ord le) {x y z : β × Nat} (h : slt le x y) (k : slt le y z) : slt le x z := by
  refine ⟨O.trans _ _ _ h.1 k.1, ?_⟩
  cases e : le z.1 x.1 with
  | false => exact .inl rfl
  | true =>
    right
    have h1 := h.2.resolve_left (by rw [O.trans _ _ _ k.1 e]; simp)
    have k1 := k.2.resolve_left (by rw [O.trans _ _ _ e h.1]; simp)
    omega
theorem slt_irr {x : β × Nat} (h : slt le x x) : False := by
  rcases h with ⟨h1, h2 | h2⟩
  · rw [h1] at h2; cases h2
  · omega
theorem slt_asym (O : Ord le) {x y : β × Nat} (h : slt le x y) (k : slt le y x) : False := slt_irr (slt_trans O h k)
theorem slt_le {x y : β × Nat} (h : le x.1 y.1 = true) (k : x.2 < y.2) : slt le x y := ⟨h, .inr k⟩
theorem slt_nle (O : Ord le) {x y : β × Nat} (h : le x.1 y.1 = false) : slt le y x := ⟨(O.total x.1 y.1).resolve_left (by rw [h]; simp), .inl h⟩
/-- sorted -/
abbrev Sd (le : β → β → Bool) (l : List (β × Nat)) : Prop := l.Pairwise (slt le)
/-- two of one thing are one -/
theorem sd_unique (O : Ord le) : ∀ {l m : List (β × Nat)}, Sd le l → Sd le m → l.Perm m → l = m := by
  intro l
  induction l with
  | nil => intro m _ _ hp; exact (List.nil_perm.1 hp).symm
  | cons x l ih =>
    intro m h1 h2 hp
    cases m with
    | nil => exact absurd hp.length_eq (by simp)
    | cons y m =>
      rw [Sd, List.pairwise_cons] at h1 h2
      have e : x = y := by
        rcases List.mem_cons.1 (hp.mem_iff.1 (List.mem_cons_self : x ∈ x :: l)) with e | hx
        · exact e
        rcases List.mem_cons.1 (hp.mem_iff.2 (List.mem_cons_self : y ∈ y :: m)) with e | hy
        · exact e.symm
        exact (slt_asym O (h2.1 x hx) (h1.1 y hy)).elim
      subst e
      rw [ih h1.2 h2.2 ((List.perm_cons x).1 hp)]
/-- all of one ahead of all of the other -/
abbrev Bf (le : β → β → Bool) (l m : List (β × Nat)) : Prop := ∀ x ∈ l, ∀ y ∈ m, slt le x y
/-- places of one below those of the other -/
abbrev Pl (l m : List (β × Nat)) : Prop := ∀ x ∈ l, ∀ y ∈ m, x.2 < y.2
theorem sd_app {l m : List (β × Nat)} : Sd le (l ++ m) ↔ Sd le l ∧ Sd le m ∧ Bf le l m := List.pairwise_append
/-- both runs' firsts ahead of both runs' lasts -/
theorem bf_last (O : Ord le) {A B : List (β × Nat)} (hA : Sd le A) (hB : Sd le B) (h : ∀ x y, A.getLast? = some x → B.head? = some y → slt le x y) : Bf le A B := by
  intro x hx y hy
  have hA0 : A ≠ [] := List.ne_nil_of_mem hx
  have hB0 : B ≠ [] := List.ne_nil_of_mem hy
  have h1 := h (A.getLast hA0) (B.head hB0) (List.getLast?_eq_some_getLast hA0) (List.head?_eq_some_head hB0)
  have h2 : x = A.getLast hA0 ∨ slt le x (A.getLast hA0) := by
    have e := List.dropLast_concat_getLast hA0
    rw [← e] at hA hx
    rcases List.mem_append.1 hx with hx | hx
    · exact .inr ((sd_app.1 hA).2.2 x hx _ (by simp))
    · left; simpa using hx
  have h3 : y = B.head hB0 ∨ slt le (B.head hB0) y := by
    cases B with
    | nil => exact absurd rfl hB0
    | cons b B =>
      rcases List.mem_cons.1 hy with e | hy
      · exact .inl e
      · exact .inr ((List.pairwise_cons.1 hB).1 y hy)
  have h4 : slt le x (B.head hB0) := by
    rcases h2 with rfl | h2
    · exact h1
    · exact slt_trans O h2 h1
  rcases h3 with rfl | h3
  · exact h4
  · exact slt_trans O h4 h3
/-- a merge of halves -/
theorem merge_halves (O : Ord le) {A1 A2 B1 B2 S1 S2 : List (β × Nat)} (hA : Sd le (A1 ++ A2)) (hB : Sd le (B1 ++ B2))
    (h1 : Bf le A1 B2) (h2 : Bf le B1 A2) (p1 : S1.Perm (A1 ++ B1)) (p2 : S2.Perm (A2 ++ B2)) (s1 : Sd le S1) (s2 : Sd le S2) :
    Sd le (S1 ++ S2) ∧ (S1 ++ S2).Perm ((A1 ++ A2) ++ (B1 ++ B2)) := by
  constructor
  · refine sd_app.2 ⟨s1, s2, fun x hx y hy => ?_⟩
    have hx := p1.mem_iff.1 hx
    have hy := p2.mem_iff.1 hy
    rcases List.mem_append.1 hx with hx | hx <;> rcases List.mem_append.1 hy with hy | hy
    · exact (sd_app.1 hA).2.2 x hx y hy
    · exact h1 x hx y hy
    · exact h2 x hx y hy
    · exact (sd_app.1 hB).2.2 x hx y hy
  · refine (p1.append p2).trans ?_
    rw [List.append_assoc, List.append_assoc]
    refine List.Perm.append_left A1 ?_
    rw [← List.append_assoc, ← List.append_assoc]
    exact List.Perm.append_right B2 List.perm_append_comm
/-- one element among a sorted run, at its place -/
theorem sd_ins {A B : List (β × Nat)} {x : β × Nat} (h : Sd le (A ++ B)) (h1 : ∀ y ∈ A, slt le y x) (h2 : ∀ y ∈ B, slt le x y) : Sd le (A ++ x :: B) := by
  obtain ⟨a, b, c⟩ := sd_app.1 h
  refine sd_app.2 ⟨a, List.pairwise_cons.2 ⟨h2, b⟩, fun u hu v hv => ?_⟩
  rcases List.mem_cons.1 hv with rfl | hv
  · exact h1 u hu
  · exact c u hu v hv
/-- numbered from a place on -/
def num (k : Nat) (l : List β) : List (β × Nat) := l.zipIdx k
theorem num_fst (k : Nat) (l : List β) : (num k l).map (·.1) = l := by unfold num; exact List.zipIdx_map_fst k l
theorem num_app (k : Nat) (l m : List β) : num k (l ++ m) = num k l ++ num (k + l.length) m := by unfold num; exact List.zipIdx_append
theorem num_len (k : Nat) (l : List β) : (num k l).length = l.length := by unfold num; exact List.length_zipIdx
theorem num_mem {k : Nat} {l : List β} {x : β × Nat} (h : x ∈ num k l) : k ≤ x.2 ∧ x.2 < k + l.length := by
  unfold num at h
  obtain ⟨y, i⟩ := x
  have h1 := (List.mk_mem_zipIdx_iff_le_and_getElem?_sub (k := k)).1 h
  refine ⟨h1.1, ?_⟩
  rcases Nat.lt_or_ge (i - k) l.length with c | c
  · simp only; omega
  · rw [List.getElem?_eq_none c] at h1; cases h1.2
theorem num_pl (k : Nat) (l m : List β) : Pl (num k l) (num (k + l.length) m) := fun x hx y hy => by
  have := num_mem hx
  have := num_mem hy
  omega
/-- what sorting comes to: insertion from behind -/
def ins (le : β → β → Bool) : List (β × Nat) → β × Nat → List (β × Nat)
  | [], x => [x]
  | y :: l, x => if le y.1 x.1 then y :: ins le l x else x :: y :: l
theorem ins_perm (x : β × Nat) : ∀ l : List (β × Nat), (ins le l x).Perm (x :: l)
  | [] => List.Perm.refl _
  | y :: l => by
    unfold ins
    split
    · exact ((ins_perm x l).cons y).trans (List.Perm.swap x y l)
    · exact List.Perm.refl _
theorem ins_sd (O : Ord le) {x : β × Nat} : ∀ {l : List (β × Nat)}, Sd le l → (∀ y ∈ l, y.2 < x.2) → Sd le (ins le l x)
  | [], _, _ => by simp [ins]
  | y :: l, h, hp => by
    rw [Sd, List.pairwise_cons] at h
    unfold ins
    cases e : le y.1 x.1 with
    | true =>
      rw [if_pos rfl, Sd, List.pairwise_cons]
      refine ⟨fun z hz => ?_, ins_sd O h.2 fun z hz => hp z (List.mem_cons_of_mem _ hz)⟩
      rcases List.mem_cons.1 ((ins_perm x l).mem_iff.1 hz) with rfl | hz
      · exact slt_le e (hp y List.mem_cons_self)
      · exact h.1 z hz
    | false =>
      rw [if_neg (by simp), Sd, List.pairwise_cons]
      have hxy := slt_nle O e
      refine ⟨fun z hz => ?_, List.pairwise_cons.2 h⟩
      rcases List.mem_cons.1 hz with rfl | hz
      · exact hxy
      · exact slt_trans O hxy (h.1 z hz)
/-- sorted, by insertion -/
def isort (le : β → β → Bool) (l : List (β × Nat)) : List (β × Nat) := l.foldl (ins le) []
theorem isort_app (l : List (β × Nat)) (x : β × Nat) : isort le (l ++ [x]) = ins le (isort le l) x := by
  unfold isort
  rw [List.foldl_append]; rfl
theorem foldl_perm : ∀ (l acc : List (β × Nat)), (l.foldl (ins le) acc).Perm (acc ++ l)
  | [], acc => by simp
  | x :: l, acc => by
    rw [List.foldl_cons]
    refine (foldl_perm l _).trans ?_
    refine (List.Perm.append_right l (ins_perm x acc)).trans ?_
    exact (List.perm_middle (l₁ := acc) (l₂ := l) (a := x)).symm
theorem isort_perm (l : List (β × Nat)) : (isort le l).Perm l := by
  have := foldl_perm (le := le) l []
  simpa [isort] using this
theorem foldl_sd (O : Ord le) : ∀ (l acc : List (β × Nat)), Sd le acc → Pl acc l → l.Pairwise (fun x y => x.2 < y.2) → Sd le (l.foldl (ins le) acc)
  | [], acc, h, _, _ => h
  | x :: l, acc, h, hp, hl => by
    rw [List.foldl_cons]
    rw [List.pairwise_cons] at hl
    refine foldl_sd O l _ (ins_sd O h fun y hy => hp y hy x List.mem_cons_self) (fun y hy z hz => ?_) hl.2
    rcases List.mem_cons.1 ((ins_perm x acc).mem_iff.1 hy) with rfl | hy
    · exact hl.1 z hz
    · exact hp y hy z (List.mem_cons_of_mem _ hz)
theorem num_inc : ∀ (l : List β) (k : Nat), (num k l).Pairwise (fun x y => x.2 < y.2)
  | [], _ => by simp [num]
  | x :: l, k => by
    show ((x, k) :: num (k + 1) l).Pairwise _
    rw [List.pairwise_cons]
    exact ⟨fun y hy => by have := num_mem hy; simp only; omega, num_inc l (k + 1)⟩
theorem isort_sd (O : Ord le) (l : List β) (k : Nat) : Sd le (isort le (num k l)) := foldl_sd O _ _ List.Pairwise.nil (fun x hx => by cases hx) (num_inc l k)
/-- the one stable order -/
theorem sorted_is (O : Ord le) {l : List β} {k : Nat} {m : List (β × Nat)} (hp : m.Perm (num k l)) (hs : Sd le m) : m = isort le (num k l) :=
  sd_unique O hs (isort_sd O l k) (hp.trans (isort_perm _).symm)
/-- runs of so many, the last one shorter -/
inductive Rn (le : β → β → Bool) (bs : Nat) : List (β × Nat) → Prop
  | last {S : List (β × Nat)} : Sd le S → S.length < bs → Rn le bs S
  | cons {B L : List (β × Nat)} : Sd le B → B.length = bs → Pl B L → Rn le bs L → Rn le bs (B ++ L)
/-- runs that whatever runs may follow -/
def Pre (le : β → β → Bool) (bs : Nat) (D : List (β × Nat)) : Prop := ∀ T, Rn le bs T → Pl D T → Rn le bs (D ++ T)
theorem pl_app {l m k : List (β × Nat)} : Pl l (m ++ k) ↔ Pl l m ∧ Pl l k := by
  constructor
  · intro h; exact ⟨fun x hx y hy => h x hx y (List.mem_append_left _ hy), fun x hx y hy => h x hx y (List.mem_append_right _ hy)⟩
  · rintro ⟨h, k⟩ x hx y hy
    rcases List.mem_append.1 hy with hy | hy
    · exact h x hx y hy
    · exact k x hx y hy
theorem app_pl {l m k : List (β × Nat)} : Pl (l ++ m) k ↔ Pl l k ∧ Pl m k := by
  constructor
  · intro h; exact ⟨fun x hx y hy => h x (List.mem_append_left _ hx) y hy, fun x hx y hy => h x (List.mem_append_right _ hx) y hy⟩
  · rintro ⟨h, k⟩ x hx y hy
    rcases List.mem_append.1 hx with hx | hx
    · exact h x hx y hy
    · exact k x hx y hy
theorem pl_perm {l l' m m' : List (β × Nat)} (h : Pl l m) (h1 : l'.Perm l) (h2 : m'.Perm m) : Pl l' m' := fun x hx y hy => h x (h1.mem_iff.1 hx) y (h2.mem_iff.1 hy)
theorem pre_nil {bs : Nat} : Pre le bs [] := fun T h _ => h
theorem pre_snoc {bs : Nat} {D S : List (β × Nat)} (h : Pre le bs D) (hs : Sd le S) (hl : S.length = bs) (hp : Pl D S) : Pre le bs (D ++ S) := by
  intro T hT hp2
  rw [List.append_assoc]
  have := app_pl.1 hp2
  exact h _ (.cons hs hl this.2 hT) (pl_app.2 ⟨hp, this.1⟩)
theorem rn_inv {bs : Nat} {T : List (β × Nat)} (h : Rn le bs T) (hl : bs ≤ T.length) : ∃ B L, T = B ++ L ∧ Sd le B ∧ B.length = bs ∧ Pl B L ∧ Rn le bs L := by
  cases h with
  | last h1 h2 => omega
  | cons h1 h2 h3 h4 => exact ⟨_, _, rfl, h1, h2, h3, h4⟩
theorem rn_last {bs : Nat} {T : List (β × Nat)} (h : Rn le bs T) (hl : T.length < bs) : Sd le T := by
  cases h with
  | last h1 h2 => exact h1
  | cons h1 h2 h3 h4 => rw [List.length_append] at hl; omega
/-- at most one run -/
theorem rn_one {bs : Nat} {T : List (β × Nat)} (h : Rn le bs T) (hl : T.length ≤ bs) : Sd le T := by
  rcases Nat.lt_or_ge T.length bs with c | c
  · exact rn_last h c
  · obtain ⟨B, L, rfl, h1, h2, h3, h4⟩ := rn_inv h c
    have : L = [] := by
      rw [List.length_append] at hl
      exact List.length_eq_zero_iff.1 (by omega)
    rw [this, List.append_nil]; exact h1
end
section
variable {β γ : Type} {le : β → β → Bool} {le' : γ → γ → Bool} {f : γ → β}
theorem ins_map (h : ∀ a b, le' a b = le (f a) (f b)) (x : γ × Nat) : ∀ l : List (γ × Nat), (ins le' l x).map (fun y => (f y.1, y.2)) = ins le (l.map fun y => (f y.1, y.2)) (f x.1, x.2)
  | [] => rfl
  | y :: l => by
    rw [List.map_cons]
    unfold ins
    rw [h]
    cases le (f y.1) (f x.1) with
    | true => rw [if_pos rfl, if_pos rfl, List.map_cons, ins_map h x l]
    | false => rw [if_neg (by simp), if_neg (by simp), List.map_cons, List.map_cons]
theorem foldl_map (h : ∀ a b, le' a b = le (f a) (f b)) : ∀ (l acc : List (γ × Nat)), (l.foldl (ins le') acc).map (fun y => (f y.1, y.2)) = (l.map fun y => (f y.1, y.2)).foldl (ins le) (acc.map fun y => (f y.1, y.2))
  | [], acc => rfl
  | x :: l, acc => by
    rw [List.foldl_cons, foldl_map h l, List.map_cons, List.foldl_cons, ins_map h]
theorem isort_map (h : ∀ a b, le' a b = le (f a) (f b)) (l : List (γ × Nat)) : (isort le' l).map (fun y => (f y.1, y.2)) = isort le (l.map fun y => (f y.1, y.2)) := foldl_map h l []
theorem num_map (f : γ → β) : ∀ (l : List γ) (k : Nat), (num k l).map (fun y => (f y.1, y.2)) = num k (l.map f)
  | [], _ => rfl
  | x :: l, k => by
    show (f x, k) :: (num (k + 1) l).map _ = (f x, k) :: num (k + 1) (l.map f)
    rw [num_map f l]
/-- what is sorted, without the places -/
def srt (le : β → β → Bool) (l : List β) : List β := (isort le (num 0 l)).map (·.1)
theorem srt_perm (l : List β) : (srt le l).Perm l := by
  have := (isort_perm (le := le) (num 0 l)).map (·.1)
  rwa [num_fst] at this
theorem srt_len (l : List β) : (srt le l).length = l.length := (srt_perm l).length_eq
theorem srt_map (h : ∀ a b, le' a b = le (f a) (f b)) (l : List γ) : (srt le' l).map f = srt le (l.map f) := by
  unfold srt
  rw [← num_map f l 0, ← isort_map h, List.map_map, List.map_map]; rfl
theorem srt_le (O : Ord le) (l : List β) : (srt le l).Pairwise (fun a b => le a b = true) := by
  unfold srt
  rw [List.pairwise_map]
  exact (isort_sd O l 0).imp fun h => h.1
/-- what is in order stays -/
theorem srt_of (O : Ord le) {l : List β} (h : l.Pairwise (fun a b => le a b = true)) : srt le l = l := by
  have key : ∀ (l : List β) (k : Nat), l.Pairwise (fun a b => le a b = true) → Sd le (num k l) := by
    intro l
    induction l with
    | nil => intro k _; exact List.Pairwise.nil
    | cons x l ih =>
      intro k h
      rw [List.pairwise_cons] at h
      show Sd le ((x, k) :: num (k + 1) l)
      refine List.pairwise_cons.2 ⟨fun y hy => ?_, ih (k + 1) h.2⟩
      have hm := num_mem hy
      refine slt_le (h.1 y.1 ?_) (by simp only; omega)
      have : y.1 ∈ (num (k + 1) l).map (·.1) := List.mem_map.2 ⟨y, hy, rfl⟩
      rwa [num_fst] at this
  unfold srt
  rw [← sorted_is O (List.Perm.refl _) (key l 0 h), num_fst]
theorem srt_srt (O : Ord le) (l : List β) : srt le (srt le l) = srt le l := srt_of O (srt_le O l)
end
end Srt
end Go.Proofs.YtongpnolikkknaaDoor

namespace Go.Proofs.YtongpnolikkknaaDoor
namespace Sh
open RowKit Srt
/-- a block g of elements, n cells each -/
structure BkAt {β : Type} (e : TypeId) (enc : β → List Value) (Mm : β → Prop) (rest : List Value) (g : Nat) (w : World) (L : List (β × Nat)) : Prop where
  blk : w.heap[g]? = some (.cells ((L.flatMap fun x => enc x.1) ++ rest).toArray e (0, 0))
  mem : ∀ x ∈ L, Mm x.1
/-- two exchanged -/
def swp {α : Type} (L : List α) (i j : Nat) (x y : α) : List α := (L.set j x).set i y
theorem set_flat {α : Type} {f : α → List Value} {n : Nat} (hn : ∀ x, (f x).length = n) : ∀ (L : List α) (i : Nat) (y : α), i < L.length → (L.set i y).flatMap f = (L.flatMap f).take (i * n) ++ f y ++ (L.flatMap f).drop (i * n + n)
  | x :: L, 0, y, h => by
    simp only [List.set_cons_zero, List.flatMap_cons, Nat.zero_mul, List.take_zero, List.nil_append, Nat.zero_add]
    rw [List.drop_append_of_le_length (by rw [hn]; omega), List.drop_of_length_le (by rw [hn]; omega), List.nil_append]
  | x :: L, i + 1, y, h => by
    simp only [List.set_cons_succ, List.flatMap_cons]
    rw [set_flat hn L i y (by simpa using h)]
    have e1 : (i + 1) * n = (f x).length + i * n := by rw [hn, Nat.add_mul]; omega
    have e2 : (i + 1) * n + n = (f x).length + (i * n + n) := by rw [hn, Nat.add_mul]; omega
    rw [e2, e1, List.take_length_add_append, List.drop_length_add_append]
    simp only [List.append_assoc]
theorem set_same {α : Type} (A : List α) (x y : α) (B : List α) : (A ++ x :: B).set A.length y = A ++ y :: B := by
  rw [List.set_append_right _ _ (Nat.le_refl _), Nat.sub_self]; rfl
/-- two exchanged, in a line -/
theorem swp_line {α : Type} (P Mi R : List α) (x y : α) : swp (P ++ x :: (Mi ++ y :: R)) P.length (P.length + 1 + Mi.length) x y = P ++ y :: (Mi ++ x :: R) := by
  unfold swp
  have e : P ++ x :: (Mi ++ y :: R) = (P ++ x :: Mi) ++ y :: R := by simp
  have l : P.length + 1 + Mi.length = (P ++ x :: Mi).length := by simp; omega
  rw [e, l, set_same]
  have e2 : (P ++ x :: Mi) ++ x :: R = P ++ x :: (Mi ++ x :: R) := by simp
  rw [e2, set_same]
theorem swp_line' {α : Type} (P Mi R : List α) (x y : α) : swp (P ++ x :: (Mi ++ y :: R)) (P.length + 1 + Mi.length) P.length y x = P ++ y :: (Mi ++ x :: R) := by
  unfold swp
  rw [set_same]
  have e : P ++ y :: (Mi ++ y :: R) = (P ++ y :: Mi) ++ y :: R := by simp
  have l : P.length + 1 + Mi.length = (P ++ y :: Mi).length := by simp; omega
  rw [e, l, set_same]
  simp
section
variable {β : Type} {e : TypeId} {enc : β → List Value} {Mm : β → Prop} {rest : List Value} {g n c N : Nat} {w : World} {L : List (β × Nat)} {Q : Value → World → Prop} {K : Value → M} {K0 : M} {k : IntKind} {i : Nat}
theorem BkAt.below {w' : World} (h : BkAt e enc Mm rest g w L) (hb : Below w.heap.size w w') : BkAt e enc Mm rest g w' L := ⟨stay hb h.blk, h.mem⟩
theorem BkAt.drw (h : BkAt e enc Mm rest g w L) : BkAt e enc Mm rest g (drw w) L := ⟨h.blk, h.mem⟩
theorem BkAt.cells (h : BkAt e enc Mm rest g w L) (hn : ∀ x, (enc x).length = n) (hi : i < L.length) : cellsAt w ⟨g, i * n, none⟩ (enc L[i].1) := by
  intro j u hj
  have hjn : j < n := by
    rcases Nat.lt_or_ge j n with c | c
    · exact c
    · rw [List.getElem?_eq_none (by rw [hn]; exact c)] at hj; cases hj
  rw [add_lit, cell_of_blk h.blk]
  have hlt : i * n + j < (L.flatMap fun x => enc x.1).length := by
    rw [flat_len (enc := fun x : β × Nat => enc x.1) (fun x => hn x.1)]
    have : (i + 1) * n ≤ L.length * n := Nat.mul_le_mul_right _ hi
    rw [Nat.add_mul] at this; omega
  rw [List.getElem?_toArray, List.getElem?_append_left hlt, flat_get (enc := fun x : β × Nat => enc x.1) (fun x => hn x.1) L i j hi hjn, hj]
theorem ia_bk {N : Nat} (hi : i < N) : ia n (.slice (some ⟨g, 0, none⟩) N c) (.int k (i : Int)) K w Q = K (.pointer (some ⟨g, i * n, none⟩)) w Q := by
  rw [ia_e, Int.toNat_natCast, add_lit, Nat.zero_add]
  apply propext
  exact ⟨fun h => h.2.2, fun h => ⟨by omega, by omega, h⟩⟩
/-- one read -/
theorem get_of {x : β × Nat} (hx : L[i]? = some x) : ∃ h : i < L.length, L[i] = x := by
  rcases Nat.lt_or_ge i L.length with c | c
  · rw [List.getElem?_eq_getElem c] at hx; exact ⟨c, Option.some.inj hx⟩
  · rw [List.getElem?_eq_none c] at hx; cases hx
theorem rdN {x : β × Nat} (h : BkAt e enc Mm rest g w L) (hN : L.length = N) (hn : ∀ x, (enc x).length = n) (h1 : ∀ x, ∀ v ∈ enc x, v.oneCell' = true) (hx : L[i]? = some x) (kk : K (.agg (enc x.1).toArray) w Q) : ia n (.slice (some ⟨g, 0, none⟩) N c) (.int k (i : Int)) (fun p => ldn n p K) w Q := by
  obtain ⟨hi, rfl⟩ := get_of hx
  rw [ia_bk (by omega)]
  exact ldn_at (h.cells hn hi) (hn _) kk
theorem rd1 {hd : β → Value} {x : β × Nat} (h : BkAt e (fun x => [hd x]) Mm rest g w L) (hN : L.length = N) (h1 : ∀ x, (hd x).oneCell' = true) (hx : L[i]? = some x) (kk : K (hd x.1) w Q) : ia 1 (.slice (some ⟨g, 0, none⟩) N c) (.int k (i : Int)) (fun p => ld p K) w Q := by
  obtain ⟨hi, rfl⟩ := get_of hx
  rw [ia_bk (by omega), ld_e]
  have := h.cells (n := 1) (fun _ => rfl) hi 0 _ rfl
  rw [add_lit, Nat.add_zero] at this
  exact ⟨_, this, kk⟩
/-- one stored -/
theorem stN {y : β × Nat} (h : BkAt e enc Mm rest g w L) (hN : L.length = N) (hn : ∀ x, (enc x).length = n) (h1 : ∀ x, ∀ v ∈ enc x, v.oneCell' = true) (hi : i < L.length) (hy : Mm y.1)
    (kk : ∀ w', BkAt e enc Mm rest g w' (L.set i y) → Upd g w w' → K0 w' Q) : ia n (.slice (some ⟨g, 0, none⟩) N c) (.int k (i : Int)) (fun p => stn n p (.agg (enc y.1).toArray) K0) w Q := by
  rw [ia_bk (by omega)]
  have hle : (i + 1) * n ≤ L.length * n := Nat.mul_le_mul_right _ hi
  rw [Nat.add_mul, Nat.one_mul] at hle
  have hfl : (L.flatMap fun x => enc x.1).length = L.length * n := flat_len (enc := fun x : β × Nat => enc x.1) (fun x => hn x.1) L
  obtain ⟨w', c', e1, e2, e3, e4⟩ := sts_blk (o := i * n) (enc y.1) 0 w _ h.blk (by simp [hfl, hn]; omega) (h1 _)
  refine ⟨_, _, w', rfl, rfl, by simpa using hn _, e1, kk w' ⟨?_, fun x hx => ?_⟩ e4⟩
  · rw [e2]
    congr 2
    apply Array.toList_inj.1
    rw [e3, hn]
    simp only [Nat.add_zero]
    rw [set_flat (f := fun x : β × Nat => enc x.1) (fun x => hn x.1) L i y hi]
    rw [List.take_append_of_le_length (by rw [hfl]; omega), List.drop_append_of_le_length (by rw [hfl]; omega)]
    simp only [List.append_assoc]
  · rcases List.mem_or_eq_of_mem_set hx with hx | rfl
    · exact h.mem x hx
    · exact hy
theorem st1 {hd : β → Value} {y : β × Nat} (h : BkAt e (fun x => [hd x]) Mm rest g w L) (hN : L.length = N) (h1 : ∀ x, (hd x).oneCell' = true) (hi : i < L.length) (hy : Mm y.1)
    (kk : ∀ w', BkAt e (fun x => [hd x]) Mm rest g w' (L.set i y) → Upd g w w' → K0 w' Q) : ia 1 (.slice (some ⟨g, 0, none⟩) N c) (.int k (i : Int)) (fun p => st p (hd y.1) K0) w Q := by
  rw [ia_bk (by omega), Nat.mul_one]
  have hfl : (L.flatMap fun x => [hd x.1]).length = L.length * 1 := flat_len (enc := fun x : β × Nat => [hd x.1]) (fun x => rfl) L
  refine st_box h.blk (by simp [hfl]; omega) (h1 _) fun w' hb hu => kk w' ⟨?_, fun x hx => ?_⟩ hu
  · rw [hb]
    congr 2
    apply Array.toList_inj.1
    simp only [Array.toList_setIfInBounds]
    rw [set_flat (f := fun x : β × Nat => [hd x.1]) (n := 1) (fun x => rfl) L i y hi, Nat.mul_one]
    rw [List.set_append_left _ _ (by rw [hfl]; omega), List.set_eq_take_append_cons_drop, if_pos (by rw [hfl]; omega)]
    simp only [List.append_assoc, List.singleton_append, List.cons_append, List.nil_append]
  · rcases List.mem_or_eq_of_mem_set hx with hx | rfl
    · exact h.mem x hx
    · exact hy
/-- a line's two elements, and both exchanged -/
theorem line_get {P Mi R : List (β × Nat)} {x y : β × Nat} {i j : Nat} (hL : L = P ++ x :: (Mi ++ y :: R)) (hi : i = P.length) (hj : j = P.length + 1 + Mi.length) :
    L[i]? = some x ∧ L[j]? = some y ∧ i < L.length ∧ j < L.length ∧ (L.set i y).set j x = P ++ y :: (Mi ++ x :: R) ∧ (L.set j x).set i y = P ++ y :: (Mi ++ x :: R) := by
  subst hi hj hL
  have e : P ++ x :: (Mi ++ y :: R) = (P ++ x :: Mi) ++ y :: R := by simp
  have l : P.length + 1 + Mi.length = (P ++ x :: Mi).length := by simp; omega
  refine ⟨?_, ?_, ?_, ?_, swp_line' P Mi R x y, swp_line P Mi R x y⟩
  · rw [List.getElem?_append_right (Nat.le_refl _), Nat.sub_self]; rfl
  · rw [e, l, List.getElem?_append_right (Nat.le_refl _), Nat.sub_self]; rfl
  · simp
  · simp; omega
theorem u2c {V w' w2 : World} (h : Chg g V (Sh.drw w)) (u : Upd g (Sh.drw w) w') (u2 : Upd g w' w2) : Chg g V w2 := (h.trans u.chg).trans u2.chg
/-- a half -/
theorem shr1 {x : Nat} : shr .u64 .u64 (.int .u64 (x : Int)) (.int .u64 1) K w Q = K (.int .u64 ((x / 2 : Nat) : Int)) w Q := by
  rw [shr_e]
  have e : (x : Int).fdiv (2 ^ (min (1 : Int).toNat IntKind.u64.bits)) = ((x / 2 : Nat) : Int) := by
    have : min (1 : Int).toNat IntKind.u64.bits = 1 := rfl
    rw [this, Int.fdiv_eq_ediv_of_nonneg _ (by decide)]
    omega
  rw [e]
  exact propext ⟨fun h => h.2, fun h => ⟨by decide, h⟩⟩
/-- how two elements are told apart -/
def CmpOf (P : Program) {β : Type} (V : World) (g : Nat) (f : Value) (hd : β → Value) (le : β → β → Bool) (Mm : β → Prop) : Prop := ∀ (x y : β) (w : World) (K : Value → M) (Q : Value → World → Prop), Chg g V w → Mm x → Mm y →
  (∀ (w' : World) (z : Int), Below w.heap.size w w' → (z < 0 ↔ le y x = false) → K (.int .i64 z) w' Q) → cf P f #[hd x, hd y] K w Q
end
end Sh
end Go.Proofs.YtongpnolikkknaaDoor

namespace Go.Proofs.YtongpnolikkknaaDoor
open Sh RowKit Go.MapKept
def kI : Int → Value := fun i => .int .i64 i
end Go.Proofs.YtongpnolikkknaaDoor

set_option maxRecDepth 20000
namespace Go.Proofs.YtongpnolikkknaaDoor
open Sh RowKit Go.MapKept
abbrev pv (b : Nat) : Value := .pointer (some ⟨b, 0, none⟩)
abbrev Sct := { x : ByteArray // x.size = 64 }
def encS (x : Sct) : List Value := (byL x.1).map (.int .u8)
theorem encS_len (x : Sct) : (encS x).length = 64 := by unfold encS; rw [List.length_map, byL_len, x.2]
theorem encS_one (x : Sct) : ∀ c ∈ encS x, c.oneCell' = true := by intro c hc; obtain ⟨a, _, rfl⟩ := List.mem_map.1 hc; rfl
theorem map_int_inj : ∀ {a b : List Int}, a.map (Value.int .u8) = b.map (.int .u8) → a = b
  | [], [], _ => rfl
  | [], y :: b, h => by simp at h
  | x :: a, [], h => by simp at h
  | x :: a, y :: b, h => by
    simp only [List.map_cons, List.cons.injEq, Value.int.injEq, true_and] at h
    rw [h.1, map_int_inj h.2]
theorem encS_inj {x y : Sct} (h : encS x = encS y) : x = y := Subtype.ext (byL_inj (map_int_inj h))
def padL (s : ByteArray) : List Int := (byL s).take 64 ++ List.replicate (64 - s.size) 0
theorem padL_len (s : ByteArray) : (padL s).length = 64 := by unfold padL; rw [List.length_append, List.length_take, List.length_replicate, byL_len]; omega
theorem padL_nn (s : ByteArray) : ∀ x ∈ padL s, 0 ≤ x ∧ x ≤ 255 := by
  intro x hx
  unfold padL at hx
  rcases List.mem_append.1 hx with h | h
  · exact byL_nn (List.mem_of_mem_take h)
  · rw [List.eq_of_mem_replicate h]; omega
def pad (s : ByteArray) : Sct := ⟨strOfNums (padL s), by rw [son_size, padL_len]⟩
theorem byL_pad (s : ByteArray) : byL (pad s).1 = padL s := byL_son (padL_nn s)
theorem encS_pad (s : ByteArray) : encS (pad s) = (padL s).map (.int .u8) := by unfold encS; rw [byL_pad]
/-- some of the one, the rest of the other -/
def torn (x s : Sct) (c : Nat) : Sct := ⟨strOfNums ((byL x.1).take c ++ (byL s.1).drop c), by
  rw [son_size, List.length_append, List.length_take, List.length_drop, byL_len, byL_len, x.2, s.2]; omega⟩
theorem byL_torn (x s : Sct) (c : Nat) : byL (torn x s c).1 = (byL x.1).take c ++ (byL s.1).drop c := byL_son (by
  intro y hy
  rcases List.mem_append.1 hy with h | h
  · exact byL_nn (List.mem_of_mem_take h)
  · exact byL_nn (List.mem_of_mem_drop h))
structure Sec where
  s : Sct
  u : Option Sct
def Sec.now (x : Sec) : Sct := x.u.getD x.s
structure Dv where
  A : List Sec
  c : Int
  h : Int
/-- sector i, if there is one -/
def Dv.at (D : Dv) (i : Int) : Option Sec := if 0 ≤ i then D.A[i.toNat]? else none
def Dv.tick (D : Dv) : Dv := { D with c := D.c + 1 }
def Dv.rd (D : Dv) (i : Int) : ByteArray := ((D.at i).map (·.now.1)).getD ⟨#[]⟩
def Dv.set (D : Dv) (i : Nat) (x : Sec) : Dv := { D with A := D.A.set i x }
def Dv.wr (D : Dv) (i : Int) (s : ByteArray) : Int × Dv :=
  if D.h < D.c + 1 then (9, D.tick) else match D.at i with
  | none => (7, D.tick)
  | some x => if 64 < s.size then (3, D.tick) else (0, D.tick.set i.toNat ⟨x.s, some (pad s)⟩)
def Dv.sync (D : Dv) : Int × Dv := if D.h < D.c + 1 then (9, D.tick) else (0, { D.tick with A := D.A.map fun x => ⟨x.now, none⟩ })
def Dv.stop (D : Dv) (n : Int) : Dv := { D with h := if n < 0 ∨ 1099511627776 < n then 4611686018427387904 else D.c + n }
/-- the sectors that aren't sure -/
def uns (A : List Sec) : List Nat := (List.range A.length).filter fun i => ((A[i]?).bind (·.u)).isSome
/-- what is behind a crash, of the k-th that isn't sure -/
def nw (keep : List Bool) (tn cut : Int) (x : Sec) (k : Nat) : Sct :=
  if (k : Int) = tn then torn x.now x.s (min (max cut 0) 64).toNat else if keep[k % keep.length]? = some true then x.now else x.s
/-- the k-th that isn't sure, sector i (f: what is kept of what isn't sure) -/
def crash1 (f : Option Sct → Option Sct) (keep : List Bool) (tn cut : Int) (A : List Sec) (i k : Nat) : List Sec := match A[i]? with
  | none => A
  | some x => A.set i ⟨nw keep tn cut x k, f x.u⟩
def crashL (f : Option Sct → Option Sct) (keep : List Bool) (tn cut : Int) : List Sec → List Nat → Nat → List Sec
  | A, [], _ => A
  | A, i :: r, k => crashL f keep tn cut (crash1 f keep tn cut A i k) r (k + 1)
def Dv.crash (D : Dv) (keep : List Bool) (tn cut : Int) : Dv := { D with A := crashL (fun _ => none) keep tn cut D.A (uns D.A) 0, h := 4611686018427387904 }
def newD (n : Nat) : Dv := ⟨List.replicate n ⟨pad ⟨#[]⟩, none⟩, 0, 4611686018427387904⟩
/-- a device in memory -/
structure DevAt (B : Nat) (w : World) (p : Nat) (v : Value) (b : Nat) (D : Dv) : Prop where
  pB : B ≤ p
  bB : B ≤ b
  n : D.A.length ≤ 4096
  hp : w.heap[p]? = some (.cells #[v, .map (some b), .int .i64 D.c, .int .i64 D.h] 108 (0, 0))
  own : ownE B 113 64 encS w v (D.A.map (·.s))
  mp : ∃ L : List (Int × Sct), MapAt kI w b (L.map fun q => (q.1, .agg (encS q.2).toArray)) ∧ ∀ i x, (i, x) ∈ L ↔ (D.at i).bind (·.u) = some x
def fpD (p : Nat) (v : Value) (b : Nat) : Nat → Prop := fun k => k = p ∨ k = b ∨ v.ownBlock = some k
section
variable {B : Nat} {w w' : World} {p b : Nat} {v : Value} {D : Dv}
theorem DevAt.c0 (h : DevAt B w p v b D) : w.cell? ⟨p, 0, none⟩ = some v := by rw [cell_of_blk h.hp]; rfl
theorem DevAt.c1 (h : DevAt B w p v b D) : w.cell? ⟨p, 1, none⟩ = some (.map (some b)) := by rw [cell_of_blk h.hp]; rfl
theorem DevAt.c2 (h : DevAt B w p v b D) : w.cell? ⟨p, 2, none⟩ = some (.int .i64 D.c) := by rw [cell_of_blk h.hp]; rfl
theorem DevAt.c3 (h : DevAt B w p v b D) : w.cell? ⟨p, 3, none⟩ = some (.int .i64 D.h) := by rw [cell_of_blk h.hp]; rfl
theorem DevAt.plt (h : DevAt B w p v b D) : p < w.heap.size := blk_lt h.hp
theorem DevAt.below (h : DevAt B w p v b D) (hb : Below w.heap.size w w') : DevAt B w' p v b D := by
  obtain ⟨L, hm, hl⟩ := h.mp
  exact ⟨h.pB, h.bB, h.n, stay hb h.hp, ownE_below h.own hb, L, hm.below hb, hl⟩
theorem DevAt.drw (h : DevAt B w p v b D) : DevAt B (drw w) p v b D := ⟨h.pB, h.bB, h.n, h.hp, h.own, h.mp⟩
theorem DevAt.len (h : DevAt B w p v b D) : ∃ a c, v = .slice a D.A.length c := by
  obtain ⟨h1, h2⟩ := h.own
  rcases h2 with ⟨rfl, h0⟩ | ⟨g, cap, cur, rfl, _⟩
  · rw [List.length_map] at h0; exact ⟨none, 0, by rw [h0]⟩
  · exact ⟨some ⟨g, 0, none⟩, cap, by rw [List.length_map]⟩
theorem DevAt.gblk (h : DevAt B w p v b D) : ∀ g, v.ownBlock = some g → g ≠ p ∧ g ≠ b ∧ B ≤ g ∧ g < w.heap.size := by
  intro g hg
  obtain ⟨h1, h2, cur, h3⟩ := ownE_blk h.own g hg
  obtain ⟨L, ⟨es, clock, hm, _⟩, _⟩ := h.mp
  refine ⟨?_, ?_, h1, h2⟩
  · rintro rfl; rw [h.hp] at h3; cases h3
  · rintro rfl; rw [hm] at h3; cases h3
theorem DevAt.pb (h : DevAt B w p v b D) : p ≠ b := by
  obtain ⟨L, ⟨es, clock, hm, _⟩, _⟩ := h.mp
  rintro rfl; rw [h.hp] at hm; cases hm
/-- one of its own cells stored -/
theorem DevAt.upd {D' : Dv} (h : DevAt B w p v b D) (hA : D'.A = D.A) (hp : w'.heap[p]? = some (.cells #[v, .map (some b), .int .i64 D'.c, .int .i64 D'.h] 108 (0, 0))) (hu : Upd p w w') : DevAt B w' p v b D' := by
  obtain ⟨L, hm, hl⟩ := h.mp
  refine ⟨h.pB, h.bB, by rw [hA]; exact h.n, hp, by rw [hA]; exact ownE_stay h.own (fun g hg => hu.block g (h.gblk g hg).1), L, hm.upd hu h.pb.symm, fun i x => ?_⟩
  rw [hl]
  unfold Dv.at
  rw [hA]
theorem fpD_B (h : DevAt B w p v b D) : ∀ k, fpD p v b k → B ≤ k := by
  rintro k (rfl | rfl | hk)
  · exact h.pB
  · exact h.bB
  · exact (h.gblk k hk).2.2.1
end
end Go.Proofs.YtongpnolikkknaaDoor

set_option maxRecDepth 20000
namespace Go.Proofs.YtongpnolikkknaaDoor
open Sh RowKit Go.MapKept
theorem sl61 : slT Tryd.prog 66 5 (.int .u8 0) 1 1 := ⟨by kernel_rfl, by kernel_rfl⟩
theorem sl57 : slT Tryd.prog 105 113 (.agg (Array.replicate 64 (.int .u8 0))) 64 64 := ⟨by kernel_rfl, by kernel_rfl⟩
theorem sl50 : slT Tryd.prog 39 9 (.string ⟨#[]⟩) 1 16 := ⟨by kernel_rfl, by kernel_rfl⟩
theorem sl29 : slT Tryd.prog 22 3 (.int .i64 0) 1 8 := ⟨by kernel_rfl, by kernel_rfl⟩
theorem str9 : isStr Tryd.prog 9 = true := by kernel_rfl
theorem ud5 : Tryd.prog.underlying 5 = some (.int .u8) := by kernel_rfl
theorem pt23 : Tryd.prog.underlying 58 = some (.pointer (Tryd.prog.pointee 58)) := by kernel_rfl
theorem KK : KeyK Tryd.prog 106 3 113 (.int .i64) kI := ⟨by kernel_rfl, by kernel_rfl, fun a => by simp [kI, IsKey], fun a b h => by simpa [kI] using h⟩
theorem z63 : zeroIs Tryd.prog 113 (.agg (Array.replicate 64 (.int .u8 0))) := by unfold zeroIs; kernel_rfl
/-- a sector of noughts -/
theorem encS_nil : encS (pad ⟨#[]⟩) = List.replicate 64 (.int .u8 0) := by
  rw [encS_pad]
  unfold padL
  rw [byL_nil, List.take_nil, List.nil_append, List.map_replicate]
  rfl
/-- the row behind i bytes -/
def padU (s : ByteArray) (i : Nat) : List Int := (byL s).take i ++ List.replicate (64 - i) 0
theorem padU_len {s : ByteArray} {i : Nat} (h : i ≤ s.size) (h2 : i ≤ 64) : (padU s i).length = 64 := by
  unfold padU; rw [List.length_append, List.length_take, List.length_replicate, byL_len]; omega
theorem padU_succ {s : ByteArray} {i : Nat} (h : i < s.size) (h2 : i < 64) : (padU s i).set i ((byL s)[i]'(by rw [byL_len]; exact h)) = padU s (i + 1) := by
  unfold padU
  have hl : i < (byL s).length := by rw [byL_len]; exact h
  have hle : ((byL s).take i).length = i := by rw [List.length_take]; omega
  rw [List.set_append_right _ _ (by omega), List.take_succ_eq_append_getElem hl, hle, Nat.sub_self, show 64 - i = (64 - (i + 1)) + 1 by omega, List.replicate_succ, List.set_cons_zero, List.append_assoc]
  rfl
theorem padU_end {s : ByteArray} {i : Nat} (h : i ≤ s.size) (h2 : i ≤ 64) (hx : ¬(i < s.size ∧ i < 64)) : padU s i = padL s := by
  unfold padU padL
  rcases Nat.lt_or_ge i 64 with c | c
  · have : i = s.size := by omega
    subst this
    rw [List.take_of_length_le (by rw [byL_len]; exact Nat.le_refl _), List.take_of_length_le (by rw [byL_len]; omega)]
  · have e : i = 64 := by omega
    subst e
    congr 2; omega
section
variable {w : World} {Q : Value → World → Prop}
theorem f42_loop {W : World} {B : Nat} (s : ByteArray) : ∀ (d m i : Nat) (w : World) (v : Value), i + d = min s.size 64 → d < m → B ≤ w.heap.size → Below B W w → ownI B 5 .u8 w v (padU s i) →
    (∀ w', Below B W w' → Q (.string (pad s).1) w') →
    itr (fun _ _ _ => bot) (f42_b2 f42_j1) m (.string s) v (.int .i64 (i : Int)) w Q := by
  intro d
  induction d with
  | zero =>
    intro m i w v hi hm hB hb ho kk
    obtain ⟨m, rfl⟩ : ∃ x, m = x + 1 := ⟨m - 1, by omega⟩
    show f42_b2 f42_j1 _ _ _ _ w Q
    unfold f42_b2
    have hx : ¬(i < s.size ∧ i < 64) := by omega
    have he := padU_end (by omega) (by omega) hx
    rw [he] at ho
    have fin : f42_j1 v w Q := by
      unfold f42_j1
      refine cvb sl61 ud5 str9 (rdP_rd (ownI_rdP ho)) ?_
      simp only [↓reduceIte, ↓LL, LM, Value.cells, Nat.reduceAdd, Option.some.injEq, exists_eq_left', decide_true, decide_false, if_true, if_false, reduceCtorEq, cond_true, cond_false]
      exact kk w hb
    by_cases c : i < s.size
    · have c2 : ¬ (i : Int) < 64 := by omega
      have c1 : (i : Int) < s.size := by omega
      simp only [↓reduceIte, ↓LL, LM, Value.cells, Nat.reduceAdd, Option.some.injEq, exists_eq_left', decide_true, decide_false, if_true, if_false, reduceCtorEq, cond_true, cond_false, c1, c2]
      exact fin
    · have c1 : ¬ (i : Int) < s.size := by omega
      simp only [↓reduceIte, ↓LL, LM, Value.cells, Nat.reduceAdd, Option.some.injEq, exists_eq_left', decide_true, decide_false, if_true, if_false, reduceCtorEq, cond_true, cond_false, c1]
      exact fin
  | succ d ih =>
    intro m i w v hi hm hB hb ho kk
    obtain ⟨m, rfl⟩ : ∃ x, m = x + 1 := ⟨m - 1, by omega⟩
    show f42_b2 f42_j1 _ _ _ _ w Q
    unfold f42_b2
    have c1 : (i : Int) < s.size := by omega
    have c2 : (i : Int) < 64 := by omega
    have h3 : IntKind.i64.wrap ((i : Int) + 1) = ((i + 1 : Nat) : Int) := by rw [w64 (by omega) (by omega)]; rfl
    simp only [↓reduceIte, ↓LL, LM, Value.cells, Nat.reduceAdd, Option.some.injEq, exists_eq_left', decide_true, decide_false, if_true, if_false, reduceCtorEq, cond_true, cond_false, c1, c2]
    obtain ⟨c, hc, hx⟩ := byL_get s i (by rw [byL_len]; omega)
    refine ⟨s, .i64, i, c, rfl, rfl, by omega, by rw [Int.toNat_natCast]; exact hc, ?_⟩
    rw [← hx]
    refine ia_st ho (by rw [padU_len (by omega) (by omega)]; omega) fun w' ho' hu => ?_
    rw [padU_succ (by omega) (by omega)] at ho'
    obtain ⟨g, hg1, hg2, hg3, hu⟩ := hu
    simp only [↓reduceIte, ↓LL, LM, Value.cells, Nat.reduceAdd, Option.some.injEq, exists_eq_left', decide_true, decide_false, if_true, if_false, reduceCtorEq, cond_true, cond_false, h3]
    exact ih m (i + 1) w' v (by omega) (by omega) (by rw [hu.size]; exact hB) (hb.trans (hu.below hg2)) ho' kk
theorem f42_s (s : ByteArray) (h : ∀ w', Below w.heap.size w w' → Q (.string (pad s).1) w') : f42 (.string s) w Q := by
  unfold f42
  refine mkI (n := 64) (B := w.heap.size) sl61 (by omega) (by omega) (Nat.le_refl _) fun v w1 ho hb => ?_
  try simp only [↓reduceIte, ↓LL, LM, Value.cells, Nat.reduceAdd, Option.some.injEq, exists_eq_left', decide_true, decide_false, if_true, if_false, reduceCtorEq, cond_true, cond_false]
  refine ⟨_, f42_loop (W := w) s (min s.size 64) (min s.size 64 + 1) 0 w1 v (by omega) (by omega) hb.size hb ?_ h⟩
  exact ho
/-- how many sectors -/
theorem f39_s {B p b : Nat} {v : Value} {D : Dv} (hd : DevAt B w p v b D) (h : Q (.int .i64 (D.A.length : Nat)) w) : f39 (pv p) w Q := by
  unfold f39
  obtain ⟨a, c, hv⟩ := hd.len
  have c0 := hd.c0
  rw [hv] at c0
  rw [pn_eq pt23]
  simp only [↓reduceIte, ↓LL, LM, Value.cells, Nat.reduceAdd, Option.some.injEq, exists_eq_left', decide_true, decide_false, if_true, if_false, reduceCtorEq, cond_true, cond_false, Option.isNone, c0]
  exact h
theorem f39_n (h : Q (.int .i64 0) w) : f39 (.pointer none) w Q := by
  unfold f39
  rw [pn_eq pt23]
  simp only [↓reduceIte, ↓LL, LM, Value.cells, Nat.reduceAdd, Option.some.injEq, exists_eq_left', decide_true, decide_false, if_true, if_false, reduceCtorEq, cond_true, cond_false, Option.isNone]
  exact h
/-- a call counted -/
theorem f72_s {B p b : Nat} {v : Value} {D : Dv} (hd : DevAt B w p v b D) (h0 : 0 ≤ D.c) (h1 : D.c ≤ 1000000) (h : ∀ w', DevAt B w' p v b D.tick → Upd p w w' → Q (.int .i64 (if D.h < D.c + 1 then 9 else 0)) w') : f72 (pv p) w Q := by
  unfold f72
  have c2 := hd.c2
  have e : IntKind.i64.wrap (D.c + 1) = D.c + 1 := w64 (by omega) (by omega)
  rw [pn_eq pt23]
  simp only [↓reduceIte, ↓LL, LM, Value.cells, Nat.reduceAdd, Option.some.injEq, exists_eq_left', decide_true, decide_false, if_true, if_false, reduceCtorEq, cond_true, cond_false, Option.isNone, c2, e]
  refine st_box hd.hp (o := 2) (v := .int .i64 (D.c + 1)) (by simp) rfl fun w1 h1 hu => ?_
  have d1 : DevAt B w1 p v b D.tick := hd.upd rfl h1 hu
  have k2 := d1.c2
  have k3 := d1.c3
  have e2 : D.tick.c = D.c + 1 := rfl
  have e3 : D.tick.h = D.h := rfl
  rw [e2] at k2
  rw [e3] at k3
  simp only [↓reduceIte, ↓LL, LM, Value.cells, Nat.reduceAdd, Option.some.injEq, exists_eq_left', decide_true, decide_false, if_true, if_false, reduceCtorEq, cond_true, cond_false, k2, k3]
  by_cases c : D.h < D.c + 1
  · simp only [↓reduceIte, ↓LL, LM, Value.cells, Nat.reduceAdd, Option.some.injEq, exists_eq_left', decide_true, decide_false, if_true, if_false, reduceCtorEq, cond_true, cond_false, c]
    have := h (drw w1) d1.drw ⟨hu.os, hu.tape, hu.output, hu.size, hu.block⟩
    rw [if_pos c] at this
    exact this
  · simp only [↓reduceIte, ↓LL, LM, Value.cells, Nat.reduceAdd, Option.some.injEq, exists_eq_left', decide_true, decide_false, if_true, if_false, reduceCtorEq, cond_true, cond_false, c]
    have := h (drw w1) d1.drw ⟨hu.os, hu.tape, hu.output, hu.size, hu.block⟩
    rw [if_neg c] at this
    exact this
theorem f72_n (h : Q (.int .i64 1) w) : f72 (.pointer none) w Q := by
  unfold f72
  rw [pn_eq pt23]
  simp only [↓reduceIte, ↓LL, LM, Value.cells, Nat.reduceAdd, Option.some.injEq, exists_eq_left', decide_true, decide_false, if_true, if_false, reduceCtorEq, cond_true, cond_false, Option.isNone]
  exact h
end
end Go.Proofs.YtongpnolikkknaaDoor

namespace Go.Proofs.YtongpnolikkknaaDoor
namespace Sh
open RowKit Go.MapKept
section
variable {α : Type} [DecidableEq α]
theorem lk_put {L : List (α × Value)} {k k' : α} {v : Value} : lk (put L k v) k' = if k' = k then some v else lk L k' := by
  unfold put
  split
  · rename_i h
    have gen : ∀ L : List (α × Value), lk (L.map (fun p => if p.1 = k then (k, v) else p)) k' = if k' = k then (if k ∈ L.map (·.1) then some v else none) else lk L k' := by
      intro L
      induction L with
      | nil => simp [lk]
      | cons p L ih =>
        obtain ⟨a, u⟩ := p
        rw [List.map_cons]
        by_cases ha : a = k
        · rw [if_pos ha, lk_cons, lk_cons, ih]
          by_cases hk : k' = k
          · subst hk; simp [ha]
          · have : ¬ k = k' := fun e => hk e.symm
            have h2 : ¬ a = k' := fun e => hk (by rw [← e, ha])
            simp [hk, this, h2]
        · rw [if_neg ha, lk_cons, lk_cons, ih]
          by_cases hk : k' = k
          · subst hk
            have h2 : ¬ k' = a := fun e => ha e.symm
            have h3 : (k' ∈ List.map (fun x => x.1) ((a, u) :: L)) ↔ (k' ∈ List.map (fun x => x.1) L) := by
              rw [List.map_cons, List.mem_cons]
              exact ⟨fun h => h.resolve_left h2, .inr⟩
            rw [if_neg ha, if_pos rfl, if_pos rfl]
            by_cases h4 : k' ∈ List.map (fun x => x.1) L
            · rw [if_pos h4, if_pos (h3.2 h4)]
            · rw [if_neg h4, if_neg (fun e => h4 (h3.1 e))]
          · simp [hk]
    rw [gen, if_pos h]
  · rename_i h
    have gen : ∀ L : List (α × Value), lk (L ++ [(k, v)]) k' = (lk L k').or (if k' = k then some v else none) := by
      intro L
      induction L with
      | nil =>
        rw [List.nil_append, lk_cons]
        by_cases hk : k' = k
        · subst hk; simp [lk]
        · have : ¬ k = k' := fun e => hk e.symm
          simp [lk, hk, this]
      | cons p L ih =>
        obtain ⟨a, u⟩ := p
        rw [List.cons_append, lk_cons, lk_cons, ih]
        split <;> simp
    rw [gen]
    by_cases hk : k' = k
    · subst hk
      have : lk L k' = none := lk_none.2 fun p hp e => h (e ▸ List.mem_map.2 ⟨p, hp, rfl⟩)
      simp [this]
    · simp [hk]
theorem put_mem {L : List (α × Value)} {k : α} {v : Value} {p : α × Value} (h : p ∈ put L k v) : p = (k, v) ∨ p ∈ L := by
  unfold put at h
  split at h
  · obtain ⟨q, hq, e⟩ := List.mem_map.1 h
    split at e
    · exact .inl e.symm
    · exact .inr (e ▸ hq)
  · rcases List.mem_append.1 h with h | h
    · exact .inr h
    · exact .inl (List.mem_singleton.1 h)
end
theorem cf_p {w : World} {Q : Value → World → Prop} {P : Program} {f : FuncId} {z cap args : Array Value} {K : Value → M} (he : ∀ args w, (callFunc f args).run P w = .ok (.enter f args) w) (h : Calls P f (z ++ args ++ cap) w (Rt fun v w' => K v w' Q)) : cf P (.func (.func f) z cap) args K w Q :=
  ⟨f, z, cap, rfl, he _ _, h⟩
theorem cc_of {P : Program} {f : FuncId} {args : Array Value} {K : Value → M} {w : World} {Q : Value → World → Prop} {R : Ending → World → Prop} (h : Calls P f args w R) (hR : ∀ e w', R e w' → ∃ v, e = .returned v ∧ K v w' Q) : cc P f args K w Q :=
  Calls.mono h fun e w' he => by obtain ⟨v, rfl, hk⟩ := hR e w' he; exact hk
end Sh
end Go.Proofs.YtongpnolikkknaaDoor

set_option maxRecDepth 20000
set_option maxHeartbeats 4000000
namespace Go.Proofs.YtongpnolikkknaaDoor
open Sh RowKit Go.MapKept
def zs (n : Nat) : ByteArray := strOfNums (List.replicate n 0)
theorem byL_zs (n : Nat) : byL (zs n) = List.replicate n 0 := byL_son fun x hx => by rw [(List.mem_replicate.1 hx).2]; decide
theorem zs_size (n : Nat) : (zs n).size = n := by rw [← byL_len, byL_zs, List.length_replicate]
theorem repL (n : Nat) : (⟨(Lib.repeatL (⟨#[0]⟩ : ByteArray).data.toList n).toArray⟩ : ByteArray) = zs n := by
  apply byL_inj
  rw [byL_zs]
  unfold byL
  have : ∀ n, Lib.repeatL (⟨#[0]⟩ : ByteArray).data.toList n = List.replicate n 0 := by
    intro n
    induction n with
    | zero => rfl
    | succ n ih => show [0] ++ Lib.repeatL _ n = _; rw [ih, List.replicate_succ]; rfl
  rw [this]
  simp
/-- a text's beginning, whole -/
theorem pad_of {l : List Int} (hl : l.length ≤ 64) (hb : ∀ x ∈ l, 0 ≤ x ∧ x ≤ 255) : strOfNums l ++ zs (64 - l.length) = (pad (strOfNums l)).1 := by
  apply byL_inj
  rw [byL_app, byL_son hb, byL_zs, byL_pad]
  unfold padL
  rw [byL_son hb, son_size, List.take_of_length_le hl]
def rightB (l : List Int) : Bool := decide (l.Nodup ∧ ∀ x ∈ l, 0 ≤ x ∧ x ≤ 65535)
theorem KKi : KeyK Tryd.prog 118 3 3 (.int .i64) kI := ⟨by kernel_rfl, by kernel_rfl, fun a => by simp [kI, IsKey], fun a b h => by simpa [kI] using h⟩
theorem z3 : zeroIs Tryd.prog 3 (.int .i64 0) := by unfold zeroIs; kernel_rfl
theorem wd2 : wd 2 = 2 := rfl
section
variable {w : World} {Q : Value → World → Prop}
theorem rep_s {n : Nat} {K : Value → M} (hn : n ≤ 1000) (kk : ∀ w', Below w.heap.size w w' → K (.string (zs n)) w' Q) : cc Tryd.prog 78 #[.string ⟨#[0]⟩, .int .i64 (n : Int)] K w Q := by
  refine cc_of (Tryd.strings_Repeat ⟨#[0]⟩ n w (by omega) (by show 1 * n ≤ _; omega)) fun e w' h => ?_
  obtain ⟨h1, h2⟩ := h
  exact ⟨_, h1, by rw [repL]; exact kk w' h2⟩
theorem f50_s {v : Value} {l : List Int} (h : rdI .u8 w v l) (hl : l.length ≤ 64) (hb : ∀ x ∈ l, 0 ≤ x ∧ x ≤ 255) (kk : ∀ w', Below w.heap.size w w' → Q (.string (pad (strOfNums l)).1) w') : f50 v w Q := by
  unfold f50
  have bd : Below w.heap.size w (drw w) := ⟨rfl, rfl, rfl, Nat.le_refl _, fun _ _ => rfl⟩
  have e1 : IntKind.i64.wrap (64 - ((l.length : Nat) : Int)) = ((64 - l.length : Nat) : Int) := by rw [w64 (by omega) (by omega)]; omega
  rw [dr_q, idv_e]
  refine Eq.mpr (smr_run (run_cvb slt66 u5 st9 (rdI_below bd h))) ?_
  rw [idv_e]
  refine lnl_rd (rdI_below bd h) ?_
  try simp only [↓reduceIte, ↓LL, LM, Value.cells, Nat.reduceAdd, Option.some.injEq, exists_eq_left', decide_true, decide_false, if_true, if_false, reduceCtorEq, cond_true, cond_false, e1]
  refine rep_s (by omega) fun w1 b1 => ?_
  have b01 := bt bd b1
  rw [kp_e]
  refine ⟨run_cvb slt66 u5 st9 (rdI_below b01 h), ?_⟩
  rw [cat_e]
  refine ⟨by rw [son_size, zs_size]; omega, ?_⟩
  rw [pad_of hl hb]
  try simp only [↓reduceIte, ↓LL, LM, Value.cells, Nat.reduceAdd, Option.some.injEq, exists_eq_left', decide_true, decide_false, if_true, if_false, reduceCtorEq, cond_true, cond_false]
  exact kk w1 b01
theorem f21_s {p j : Int} (h : 0 ≤ p ∧ p ≤ 1000000) (hj : 0 ≤ j ∧ j ≤ 1000) (kk : Q (.int .i64 (126 + 4 * p + j)) w) : f21 (.int .i64 p) (.int .i64 j) w Q := by
  unfold f21
  have e1 : IntKind.i64.wrap (4 * p) = 4 * p := w64 (by omega) (by omega)
  have e2 : IntKind.i64.wrap (126 + 4 * p) = 126 + 4 * p := w64 (by omega) (by omega)
  have e3 : IntKind.i64.wrap (126 + 4 * p + j) = 126 + 4 * p + j := w64 (by omega) (by omega)
  try simp only [↓reduceIte, ↓LL, LM, Value.cells, Nat.reduceAdd, Option.some.injEq, exists_eq_left', decide_true, decide_false, if_true, if_false, reduceCtorEq, cond_true, cond_false, e1, e2, e3]
  exact kk
theorem f20_s {p j : Int} (h : 0 ≤ p ∧ p ≤ 1000000) (hj : 0 ≤ j ∧ j ≤ 1000) (kk : Q (.int .i64 (2 + 4 * p + j)) w) : f20 (.int .i64 p) (.int .i64 j) w Q := by
  unfold f20
  have e1 : IntKind.i64.wrap (4 * p) = 4 * p := w64 (by omega) (by omega)
  have e2 : IntKind.i64.wrap (2 + 4 * p) = 2 + 4 * p := w64 (by omega) (by omega)
  have e3 : IntKind.i64.wrap (2 + 4 * p + j) = 2 + 4 * p + j := w64 (by omega) (by omega)
  try simp only [↓reduceIte, ↓LL, LM, Value.cells, Nat.reduceAdd, Option.some.injEq, exists_eq_left', decide_true, decide_false, if_true, if_false, reduceCtorEq, cond_true, cond_false, e1, e2, e3]
  exact kk
theorem f22_s {p : Int} (h : 0 ≤ p ∧ p ≤ 1000000) (kk : Q (.int .i64 (126 + 4 * p)) w) : f22 (.int .i64 p) w Q := by
  unfold f22
  try simp only [↓reduceIte, ↓LL, LM, Value.cells, Nat.reduceAdd, Option.some.injEq, exists_eq_left', decide_true, decide_false, if_true, if_false, reduceCtorEq, cond_true, cond_false]
  refine f21_s h (by omega) ?_
  try simp only [↓reduceIte, ↓LL, LM, Value.cells, Nat.reduceAdd, Option.some.injEq, exists_eq_left', decide_true, decide_false, if_true, if_false, reduceCtorEq, cond_true, cond_false]
  rw [Int.add_zero]
  exact kk
def markB (b : Bool) : Sct := pad (if b = true then ⟨#[1]⟩ else ⟨#[]⟩)
theorem f18_s {b : Bool} (kk : ∀ w', Below w.heap.size w w' → Q (.string (markB b).1) w') : f18 (.bool b) w Q := by
  unfold f18
  cases b with
  | true =>
    try simp only [↓reduceIte, ↓LL, LM, Value.cells, Nat.reduceAdd, Option.some.injEq, exists_eq_left', decide_true, decide_false, if_true, if_false, reduceCtorEq, cond_true, cond_false]
    refine bsl1 slt66 rfl rfl ?_
    have b1 := b_psh w (.cells #[.int .u8 1] 5)
    have blk := blk_psh_new (w := w) (o := .cells #[.int .u8 1] 5)
    have hr : rdI .u8 (psh w (.cells #[.int .u8 1] 5)) (.slice (some ⟨w.heap.size, 0, none⟩) 1 1) [1] := by
      refine ⟨_, 1, rfl, fun i hi => ⟨_, rfl, ?_⟩⟩
      have : i = 0 := by simpa using hi
      subst this
      rw [add_lit, cell_of_blk blk]; rfl
    generalize psh w (.cells #[.int .u8 1] 5) = w1 at *
    try simp only [↓reduceIte, ↓LL, LM, Value.cells, Nat.reduceAdd, Option.some.injEq, exists_eq_left', decide_true, decide_false, if_true, if_false, reduceCtorEq, cond_true, cond_false]
    refine f50_s hr (by decide) (by decide) fun w2 b2 => ?_
    try simp only [↓reduceIte, ↓LL, LM, Value.cells, Nat.reduceAdd, Option.some.injEq, exists_eq_left', decide_true, decide_false, if_true, if_false, reduceCtorEq, cond_true, cond_false]
    exact kk w2 (bt b1 b2)
  | false =>
    try simp only [↓reduceIte, ↓LL, LM, Value.cells, Nat.reduceAdd, Option.some.injEq, exists_eq_left', decide_true, decide_false, if_true, if_false, reduceCtorEq, cond_true, cond_false]
    refine f50_s (l := []) ⟨none, 0, rfl, fun i hi => by simp at hi⟩ (by decide) (by decide) fun w2 b2 => ?_
    try simp only [↓reduceIte, ↓LL, LM, Value.cells, Nat.reduceAdd, Option.some.injEq, exists_eq_left', decide_true, decide_false, if_true, if_false, reduceCtorEq, cond_true, cond_false]
    exact kk w2 b2
def mkd (s : ByteArray) : Bool := match byL s with | [] => false | x :: _ => decide (x ≠ 0)
theorem mkd_nil {s : ByteArray} (h : s = ⟨#[]⟩) : mkd s = false := by rw [h]; rfl
theorem mkd_cons {s : ByteArray} {c : UInt8} (h : s[0]? = some c) : mkd s = decide ((c.toNat : Int) ≠ 0) := by
  have h0 : 0 < (byL s).length := by
    rw [byL_len]
    rcases Nat.eq_zero_or_pos s.size with e | e
    · rw [getElem?_neg s 0 (by omega)] at h; cases h
    · exact e
  obtain ⟨c', h1, h2⟩ := byL_get s 0 h0
  rw [h] at h1
  cases h1
  unfold mkd
  cases e : byL s with
  | nil => rw [e] at h0; simp at h0
  | cons x l =>
    have : x = (c.toNat : Int) := by
      have := h2
      simp only [e, List.getElem_cons_zero] at this
      exact this
    rw [this]
theorem f19_s {s : ByteArray} (kk : Q (.bool (mkd s)) w) : f19 (.string s) w Q := by
  unfold f19
  by_cases h : s = ⟨#[]⟩
  · rw [mkd_nil h] at kk
    try simp only [↓reduceIte, ↓LL, LM, Value.cells, Nat.reduceAdd, Option.some.injEq, exists_eq_left', decide_true, decide_false, if_true, if_false, reduceCtorEq, cond_true, cond_false, h, ne_eq]
    exact kk
  · have h0 : 0 < s.size := by
      rcases Nat.eq_zero_or_pos s.size with e | e
      · exact absurd (ByteArray.ext (Array.eq_empty_of_size_eq_zero e)) h
      · exact e
    have h1 : s[0]? = some s[0] := getElem?_pos s 0 h0
    rw [mkd_cons h1] at kk
    try simp only [↓reduceIte, ↓LL, LM, Value.cells, Nat.reduceAdd, Option.some.injEq, exists_eq_left', decide_true, decide_false, if_true, if_false, reduceCtorEq, cond_true, cond_false, h, ne_eq]
    refine ⟨s, _, _, _, rfl, rfl, by decide, h1, ?_⟩
    try simp only [↓reduceIte, ↓LL, LM, Value.cells, Nat.reduceAdd, Option.some.injEq, exists_eq_left', decide_true, decide_false, if_true, if_false, reduceCtorEq, cond_true, cond_false, ne_eq]
    try simp only [ne_eq, decide_not] at kk
    exact kk
end
end Go.Proofs.YtongpnolikkknaaDoor

set_option maxRecDepth 20000
set_option maxHeartbeats 4000000
namespace Go.Proofs.YtongpnolikkknaaDoor
open Sh RowKit Go.MapKept
theorem rightB_f {l : List Int} {i : Nat} (hi : i < l.length) (h : l[i] < 0 ∨ 65535 < l[i] ∨ l[i] ∈ l.take i) : rightB l = false := by
  refine decide_eq_false fun ⟨h1, h2⟩ => ?_
  have h3 := h2 _ (List.getElem_mem hi)
  rcases h with h | h | h
  · omega
  · omega
  · rw [← List.take_append_drop i l, List.nodup_append, List.drop_eq_getElem_cons hi] at h1
    exact h1.2.2 _ h _ List.mem_cons_self rfl
theorem rightB_t {l : List Int} (h : ∀ i (hi : i < l.length), 0 ≤ l[i] ∧ l[i] ≤ 65535 ∧ ¬ l[i] ∈ l.take i) : rightB l = true := by
  refine decide_eq_true ⟨?_, fun x hx => ?_⟩
  · rw [List.nodup_iff_pairwise_ne, List.pairwise_iff_getElem]
    intro i j hi hj hij e
    refine (h j hj).2.2 ?_
    rw [← e]
    exact List.mem_take_iff_getElem.2 ⟨i, by omega, rfl⟩
  · obtain ⟨i, hi, rfl⟩ := List.mem_iff_getElem.1 hx
    exact ⟨(h i hi).1, (h i hi).2.1⟩
section
variable {W w : World} {Q : Value → World → Prop}
theorem right_loop {v : Value} {l : List Int} {b : Nat} (h : rdI .i64 W v l) (hl : l.length ≤ 140737488355328) (hwf : ∀ x ∈ l, x ≤ 9223372036854775807) (hbB : W.heap.size ≤ b) : ∀ (d m i : Nat) (w : World) (L : List (Int × Value)), i + d = l.length → d < m → Below W.heap.size W w → MapAt kI w b L →
    (∀ k, lk L k = if k ∈ l.take i then some (.int .i64 1) else none) → (∀ j (hj : j < l.length), j < i → 0 ≤ l[j] ∧ l[j] ≤ 65535 ∧ ¬ l[j] ∈ l.take j) →
    (∀ w', Below W.heap.size W w' → Q (.bool (rightB l)) w') →
    itr (fun _ _ _ _ => bot) (f48_b2 f48_j1) m (.map (some b)) v (.int .i64 (l.length : Nat)) (.int .i64 (i : Int)) w Q := by
  intro d
  induction d with
  | zero =>
    intro m i w L hi hm hb hM hL hp kk
    obtain ⟨m, rfl⟩ : ∃ x, m = x + 1 := ⟨m - 1, by omega⟩
    show f48_b2 f48_j1 _ _ _ _ _ w Q
    unfold f48_b2
    have cc : ¬ (i : Int) < (l.length : Nat) := by omega
    try simp only [↓reduceIte, ↓LL, LM, Value.cells, Nat.reduceAdd, Option.some.injEq, exists_eq_left', decide_true, decide_false, if_true, if_false, reduceCtorEq, cond_true, cond_false, cc]
    unfold f48_j1
    try simp only [↓reduceIte, ↓LL, LM, Value.cells, Nat.reduceAdd, Option.some.injEq, exists_eq_left', decide_true, decide_false, if_true, if_false, reduceCtorEq, cond_true, cond_false]
    have := kk w hb
    rw [rightB_t fun j hj => hp j hj (by omega)] at this
    exact this
  | succ d ih =>
    intro m i w L hi hm hb hM hL hp kk
    obtain ⟨m, rfl⟩ : ∃ x, m = x + 1 := ⟨m - 1, by omega⟩
    show f48_b2 f48_j1 _ _ _ _ _ w Q
    unfold f48_b2
    have cc : (i : Int) < (l.length : Nat) := by omega
    have hil : i < l.length := by omega
    have h3 : IntKind.i64.wrap ((i : Int) + 1) = ((i + 1 : Nat) : Int) := by rw [w64 (by omega) (by omega)]; rfl
    try simp only [↓reduceIte, ↓LL, LM, Value.cells, Nat.reduceAdd, Option.some.injEq, exists_eq_left', decide_true, decide_false, if_true, if_false, reduceCtorEq, cond_true, cond_false, cc]
    refine ia_ld (rdI_below hb h) (by omega) (by omega) fun hh => ?_
    have ek : l[((i : Nat) : Int).toNat] = l[i] := by simp
    rw [ek]
    have fal := fun hx => rightB_f hil hx
    have hpi : ∀ (h1 : 0 ≤ l[i] ∧ l[i] ≤ 65535 ∧ ¬ l[i] ∈ l.take i), ∀ j (hj : j < l.length), j < i + 1 → 0 ≤ l[j] ∧ l[j] ≤ 65535 ∧ ¬ l[j] ∈ l.take j := fun h1 j hj hji => by
      rcases Nat.lt_or_ge j i with c | c
      · exact hp j hj c
      · have : j = i := by omega
        subst this; exact h1
    have hts : l.take (i + 1) = l.take i ++ [l[i]] := List.take_succ_eq_append_getElem hil
    have hwx := hwf _ (List.getElem_mem hil)
    generalize l[i] = x at *
    have hlx := hL x
    rw [show (Value.int .i64 x) = kI x from rfl, look_v KKi hM z3 x]
    -- what was counted, one more
    obtain ⟨c, hc1, hc2, hcv⟩ : ∃ c : Int, (lk L x).getD (.int .i64 0) = .int .i64 c ∧ IntKind.i64.wrap (c + 1) = c + 1 ∧ (c = if x ∈ l.take i then 1 else 0) := by
      by_cases hm : x ∈ l.take i
      · rw [if_pos hm] at hlx; exact ⟨1, by rw [hlx]; rfl, rfl, by rw [if_pos hm]⟩
      · rw [if_neg hm] at hlx; exact ⟨0, by rw [hlx]; rfl, rfl, by rw [if_neg hm]⟩
    rw [hc1]
    try simp only [↓reduceIte, ↓LL, LM, Value.cells, Nat.reduceAdd, Option.some.injEq, exists_eq_left', decide_true, decide_false, if_true, if_false, reduceCtorEq, cond_true, cond_false, hc2]
    refine upd_map KKi hM x _ fun w2 hM2 u2 => ?_
    have b2 : Below W.heap.size W w2 := hb.trans (u2.below hbB)
    have f0 := fun hx => by have := kk w2 b2; rw [fal hx] at this; exact this
    have hl2 : lk (put L x (.int .i64 (c + 1))) x = some (.int .i64 (c + 1)) := by rw [lk_put, if_pos rfl]
    have hlook : ∀ (K : Value → M), smr Tryd.prog (Instr.lookup 118 (.map (some b)) (.int .i64 x) false) K w2 Q = K (.int .i64 (c + 1)) w2 Q := fun K => by
      rw [show (Value.int .i64 x) = kI x from rfl, look_v KKi hM2 z3 x, hl2]; rfl
    unfold kI
    by_cases c1 : x < 0
    · try simp only [↓reduceIte, ↓LL, LM, Value.cells, Nat.reduceAdd, Option.some.injEq, exists_eq_left', decide_true, decide_false, if_true, if_false, reduceCtorEq, cond_true, cond_false, c1]
      exact f0 (.inl c1)
    have ex : IntKind.u64.wrap x = ((x.toNat : Nat) : Int) := by rw [wu64 (by omega) (by omega)]; omega
    try simp only [↓reduceIte, ↓LL, LM, Value.cells, Nat.reduceAdd, Option.some.injEq, exists_eq_left', decide_true, decide_false, if_true, if_false, reduceCtorEq, cond_true, cond_false, c1, ex]
    refine f76_s _ (by omega) 2 _ _ ?_
    by_cases c2 : x.toNat < 256 ^ 2
    · have e2 : fitB x.toNat 2 = true := decide_eq_true (by rw [wd2]; exact c2)
      rw [e2]
      by_cases hm : x ∈ l.take i
      · rw [if_pos hm] at hcv
        subst hcv
        have g2 : (1 : Int) < 1 + 1 := by decide
        try simp only [↓reduceIte, ↓LL, LM, Value.cells, Nat.reduceAdd, Option.some.injEq, exists_eq_left', decide_true, decide_false, if_true, if_false, reduceCtorEq, cond_true, cond_false, hlook, g2]
        exact f0 (.inr (.inr hm))
      · rw [if_neg hm] at hcv
        subst hcv
        have g2 : ¬ (1 : Int) < 0 + 1 := by decide
        try simp only [↓reduceIte, ↓LL, LM, Value.cells, Nat.reduceAdd, Option.some.injEq, exists_eq_left', decide_true, decide_false, if_true, if_false, reduceCtorEq, cond_true, cond_false, hlook, g2, h3]
        refine ih m (i + 1) w2 _ (by omega) (by omega) b2 hM2 (fun k => ?_) (hpi ⟨by omega, by omega, hm⟩) kk
        rw [lk_put, hts, hL]
        by_cases hk : k = x
        · subst hk; simp
        · simp [hk]
    · have e2 : fitB x.toNat 2 = false := decide_eq_false (by rw [wd2]; exact c2)
      rw [e2]
      try simp only [↓reduceIte, ↓LL, LM, Value.cells, Nat.reduceAdd, Option.some.injEq, exists_eq_left', decide_true, decide_false, if_true, if_false, reduceCtorEq, cond_true, cond_false]
      exact f0 (.inr (.inl (by omega)))
theorem f48_s {v : Value} {l : List Int} (h : rdI .i64 w v l) (hl : l.length ≤ 140737488355328) (hwf : ∀ x ∈ l, x ≤ 9223372036854775807) (kk : ∀ w', Below w.heap.size w w' → Q (.bool (rightB l)) w') : f48 v w Q := by
  unfold f48
  refine mm_map (kv := kI) fun w1 hM b1 => ?_
  refine lnl_rd h ?_
  try simp only [↓reduceIte, ↓LL, LM, Value.cells, Nat.reduceAdd, Option.some.injEq, exists_eq_left', decide_true, decide_false, if_true, if_false, reduceCtorEq, cond_true, cond_false]
  exact ⟨_, right_loop (W := w) h hl hwf (Nat.le_refl _) l.length (l.length + 1) 0 w1 [] (by omega) (by omega) b1 hM (fun k => by simp [lk]) (fun j hj h => by omega) kk⟩
/-- a directory's bytes -/
def dirL (l : List Int) : List Int := (l.length : Int) :: l.flatMap fun x => nb x.toNat 2
theorem dirL_len (l : List Int) : (dirL l).length = 1 + 2 * l.length := by
  unfold dirL
  rw [List.length_cons]
  have : ∀ l : List Int, (l.flatMap fun x => nb x.toNat 2).length = 2 * l.length := by
    intro l
    induction l with
    | nil => rfl
    | cons x l ih => rw [List.flatMap_cons, List.length_append, nb_len, ih, List.length_cons]; omega
  rw [this]; omega
theorem dirL_bd {l : List Int} (h : l.length ≤ 31) : ∀ x ∈ dirL l, 0 ≤ x ∧ x ≤ 255 := by
  intro x hx
  rcases List.mem_cons.1 hx with rfl | hx
  · omega
  · obtain ⟨y, _, hy⟩ := List.mem_flatMap.1 hx
    exact nb_bd _ _ x hy
/-- a directory as a sector, or why not -/
def dirW (l : List Int) : ByteArray × Int := if 31 < l.length then (⟨#[]⟩, 3) else if rightB l = true then ((pad (strOfNums (dirL l))).1, 0) else (⟨#[]⟩, 1)
theorem write_loop {v : Value} {l : List Int} (h : rdI .i64 W v l) (hl : l.length ≤ 31) (hwf : ∀ x ∈ l, 0 ≤ x ∧ x ≤ 65535) {j1 : Value → M} : ∀ (d m i : Nat) (w : World) (u : Value), i + d = l.length → d < m → Below W.heap.size W w → ownI W.heap.size 5 .u8 w u (((l.length : Nat) : Int) :: (l.take i).flatMap fun x => nb x.toNat 2) →
    (∀ w' u', Below W.heap.size W w' → ownI W.heap.size 5 .u8 w' u' (dirL l) → j1 u' w' Q) →
    itr (fun _ _ _ _ => bot) (f13_b2 j1) m u v (.int .i64 (l.length : Nat)) (.int .i64 (i : Int)) w Q := by
  intro d
  induction d with
  | zero =>
    intro m i w u hi hm hb ho kk
    obtain ⟨m, rfl⟩ : ∃ x, m = x + 1 := ⟨m - 1, by omega⟩
    show f13_b2 j1 _ _ _ _ _ w Q
    unfold f13_b2
    have cc : ¬ (i : Int) < (l.length : Nat) := by omega
    try simp only [↓reduceIte, ↓LL, LM, Value.cells, Nat.reduceAdd, Option.some.injEq, exists_eq_left', decide_true, decide_false, if_true, if_false, reduceCtorEq, cond_true, cond_false, cc]
    rw [List.take_of_length_le (by omega)] at ho
    exact kk w u hb ho
  | succ d ih =>
    intro m i w u hi hm hb ho kk
    obtain ⟨m, rfl⟩ : ∃ x, m = x + 1 := ⟨m - 1, by omega⟩
    show f13_b2 j1 _ _ _ _ _ w Q
    unfold f13_b2
    have cc : (i : Int) < (l.length : Nat) := by omega
    have hil : i < l.length := by omega
    have h3 : IntKind.i64.wrap ((i : Int) + 1) = ((i + 1 : Nat) : Int) := by rw [w64 (by omega) (by omega)]; rfl
    have hwx := hwf _ (List.getElem_mem hil)
    have hts : (l.take (i + 1)).flatMap (fun x => nb x.toNat 2) = (l.take i).flatMap (fun x => nb x.toNat 2) ++ nb l[i].toNat 2 := by rw [List.take_succ_eq_append_getElem hil, List.flatMap_append]; simp
    have hlen := dirL_len (l.take i)
    unfold dirL at hlen
    rw [List.length_cons, List.length_take] at hlen
    try simp only [↓reduceIte, ↓LL, LM, Value.cells, Nat.reduceAdd, Option.some.injEq, exists_eq_left', decide_true, decide_false, if_true, if_false, reduceCtorEq, cond_true, cond_false, cc]
    refine ia_ld (rdI_below hb h) (by omega) (by omega) fun hh => ?_
    have ek : l[((i : Nat) : Int).toNat] = l[i] := by simp
    have ex : IntKind.u64.wrap l[i] = ((l[i].toNat : Nat) : Int) := by rw [wu64 (by omega) (by omega)]; omega
    rw [ek]
    try simp only [↓reduceIte, ↓LL, LM, Value.cells, Nat.reduceAdd, Option.some.injEq, exists_eq_left', decide_true, decide_false, if_true, if_false, reduceCtorEq, cond_true, cond_false, ex]
    refine f49_s _ 2 _ _ _ _ hb.size ho (by rw [List.length_cons]; omega) fun u' w1 o1 b1 => ?_
    rw [wd2] at o1
    have e2 : (2 : Int).toNat = 2 := rfl
    rw [e2, List.cons_append, ← hts] at o1
    try simp only [↓reduceIte, ↓LL, LM, Value.cells, Nat.reduceAdd, Option.some.injEq, exists_eq_left', decide_true, decide_false, if_true, if_false, reduceCtorEq, cond_true, cond_false, h3]
    exact ih m (i + 1) w1 u' (by omega) (by omega) (hb.trans b1) o1 kk
theorem f13_s {v : Value} {l : List Int} (h : rdI .i64 w v l) (hl : l.length ≤ 140737488355328) (hwf : ∀ x ∈ l, x ≤ 9223372036854775807) (kk : ∀ w', Below w.heap.size w w' → Q (.tuple #[.string (dirW l).1, .int .i64 (dirW l).2]) w') : f13 v w Q := by
  unfold f13
  refine lnl_rd h ?_
  unfold dirW at kk
  by_cases c1 : 31 < l.length
  · have c1' : (31 : Int) < (l.length : Nat) := by omega
    simp only [if_pos c1] at kk
    try simp only [↓reduceIte, ↓LL, LM, Value.cells, Nat.reduceAdd, Option.some.injEq, exists_eq_left', decide_true, decide_false, if_true, if_false, reduceCtorEq, cond_true, cond_false, c1']
    exact kk w (Below.refl _ _)
  have c1' : ¬ (31 : Int) < (l.length : Nat) := by omega
  simp only [if_neg c1] at kk
  try simp only [↓reduceIte, ↓LL, LM, Value.cells, Nat.reduceAdd, Option.some.injEq, exists_eq_left', decide_true, decide_false, if_true, if_false, reduceCtorEq, cond_true, cond_false, c1']
  refine f48_s h hl hwf fun w1 b1 => ?_
  cases hr : rightB l with
  | false =>
    simp only [hr, if_neg (show ¬ false = true by simp)] at kk
    try simp only [↓reduceIte, ↓LL, LM, Value.cells, Nat.reduceAdd, Option.some.injEq, exists_eq_left', decide_true, decide_false, if_true, if_false, reduceCtorEq, cond_true, cond_false]
    exact kk w1 b1
  | true =>
    simp only [hr, if_pos] at kk
    try simp only [↓reduceIte, ↓LL, LM, Value.cells, Nat.reduceAdd, Option.some.injEq, exists_eq_left', decide_true, decide_false, if_true, if_false, reduceCtorEq, cond_true, cond_false]
    refine lnl_rd (rdI_below b1 h) ?_
    have hrr := of_decide_eq_true hr
    have e1 : IntKind.u8.wrap ((l.length : Nat) : Int) = ((l.length : Nat) : Int) := by rw [wrap_u8]; omega
    try simp only [↓reduceIte, ↓LL, LM, Value.cells, Nat.reduceAdd, Option.some.injEq, exists_eq_left', decide_true, decide_false, if_true, if_false, reduceCtorEq, cond_true, cond_false, e1]
    refine bsl1 slt66 rfl rfl ?_
    have b2 := b_psh w1 (.cells #[.int .u8 ((l.length : Nat) : Int)] 5)
    have o2 : ownI w1.heap.size 5 .u8 (psh w1 (.cells #[.int .u8 ((l.length : Nat) : Int)] 5)) (.slice (some ⟨w1.heap.size, 0, none⟩) 1 1) [((l.length : Nat) : Int)] := ownI_lit (l := [((l.length : Nat) : Int)]) (Nat.le_refl _) (by unfold maxLen; simp)
    generalize psh w1 (.cells #[.int .u8 ((l.length : Nat) : Int)] 5) = w2 at *
    have b12 := bt b1 b2
    refine lnl_rd (rdI_below b12 h) ?_
    try simp only [↓reduceIte, ↓LL, LM, Value.cells, Nat.reduceAdd, Option.some.injEq, exists_eq_left', decide_true, decide_false, if_true, if_false, reduceCtorEq, cond_true, cond_false]
    refine ⟨_, write_loop (W := w1) (Q := Q) (j1 := f13_j1) (rdI_below b1 h) (by omega) hrr.2 l.length (l.length + 1) 0 w2 _ (by omega) (by omega) b2 (by simpa using o2) fun w3 u3 b3 o3 => ?_⟩
    unfold f13_j1
    have dl := dirL_len l
    try simp only [↓reduceIte, ↓LL, LM, Value.cells, Nat.reduceAdd, Option.some.injEq, exists_eq_left', decide_true, decide_false, if_true, if_false, reduceCtorEq, cond_true, cond_false]
    refine f50_s (ownI_rd o3) (by omega) (dirL_bd (by omega)) fun w4 b4 => ?_
    try simp only [↓reduceIte, ↓LL, LM, Value.cells, Nat.reduceAdd, Option.some.injEq, exists_eq_left', decide_true, decide_false, if_true, if_false, reduceCtorEq, cond_true, cond_false]
    exact kk w4 (bt b1 (bt b3 b4))
end
end Go.Proofs.YtongpnolikkknaaDoor

set_option maxRecDepth 20000
set_option maxHeartbeats 4000000
namespace Go.Proofs.YtongpnolikkknaaDoor
open Sh RowKit Go.MapKept
theorem own_ne {w : World} {k : IntKind} {e e2 : TypeId} {B2 : Nat} {u : Value} {l : List Int} {g : Nat} {cur : Array Value} (h : ownI B2 e2 k w u l) (hg : w.heap[g]? = some (.cells cur e (0, 0))) (he : e ≠ e2) : u.ownBlock ≠ some g := by
  intro e'
  obtain ⟨_, h2⟩ := h
  rcases h2 with ⟨rfl, _⟩ | ⟨g', cap, cur', rfl, _, hb, _⟩
  · cases e'
  · cases e'
    rw [hg] at hb
    cases hb
    exact he rfl
/-- so many numbers of two bytes, read -/
def rdN : Nat → ByteArray → Int → List Int × ByteArray × Int
  | 0, t, e => ([], t, e)
  | n + 1, t, e => (((ofB (byL (take t e 2).1) 0 : Nat) : Int) :: (rdN n (take t e 2).2.2.1 (take t e 2).2.2.2).1, (rdN n (take t e 2).2.2.1 (take t e 2).2.2.2).2)
def n1 (s : ByteArray) : Nat := ofB (byL (take s 0 1).1) 0
def rdA (s : ByteArray) : List Int × ByteArray × Int := rdN (n1 s) (take s 0 1).2.2.1 (take s 0 1).2.2.2
def blank (s : ByteArray) : Bool := (byL s).all fun x => decide (x = 0)
/-- is it a directory? -/
def dirB (s : ByteArray) : Bool := decide ((rdA s).2.2 = 0 ∧ n1 s ≤ 31 ∧ rightB (rdA s).1 = true ∧ s.size = 64 ∧ blank (take (rdA s).2.1 (rdA s).2.2 (rdA s).2.1.size).1 = true)
theorem ofB_lt : ∀ (l : List Int) (n k : Nat), (∀ x ∈ l, 0 ≤ x ∧ x ≤ 255) → n < 256 ^ k → ofB l n < 256 ^ (k + l.length)
  | [], n, k, _, h => by simpa [ofB] using h
  | x :: r, n, k, hb, h => by
    have hx := hb x (by simp)
    have := ofB_lt r (256 * n + x.toNat) (k + 1) (fun y hy => hb y (by simp [hy])) (by rw [Nat.pow_succ]; omega)
    rw [List.length_cons, show k + (r.length + 1) = k + 1 + r.length from by omega]
    exact this
theorem take_lt (s : ByteArray) (e : Int) (k : Nat) : ofB (byL (take s e k).1) 0 < 256 ^ k := by
  have h1 := ofB_lt (byL (take s e k).1) 0 0 (fun x hx => byL_nn hx) (by simp)
  rw [Nat.zero_add, byL_len] at h1
  exact Nat.lt_of_lt_of_le h1 (Nat.pow_le_pow_right (by decide) (take_size s e k))
theorem n1_lt (s : ByteArray) : n1 s < 256 := by have := take_lt s 0 1; simpa [n1] using this
theorem rdN_len : ∀ (n : Nat) (t : ByteArray) (e : Int), (rdN n t e).1.length = n
  | 0, _, _ => rfl
  | n + 1, t, e => by simp [rdN, rdN_len n]
theorem take_rest (s : ByteArray) (e : Int) (k : Nat) : (take s e k).2.2.1.size ≤ s.size := by
  unfold take
  by_cases h : e = 0
  · rw [if_pos h]
    by_cases h2 : s.size < k
    · rw [if_pos h2]; exact Nat.le_refl _
    · rw [if_neg h2]
      show (s.extract k s.size).size ≤ s.size
      rw [ByteArray.size_extract]; omega
  · rw [if_neg h]; exact Nat.le_refl _
theorem rdN_rest : ∀ (n : Nat) (t : ByteArray) (e : Int), (rdN n t e).2.1.size ≤ t.size
  | 0, _, _ => Nat.le_refl _
  | n + 1, t, e => Nat.le_trans (rdN_rest n _ _) (take_rest t e 2)
theorem rdN_bd : ∀ (n : Nat) (t : ByteArray) (e : Int), ∀ x ∈ (rdN n t e).1, 0 ≤ x ∧ x ≤ 65535
  | 0, _, _, x, h => by simp [rdN] at h
  | n + 1, t, e, x, h => by
    simp only [rdN] at h
    rcases List.mem_cons.1 h with rfl | h
    · have := take_lt t e 2; omega
    · exact rdN_bd n _ _ x h
theorem trim_blank (s : ByteArray) : (⟨(Lib.trimB s.data.toList 0).toArray⟩ : ByteArray) = ⟨#[]⟩ ↔ blank s = true := by
  have hb : blank s = true ↔ ∀ b ∈ s.data.toList, b = 0 := by
    unfold blank byL
    rw [List.all_map, List.all_eq_true]
    constructor
    · intro h b hb
      have := of_decide_eq_true (h b hb)
      exact UInt8.toNat_inj.1 (by simpa using this)
    · intro h b hb
      rw [h b hb]; rfl
  rw [hb]
  have hdw : ∀ l : List UInt8, l.dropWhile (· == 0) = [] ↔ ∀ b ∈ l, b = 0 := by
    intro l
    induction l with
    | nil => simp
    | cons x l ih =>
      rw [List.dropWhile_cons]
      by_cases hx : x = 0
      · simp [hx, ih]
      · simp [hx]
  have key : Lib.trimB s.data.toList 0 = [] ↔ ∀ b ∈ s.data.toList, b = 0 := by
    unfold Lib.trimB Lib.trimLeftB Lib.trimRightB
    rw [hdw]
    constructor
    · intro h
      have h2 : (s.data.toList.reverse.dropWhile (· == 0)) = [] := by
        cases e : s.data.toList.reverse.dropWhile (· == 0) with
        | nil => rfl
        | cons x r =>
          exfalso
          have hx : x = 0 := h x (by rw [e]; simp)
          have := List.head_dropWhile_not (p := fun b : UInt8 => b == 0) (l := s.data.toList.reverse) (by rw [e]; simp)
          simp only [e, List.head_cons] at this
          rw [hx] at this
          simp at this
      intro b hb
      exact (hdw _).1 h2 b (List.mem_reverse.2 hb)
    · intro h b hb
      have : b ∈ s.data.toList.reverse := (List.dropWhile_sublist _).subset (List.mem_reverse.1 hb)
      exact h b (List.mem_reverse.1 this)
  rw [← key]
  constructor
  · intro h
    have := congrArg (fun s => s.data.toList) h
    simpa using this
  · intro h
    rw [h]
section
variable {W w : World} {Q : Value → World → Prop}
theorem trim_s {s : ByteArray} {K : Value → M} (hs : s.size ≤ 9223372036854775807) (kk : ∀ w' t, (t = ⟨#[]⟩ ↔ blank s = true) → Below w.heap.size w w' → K (.string t) w' Q) : cc Tryd.prog 58 #[.string s, .string ⟨#[0]⟩] K w Q := by
  refine cc_of (Tryd.strings_Trim_one s 0 (by decide) w hs) fun e w' h => ?_
  obtain ⟨h1, h2⟩ := h
  refine ⟨_, h1, kk w' _ (trim_blank s) ?_⟩
  rcases h2 with rfl | rfl
  · exact Below.refl _ _
  · exact ⟨rfl, rfl, rfl, Nat.le_refl _, fun _ _ => rfl⟩
theorem read_loop {sv : Value} {p n : Nat} {nv : Value} (hpB : W.heap.size ≤ p) (hn : n ≤ 255) {j1 : Value → Value → Value → Value → M} : ∀ (d m i : Nat) (w : World) (u : Value) (acc : List Int) (t : ByteArray) (e : Int), i + d = n → d < m → Below W.heap.size W w → ownI W.heap.size 3 .i64 w u acc → acc.length = i →
    w.heap[p]? = some (.cells (rC t e) 122 (0, 0)) →
    (∀ w' u', Below W.heap.size W w' → ownI W.heap.size 3 .i64 w' u' (acc ++ (rdN d t e).1) → w'.heap[p]? = some (.cells (rC (rdN d t e).2.1 (rdN d t e).2.2) 122 (0, 0)) → j1 sv (.pointer (some ⟨p, 0, none⟩)) u' nv w' Q) →
    itr (fun _ _ _ _ _ _ => bot) (f15_b2 j1) m sv (.pointer (some ⟨p, 0, none⟩)) u nv (.int .u64 (n : Int)) (.int .u64 (i : Int)) w Q := by
  intro d
  induction d with
  | zero =>
    intro m i w u acc t e hi hm hb ho hl hp kk
    obtain ⟨m, rfl⟩ : ∃ x, m = x + 1 := ⟨m - 1, by omega⟩
    show f15_b2 j1 _ _ _ _ _ _ _ w Q
    unfold f15_b2
    have cc : ¬ (i : Int) < (n : Int) := by omega
    try simp only [↓reduceIte, ↓LL, LM, Value.cells, Nat.reduceAdd, Option.some.injEq, exists_eq_left', decide_true, decide_false, if_true, if_false, reduceCtorEq, cond_true, cond_false, cc]
    exact kk w u hb (by simpa [rdN] using ho) hp
  | succ d ih =>
    intro m i w u acc t e hi hm hb ho hl hp kk
    obtain ⟨m, rfl⟩ : ∃ x, m = x + 1 := ⟨m - 1, by omega⟩
    show f15_b2 j1 _ _ _ _ _ _ _ w Q
    unfold f15_b2
    have cc : (i : Int) < (n : Int) := by omega
    have h3 : IntKind.u64.wrap ((i : Int) + 1) = ((i + 1 : Nat) : Int) := by rw [wu64 (by omega) (by omega)]; rfl
    try simp only [↓reduceIte, ↓LL, LM, Value.cells, Nat.reduceAdd, Option.some.injEq, exists_eq_left', decide_true, decide_false, if_true, if_false, reduceCtorEq, cond_true, cond_false, cc]
    refine f54_s p t e 2 w _ hp fun w1 hp1 c1 => ?_
    have hlt := take_lt t e 2
    have e2 : (wd 2).toNat = 2 := rfl
    rw [e2] at hp1 ⊢
    have e3 : IntKind.i64.wrap ((ofB (byL (take t e 2).1) 0 : Nat) : Int) = ((ofB (byL (take t e 2).1) 0 : Nat) : Int) := w64 (by omega) (by omega)
    have hne := own_ne ho hp (by decide)
    have o1 := ownI_chg ho c1 hne
    have b1 : Below W.heap.size W w1 := bc hb hpB hb.size c1
    try simp only [↓reduceIte, ↓LL, LM, Value.cells, Nat.reduceAdd, Option.some.injEq, exists_eq_left', decide_true, decide_false, if_true, if_false, reduceCtorEq, cond_true, cond_false, e3]
    refine ap_one slt22 o1 (by omega) (by omega) b1.size fun u' w2 o2 b2 _ st2 => ?_
    have hne1 := own_ne o1 hp1 (by decide)
    have hp2 := st2 p _ hp1 hne1
    try simp only [↓reduceIte, ↓LL, LM, Value.cells, Nat.reduceAdd, Option.some.injEq, exists_eq_left', decide_true, decide_false, if_true, if_false, reduceCtorEq, cond_true, cond_false, h3]
    refine ih m (i + 1) w2 u' _ _ _ (by omega) (by omega) (b1.trans b2) o2 (by simp [hl]) hp2 fun w' u' b' o' p' => ?_
    refine kk w' u' b' ?_ p'
    rw [List.append_assoc] at o'
    exact o'
theorem f15_s {s : ByteArray} (hs : s.size ≤ 9223372036854775807) (kk : ∀ w', Below w.heap.size w w' → dirB s = false → Q (.tuple #[.slice none 0 0, .int .i64 10]) w') (k0 : ∀ w' u, Below w.heap.size w w' → dirB s = true → ownI w.heap.size 3 .i64 w' u (rdA s).1 → Q (.tuple #[u, .int .i64 0]) w') : f15 (.string s) w Q := by
  unfold f15
  try simp only [↓reduceIte, ↓LL, LM, Value.cells, Nat.reduceAdd, Option.some.injEq, exists_eq_left', decide_true, decide_false, if_true, if_false, reduceCtorEq, cond_true, cond_false]
  refine f53_s s w _ fun p w1 hpe hp1 b1 => ?_
  try simp only [↓reduceIte, ↓LL, LM, Value.cells, Nat.reduceAdd, Option.some.injEq, exists_eq_left', decide_true, decide_false, if_true, if_false, reduceCtorEq, cond_true, cond_false]
  refine f54_s p s 0 1 w1 _ hp1 fun w2 hp2 c2 => ?_
  have e1 : (wd 1).toNat = 1 := rfl
  rw [e1] at hp2 ⊢
  have hpB : w.heap.size ≤ p := by omega
  have b2 : Below w.heap.size w w2 := bc b1 hpB b1.size c2
  have hn1 := n1_lt s
  try simp only [↓reduceIte, ↓LL, LM, Value.cells, Nat.reduceAdd, Option.some.injEq, exists_eq_left', decide_true, decide_false, if_true, if_false, reduceCtorEq, cond_true, cond_false]
  have := read_loop (W := w) (Q := Q) (sv := .string s) (p := p) (n := n1 s) (nv := .int .u64 ((n1 s : Nat) : Int)) (j1 := f15_j1) hpB (by omega) (n1 s) (n1 s + 1) 0 w2 (.slice none 0 0) [] (take s 0 1).2.2.1 (take s 0 1).2.2.2 (by omega) (by omega) b2 ownI_nil rfl hp2 fun w3 u3 b3 o3 hp3 => ?_
  · exact ⟨_, this⟩
  rw [List.nil_append] at o3
  have hp3 : w3.heap[p]? = some (.cells (rC (rdA s).2.1 (rdA s).2.2) 122 (0, 0)) := hp3
  have o3 : ownI w.heap.size 3 .i64 w3 u3 (rdA s).1 := o3
  have hl3 : (rdA s).1.length = n1 s := rdN_len _ _ _
  have hbd : ∀ x ∈ (rdA s).1, 0 ≤ x ∧ x ≤ 65535 := rdN_bd _ _ _
  unfold f15_j1
  try simp only [↓reduceIte, ↓LL, LM, Value.cells, Nat.reduceAdd, Option.some.injEq, exists_eq_left', decide_true, decide_false, if_true, if_false, reduceCtorEq, cond_true, cond_false]
  refine f56_s p _ _ w3 _ hp3 ?_
  try simp only [↓reduceIte, ↓LL, LM, Value.cells, Nat.reduceAdd, Option.some.injEq, exists_eq_left', decide_true, decide_false, if_true, if_false, reduceCtorEq, cond_true, cond_false]
  refine f55_s p _ _ _ w3 _ hp3 fun w4 hp4 c4 => ?_
  rw [Int.toNat_natCast] at hp4 ⊢
  have b4 : Below w.heap.size w w4 := bc b3 hpB b3.size c4
  have o4 := ownI_chg o3 c4 (own_ne o3 hp3 (by decide))
  have esz : ∀ (t : ByteArray) (e : Int), (take t e t.size).2.2.2 = e := fun t e => by
    unfold take
    by_cases h : e = 0
    · rw [if_pos h, if_neg (by omega)]; exact h.symm
    · rw [if_neg h]
  rw [esz] at hp4
  try simp only [↓reduceIte, ↓LL, LM, Value.cells, Nat.reduceAdd, Option.some.injEq, exists_eq_left', decide_true, decide_false, if_true, if_false, reduceCtorEq, cond_true, cond_false]
  refine f57_s p _ _ w4 _ hp4 ?_
  have kf := fun w' hb => kk w' hb
  by_cases z1 : (rdA s).2.2 = 0
  rotate_left
  · try simp only [↓reduceIte, ↓LL, LM, Value.cells, Nat.reduceAdd, Option.some.injEq, exists_eq_left', decide_true, decide_false, if_true, if_false, reduceCtorEq, cond_true, cond_false, z1, ne_eq]
    exact kk w4 b4 (decide_eq_false fun h => z1 h.1)
  by_cases z2 : n1 s ≤ 31
  rotate_left
  · have z2' : (31 : Int) < ((n1 s : Nat) : Int) := by omega
    try simp only [↓reduceIte, ↓LL, LM, Value.cells, Nat.reduceAdd, Option.some.injEq, exists_eq_left', decide_true, decide_false, if_true, if_false, reduceCtorEq, cond_true, cond_false, z1, z2', ne_eq]
    exact kk w4 b4 (decide_eq_false fun h => z2 h.2.1)
  have z2' : ¬ (31 : Int) < ((n1 s : Nat) : Int) := by omega
  try simp only [↓reduceIte, ↓LL, LM, Value.cells, Nat.reduceAdd, Option.some.injEq, exists_eq_left', decide_true, decide_false, if_true, if_false, reduceCtorEq, cond_true, cond_false, z1, z2', ne_eq]
  refine f48_s (ownI_rd o4) (by omega) (fun x hx => by have := hbd x hx; omega) fun w5 b5 => ?_
  have b45 := bt b4 b5
  cases z3 : rightB (rdA s).1 with
  | false =>
    try simp only [↓reduceIte, ↓LL, LM, Value.cells, Nat.reduceAdd, Option.some.injEq, exists_eq_left', decide_true, decide_false, if_true, if_false, reduceCtorEq, cond_true, cond_false]
    exact kk w5 b45 (decide_eq_false fun h => by rw [z3] at h; cases h.2.2.1)
  | true =>
    by_cases z4 : s.size = 64
    rotate_left
    · have z4' : ¬ ((s.size : Nat) : Int) = 64 := by omega
      try simp only [↓reduceIte, ↓LL, LM, Value.cells, Nat.reduceAdd, Option.some.injEq, exists_eq_left', decide_true, decide_false, if_true, if_false, reduceCtorEq, cond_true, cond_false, z4', ne_eq]
      exact kk w5 b45 (decide_eq_false fun h => z4 h.2.2.2.1)
    have z4' : ((s.size : Nat) : Int) = 64 := by omega
    try simp only [↓reduceIte, ↓LL, LM, Value.cells, Nat.reduceAdd, Option.some.injEq, exists_eq_left', decide_true, decide_false, if_true, if_false, reduceCtorEq, cond_true, cond_false, z4', ne_eq]
    have hts := take_size (rdA s).2.1 0 (rdA s).2.1.size
    refine trim_s (Nat.le_trans hts (Nat.le_trans (rdN_rest _ _ _) (Nat.le_trans (take_rest _ _ _) hs))) fun w6 t ht b6' => ?_
    have b6 := bt b45 b6'
    by_cases z5 : t = ⟨#[]⟩
    · try simp only [↓reduceIte, ↓LL, LM, Value.cells, Nat.reduceAdd, Option.some.injEq, exists_eq_left', decide_true, decide_false, if_true, if_false, reduceCtorEq, cond_true, cond_false, z5, ne_eq]
      refine k0 w6 u3 b6 ?_ (ownI_below (ownI_below o4 b5) b6')
      exact decide_eq_true ⟨z1, z2, z3, z4, by rw [z1]; exact ht.1 z5⟩
    · try simp only [↓reduceIte, ↓LL, LM, Value.cells, Nat.reduceAdd, Option.some.injEq, exists_eq_left', decide_true, decide_false, if_true, if_false, reduceCtorEq, cond_true, cond_false, z5, ne_eq]
      exact kk w6 b6 (decide_eq_false fun h => z5 (ht.2 (by have := h.2.2.2.2; rw [z1] at this; exact this)))
end
end Go.Proofs.YtongpnolikkknaaDoor

set_option maxRecDepth 20000
namespace Go.Proofs.YtongpnolikkknaaDoor
open Sh RowKit

def qC (s : ByteArray) (a : Int) (e : Int) : Array Value := #[.string s, .int .i64 a, .int .i64 e]
/-- where the two readers stand alike -/
structure Alike (w : World) (p q : Nat) (s : ByteArray) (a : Nat) (e : Int) : Prop where
  hp : w.heap[p]? = some (.cells (rC (s.extract a s.size) e) 122 (0, 0))
  hq : w.heap[q]? = some (.cells (qC s a e) 87 (0, 0))
  le : a ≤ s.size
theorem f108_s (q : Nat) (s : ByteArray) (a : Nat) (e : Int) (ha : a ≤ s.size) (hs : s.size ≤ 9223372036854775807) (w : World) (Q : Value → World → Prop) (hq : w.heap[q]? = some (.cells (qC s a e) 87 (0, 0)))
    (h : Q (.int .i64 ((s.size - a : Nat) : Int)) (drw w)) : f108 (.pointer (some ⟨q, 0, none⟩)) w Q := by
  unfold f108
  have c0 := cell_of_blk (n := 0) hq
  have c1 := cell_of_blk (n := 1) hq
  have e1 : IntKind.i64.wrap ((s.size : Int) - (a : Int)) = ((s.size - a : Nat) : Int) := by rw [w64 (by omega) (by omega)]; omega
  simp only [↓reduceIte, ↓LL, LM, Value.cells, Nat.reduceAdd, Option.some.injEq, exists_eq_left', decide_true, decide_false, if_true, if_false, reduceCtorEq, cond_true, cond_false, c0, c1, qC, e1]
  exact h
/-- what is taken, told by the place -/
def takeA (s : ByteArray) (a : Nat) (e : Int) (k : Nat) : ByteArray × Nat × Int :=
  if e = 0 then (if s.size - a < k then (nos, a, 2) else (s.extract a (a + k), a + k, 0)) else (nos, a, e)
theorem takeA_is (s : ByteArray) (a : Nat) (e : Int) (k : Nat) (ha : a ≤ s.size) : (take (s.extract a s.size) e k).1 = (takeA s a e k).1 ∧
    (take (s.extract a s.size) e k).2.2.1 = s.extract (takeA s a e k).2.1 s.size ∧ (take (s.extract a s.size) e k).2.2.2 = (takeA s a e k).2.2 ∧ (takeA s a e k).2.1 ≤ s.size := by
  have es : (s.extract a s.size).size = s.size - a := by rw [ByteArray.size_extract]; omega
  unfold take takeA
  rw [es]
  split
  · split
    · exact ⟨rfl, rfl, rfl, ha⟩
    · refine ⟨?_, ?_, rfl, by simp only; omega⟩
      · simp only; rw [ex_ex _ _ _ _ (by omega)]; rfl
      · simp only; rw [ex_ex _ _ _ _ (by omega)]; congr 1; omega
  · exact ⟨rfl, rfl, rfl, ha⟩
theorem f88_s (q : Nat) (s : ByteArray) (a : Nat) (e : Int) (k : Int) (ha : a ≤ s.size) (hs : s.size ≤ 4611686018427387904) (w : World) (Q : Value → World → Prop) (hq : w.heap[q]? = some (.cells (qC s a e) 87 (0, 0)))
    (h : ∀ w', w'.heap[q]? = some (.cells (qC s (takeA s a e k.toNat).2.1 (takeA s a e k.toNat).2.2) 87 (0, 0)) → Chg q w w' → Q (.string (takeA s a e k.toNat).1) w') : f88 (.pointer (some ⟨q, 0, none⟩)) (.int .i64 k) w Q := by
  unfold f88
  have c2 := cell_of_blk (n := 2) hq
  simp only [↓reduceIte, ↓LL, LM, Value.cells, Nat.reduceAdd, Option.some.injEq, exists_eq_left', decide_true, decide_false, if_true, if_false, reduceCtorEq, cond_true, cond_false, max0, c2, qC]
  unfold takeA at h
  by_cases he : e = 0
  · subst he
    simp only [↓reduceIte, ↓LL, LM, Value.cells, Nat.reduceAdd, Option.some.injEq, exists_eq_left', decide_true, decide_false, if_true, if_false, reduceCtorEq, cond_true, cond_false, ne_eq, not_true_eq_false]
    refine f108_s q s a 0 ha (by omega) _ _ hq ?_
    have hq' : (drw w).heap[q]? = some (.cells (qC s a 0) 87 (0, 0)) := hq
    have hc0 : Chg q w (drw w) := (Chg.refl q w).drw
    generalize drw w = w1 at *
    by_cases c : s.size - a < k.toNat
    · have c' : ((s.size - a : Nat) : Int) < ((k.toNat : Nat) : Int) := by omega
      simp only [↓reduceIte, ↓LL, LM, Value.cells, Nat.reduceAdd, Option.some.injEq, exists_eq_left', decide_true, decide_false, if_true, if_false, reduceCtorEq, cond_true, cond_false, c'] 
      refine st_box hq' (by simp [qC]) rfl fun w' h1 hu => ?_
      try simp only [↓reduceIte, ↓LL, LM, Value.cells, Nat.reduceAdd, Option.some.injEq, exists_eq_left', decide_true, decide_false, if_true, if_false, reduceCtorEq, cond_true, cond_false]
      simp only [if_true, c] at h
      exact h w' h1 (hc0.trans hu.chg)
    · have c' : ¬ ((s.size - a : Nat) : Int) < ((k.toNat : Nat) : Int) := by omega
      have c1 := cell_of_blk (n := 1) hq'
      have e1 : IntKind.i64.wrap ((a : Int) + ((k.toNat : Nat) : Int)) = ((a + k.toNat : Nat) : Int) := by rw [w64 (by omega) (by omega)]; rfl
      simp only [↓reduceIte, ↓LL, LM, Value.cells, Nat.reduceAdd, Option.some.injEq, exists_eq_left', decide_true, decide_false, if_true, if_false, reduceCtorEq, cond_true, cond_false, c', c1, qC, e1]
      refine st_box hq' (by simp [qC]) rfl fun w' h1 hu => ?_
      have d0 := cell_of_blk (n := 0) h1
      have d1 := cell_of_blk (n := 1) h1
      have e2 : IntKind.i64.wrap (((a + k.toNat : Nat) : Int) - ((k.toNat : Nat) : Int)) = (a : Int) := by rw [w64 (by omega) (by omega)]; omega
      simp only [↓reduceIte, ↓LL, LM, Value.cells, Nat.reduceAdd, Option.some.injEq, exists_eq_left', decide_true, decide_false, if_true, if_false, reduceCtorEq, cond_true, cond_false, d0, d1, qC, List.setIfInBounds_toArray, List.set_cons_succ, List.set_cons_zero, e2]
      refine ⟨s, a, a + k.toNat, rfl, bnd_hi (by omega), bnd_hi (by omega), ?_⟩
      try simp only [↓reduceIte, ↓LL, LM, Value.cells, Nat.reduceAdd, Option.some.injEq, exists_eq_left', decide_true, decide_false, if_true, if_false, reduceCtorEq, cond_true, cond_false]
      simp only [if_true, c, if_false] at h
      exact h (drw w') h1 ((hc0.trans hu.chg).drw)
  · simp only [↓reduceIte, ↓LL, LM, Value.cells, Nat.reduceAdd, Option.some.injEq, exists_eq_left', decide_true, decide_false, if_true, if_false, reduceCtorEq, cond_true, cond_false, ne_eq, he, not_false_eq_true]
    simp only [he, if_false] at h
    exact h w hq (Chg.refl _ _)
theorem ofB_loop (j1 : Value → M) {Q : Value → World → Prop} {w : World} {s : ByteArray} (hl : s.size ≤ 8) : ∀ (d m i n : Nat), i + d = s.size → d < m → n < 256 ^ i →
    j1 (.int .u64 (ofB ((byL s).drop i) n : Nat)) w Q → itr (fun _ _ _ => bot) (f59_b2 j1) m (.string s) (.int .u64 (n : Int)) (.int .i64 i) w Q := by
  intro d
  induction d with
  | zero =>
    intro m i n hi hm hn k
    obtain ⟨m, rfl⟩ : ∃ x, m = x + 1 := ⟨m - 1, by omega⟩
    show f59_b2 j1 _ _ _ _ w Q
    unfold f59_b2
    have : ¬ (i : Int) < s.size := by omega
    simp only [↓reduceIte, ↓LL, LM, Value.cells, Nat.reduceAdd, Option.some.injEq, exists_eq_left', decide_true, decide_false, if_true, if_false, reduceCtorEq, cond_true, cond_false, this]
    rw [List.drop_of_length_le (by rw [byL_len]; omega)] at k
    exact k
  | succ d ih =>
    intro m i n hi hm hn k
    obtain ⟨m, rfl⟩ : ∃ x, m = x + 1 := ⟨m - 1, by omega⟩
    show f59_b2 j1 _ _ _ _ w Q
    unfold f59_b2
    have hlt : (i : Int) < s.size := by omega
    have hli : i < (byL s).length := by rw [byL_len]; omega
    obtain ⟨x, hx1, hx2⟩ := byL_get s i hli
    have hx3 : s[(i : Int).toNat]? = some x := hx1
    have hxb := x.toNat_lt
    have hp : 256 ^ i ≤ 256 ^ 7 := Nat.pow_le_pow_right (by decide) (by omega)
    have h0 : (0 : Int) ≤ (i : Int) := by omega
    have e1 : IntKind.u64.wrap (256 * (n : Int)) = ((256 * n : Nat) : Int) := by rw [wrap_u64]; omega
    have e2 : IntKind.u64.wrap ((x.toNat : Nat) : Int) = ((x.toNat : Nat) : Int) := by rw [wrap_u64]; omega
    have e3 : IntKind.u64.wrap (((256 * n : Nat) : Int) + ((x.toNat : Nat) : Int)) = ((256 * n + x.toNat : Nat) : Int) := by rw [wrap_u64]; omega
    have h1 : IntKind.i64.wrap ((i : Int) + 1) = ((i + 1 : Nat) : Int) := by rw [w64 (by omega) (by omega)]; rfl
    simp only [↓reduceIte, ↓LL, LM, Value.cells, Nat.reduceAdd, Option.some.injEq, exists_eq_left', decide_true, decide_false, if_true, if_false, reduceCtorEq, cond_true, cond_false, hlt, ixs_e, hx3, h0, true_and, e1, e2, e3, h1]
    refine ih m (i + 1) _ (by omega) (by omega) (by rw [Nat.pow_succ]; omega) ?_
    rw [List.drop_eq_getElem_cons hli, hx2] at k
    exact k
theorem takeA_size (s : ByteArray) (a : Nat) (e : Int) (k : Nat) : (takeA s a e k).1.size ≤ k := by
  unfold takeA
  split
  · split
    · exact Nat.zero_le _
    · rw [ByteArray.size_extract]; omega
  · exact Nat.zero_le _
theorem f59_s (q : Nat) (s : ByteArray) (a : Nat) (e : Int) (k : Int) (ha : a ≤ s.size) (hs : s.size ≤ 4611686018427387904) (w : World) (Q : Value → World → Prop) (hq : w.heap[q]? = some (.cells (qC s a e) 87 (0, 0)))
    (h : ∀ w', w'.heap[q]? = some (.cells (qC s (takeA s a e (wd k).toNat).2.1 (takeA s a e (wd k).toNat).2.2) 87 (0, 0)) → Chg q w w' → Q (.int .u64 (ofB (byL (takeA s a e (wd k).toNat).1) 0 : Nat)) w') : f59 (.pointer (some ⟨q, 0, none⟩)) (.int .i64 k) w Q := by
  unfold f59
  try simp only [↓reduceIte, ↓LL, LM, Value.cells, Nat.reduceAdd, Option.some.injEq, exists_eq_left', decide_true, decide_false, if_true, if_false, reduceCtorEq, cond_true, cond_false]
  refine f79_s k _ _ ?_
  try simp only [↓reduceIte, ↓LL, LM, Value.cells, Nat.reduceAdd, Option.some.injEq, exists_eq_left', decide_true, decide_false, if_true, if_false, reduceCtorEq, cond_true, cond_false]
  have bd := wd_bd k
  refine f88_s q s a e (wd k) ha hs _ _ hq fun w' h1 hc => ?_
  try rw [jn_e]
  have hts := takeA_size s a e (wd k).toNat
  refine ⟨_, ofB_loop (i := 0) _ (by omega) _ _ 0 (Nat.zero_add _) (Nat.lt_succ_self _) (by decide) ?_⟩
  unfold f59_j1
  rw [rt_e]
  exact h _ h1 hc
/-- what is read as a text, told by the place -/
def tstrA (s : ByteArray) (a : Nat) (e : Int) (m : Int) : ByteArray × Nat × Int :=
  if e = 0 then (match (byL s).drop a with
    | [] => (nos, a, 2)
    | c :: _ => if m < c then (nos, a, 3) else if s.size - a < 1 + c.toNat then (nos, a, 2) else (s.extract (a + 1) (a + 1 + c.toNat), a + 1 + c.toNat, 0)) else (nos, a, e)
theorem tstrA_is (s : ByteArray) (a : Nat) (e : Int) (m : Int) (ha : a ≤ s.size) : (tstr (s.extract a s.size) e m).1 = (tstrA s a e m).1 ∧
    (tstr (s.extract a s.size) e m).2.1 = s.extract (tstrA s a e m).2.1 s.size ∧ (tstr (s.extract a s.size) e m).2.2 = (tstrA s a e m).2.2 ∧ (tstrA s a e m).2.1 ≤ s.size := by
  have es : (s.extract a s.size).size = s.size - a := by rw [ByteArray.size_extract]; omega
  have eb : byL (s.extract a s.size) = (byL s).drop a := by rw [byL_take, List.take_of_length_le (by rw [byL_len]; omega)]
  unfold tstr tstrA
  rw [es, eb]
  split
  · cases hd : (byL s).drop a with
    | nil => exact ⟨rfl, rfl, rfl, ha⟩
    | cons c r =>
      simp only
      split
      · exact ⟨rfl, rfl, rfl, ha⟩
      · split
        · exact ⟨rfl, rfl, rfl, ha⟩
        · refine ⟨?_, ?_, rfl, by simp only; omega⟩
          · rw [ex_ex s a (1 + c.toNat) 1 (by omega), show a + (1 + c.toNat) = a + 1 + c.toNat from by omega]
          · rw [ex_ex s a (s.size - a) (1 + c.toNat) (by omega), show a + (1 + c.toNat) = a + 1 + c.toNat from by omega, show a + (s.size - a) = s.size from by omega]
  · exact ⟨rfl, rfl, rfl, ha⟩
end Go.Proofs.YtongpnolikkknaaDoor

set_option maxRecDepth 20000
set_option maxHeartbeats 4000000
namespace Go.Proofs.YtongpnolikkknaaDoor
open Sh RowKit Go.MapKept
/-- pairs of bytes as numbers -/
def prs : Nat → List Int → List Int
  | 0, _ => []
  | n + 1, x :: y :: r => (256 * x + y) :: prs n r
  | n + 1, [x] => x :: prs n []
  | n + 1, [] => 0 :: prs n []
theorem prs_len : ∀ (n : Nat) (l : List Int), (prs n l).length = n
  | 0, _ => rfl
  | n + 1, x :: y :: r => by simp [prs, prs_len n]
  | n + 1, [x] => by simp [prs, prs_len n]
  | n + 1, [] => by simp [prs, prs_len n]
theorem nb2 {x y : Int} (hx : 0 ≤ x ∧ x ≤ 255) (hy : 0 ≤ y ∧ y ≤ 255) : nb (256 * x + y).toNat 2 = [x, y] := by
  simp only [nb]
  congr 1
  · have : (256 * x + y).toNat / 256 ^ 1 % 256 = x.toNat := by omega
    rw [this]; omega
  · congr 1
    have : (256 * x + y).toNat / 256 ^ 0 % 256 = y.toNat := by omega
    rw [this]; omega
theorem prs_flat : ∀ (n : Nat) (l : List Int), 2 * n ≤ l.length → (∀ x ∈ l, 0 ≤ x ∧ x ≤ 255) → (prs n l).flatMap (fun x => nb x.toNat 2) = l.take (2 * n)
  | 0, _, _, _ => by simp [prs]
  | n + 1, x :: y :: r, hl, hb => by
    have h := prs_flat n r (by simp at hl; omega) (fun z hz => hb z (by simp [hz]))
    rw [show 2 * (n + 1) = 2 * n + 1 + 1 from by omega, List.take_succ_cons, List.take_succ_cons, ← h]
    show nb (256 * x + y).toNat 2 ++ _ = _
    rw [nb2 (hb x (by simp)) (hb y (by simp))]; rfl
  | n + 1, [x], hl, _ => by simp at hl; omega
  | n + 1, [], hl, _ => by simp at hl
theorem flat_prs : ∀ (l : List Int) (r : List Int), (∀ x ∈ l, 0 ≤ x ∧ x ≤ 65535) → prs l.length (l.flatMap (fun x => nb x.toNat 2) ++ r) = l
  | [], _, _ => rfl
  | x :: l, r, h => by
    have hx := h x (by simp)
    have ih := flat_prs l r (fun z hz => h z (by simp [hz]))
    rw [List.flatMap_cons, List.append_assoc]
    have e : nb x.toNat 2 = [((x.toNat / 256 ^ 1 % 256 : Nat) : Int), ((x.toNat / 256 ^ 0 % 256 : Nat) : Int)] := rfl
    rw [e, List.cons_append, List.cons_append, List.nil_append]
    show (256 * ((x.toNat / 256 ^ 1 % 256 : Nat) : Int) + ((x.toNat / 256 ^ 0 % 256 : Nat) : Int)) :: prs l.length _ = _
    rw [ih]
    congr 1
    omega
theorem ofB1 (x : Int) (h : 0 ≤ x) : ((ofB [x] 0 : Nat) : Int) = x := by simp [ofB]; omega
theorem ofB2 (x y : Int) (hx : 0 ≤ x) (hy : 0 ≤ y) : ((ofB [x, y] 0 : Nat) : Int) = 256 * x + y := by simp [ofB]; omega
theorem take_ok {t : ByteArray} {k : Nat} (h : k ≤ t.size) : take t 0 k = (t.extract 0 k, true, t.extract k t.size, 0) := by
  unfold take; rw [if_pos rfl, if_neg (by omega)]
theorem take_bad {t : ByteArray} {k : Nat} (h : t.size < k) : take t 0 k = (nos, false, t, 2) := by
  unfold take; rw [if_pos rfl, if_pos h]
theorem take_err {t : ByteArray} {e : Int} {k : Nat} (h : e ≠ 0) : take t e k = (nos, false, t, e) := by
  unfold take; rw [if_neg h]
theorem rdN_err : ∀ (n : Nat) (t : ByteArray) (e : Int), e ≠ 0 → (rdN n t e).2.2 = e
  | 0, _, _, _ => rfl
  | n + 1, t, e, h => by simp only [rdN]; rw [take_err h]; exact rdN_err n t e h
theorem rdN_bad : ∀ (n : Nat) (t : ByteArray), t.size < 2 * n → (rdN n t 0).2.2 ≠ 0
  | 0, _, h => by omega
  | n + 1, t, h => by
    simp only [rdN]
    rcases Nat.lt_or_ge t.size 2 with c | c
    · rw [take_bad c]
      show (rdN n t 2).2.2 ≠ 0
      rw [rdN_err n t 2 (by decide)]; decide
    · rw [take_ok c]
      exact rdN_bad n (t.extract 2 t.size) (by rw [ByteArray.size_extract]; omega)
theorem rdN_ok : ∀ (n : Nat) (t : ByteArray), 2 * n ≤ t.size → rdN n t 0 = (prs n (byL t), t.extract (2 * n) t.size, 0)
  | 0, t, _ => by
    have : t.extract (2 * 0) t.size = t := by apply byL_inj; rw [byL_take, List.take_of_length_le (by rw [byL_len]; omega)]; rfl
    rw [this]; rfl
  | n + 1, t, h => by
    simp only [rdN]
    rw [take_ok (by omega)]
    have ih := rdN_ok n (t.extract 2 t.size) (by rw [ByteArray.size_extract]; omega)
    simp only [ih]
    have e1 : byL (t.extract 0 2) = (byL t).take 2 := by rw [byL_take]; rfl
    have e2 : byL (t.extract 2 t.size) = (byL t).drop 2 := by rw [byL_take, List.take_of_length_le (by rw [byL_len]; omega)]
    have e3 : (t.extract 2 t.size).extract (2 * n) (t.extract 2 t.size).size = t.extract (2 * (n + 1)) t.size := by
      apply byL_inj
      rw [byL_take, e2, byL_take, List.take_of_length_le (by rw [List.length_drop, byL_len, ByteArray.size_extract]; omega), List.take_of_length_le (by rw [byL_len]; omega), List.drop_drop]
      congr 1
      omega
    rw [e1, e2, e3]
    have hl : (byL t).length = t.size := byL_len t
    have hb : ∀ x ∈ byL t, 0 ≤ x ∧ x ≤ 255 := fun x hx => byL_nn hx
    cases hbt : byL t with
    | nil => rw [hbt] at hl; simp at hl; omega
    | cons x r =>
      cases r with
      | nil => rw [hbt] at hl; simp at hl; omega
      | cons y r =>
        rw [hbt] at hb
        have h1 := hb x (by simp)
        have h2 := hb y (by simp)
        simp only [List.take_succ_cons, List.take_zero, List.drop_succ_cons, List.drop_zero, prs]
        rw [ofB2 x y h1.1 h2.1]
/-- as many pages as are said are there -/
def fitsD (s : ByteArray) : Prop := 1 + 2 * n1 s ≤ s.size
def lst (s : ByteArray) : List Int := prs (n1 s) ((byL s).drop 1)
theorem n1_get {s : ByteArray} (h : 0 < s.size) : ∃ x r, byL s = x :: r ∧ x = (n1 s : Int) := by
  have hl : (byL s).length = s.size := byL_len s
  cases hb : byL s with
  | nil => rw [hb] at hl; simp at hl; omega
  | cons x r =>
    refine ⟨x, r, rfl, ?_⟩
    unfold n1
    rw [take_ok (by omega)]
    have e1 : byL (s.extract 0 1) = (byL s).take 1 := by rw [byL_take]; rfl
    simp only
    rw [e1, hb]
    have := byL_nn (s := s) (x := x) (by rw [hb]; simp)
    rw [List.take_succ_cons, List.take_zero, ofB1 x this.1]
theorem rdA_ok {s : ByteArray} (h : fitsD s) : rdA s = (lst s, s.extract (1 + 2 * n1 s) s.size, 0) := by
  unfold fitsD at h
  unfold rdA lst
  have e2 : byL (s.extract 1 s.size) = (byL s).drop 1 := by rw [byL_take, List.take_of_length_le (by rw [byL_len]; omega)]
  rw [take_ok (by omega)]
  simp only
  rw [rdN_ok _ _ (by rw [ByteArray.size_extract]; omega), e2]
  congr 2
  apply byL_inj
  rw [byL_take, e2, byL_take, List.take_of_length_le (by rw [List.length_drop, byL_len, ByteArray.size_extract]; omega), List.take_of_length_le (by rw [byL_len]; omega), List.drop_drop]
theorem rdA_bad {s : ByteArray} (h : ¬ fitsD s) : (rdA s).2.2 ≠ 0 := by
  unfold fitsD at h
  unfold rdA
  rcases Nat.eq_zero_or_pos s.size with c | c
  · rw [take_bad (by omega)]
    simp only
    rw [rdN_err _ _ 2 (by decide)]; decide
  · rw [take_ok (by omega)]
    simp only
    exact rdN_bad _ _ (by rw [ByteArray.size_extract]; omega)
theorem lst_len (s : ByteArray) : (lst s).length = n1 s := prs_len _ _
theorem blank_rest {s : ByteArray} {k : Nat} (h : blank (s.extract k s.size) = true) : (byL s).drop k = List.replicate (s.size - k) 0 := by
  unfold blank at h
  rw [byL_take, List.take_of_length_le (by rw [byL_len]; omega)] at h
  rw [List.eq_replicate_iff]
  refine ⟨by rw [List.length_drop, byL_len], fun x hx => ?_⟩
  have := List.all_eq_true.1 h x hx
  exact of_decide_eq_true this
attribute [local irreducible] n1
theorem dir_iff {s : ByteArray} : dirB s = true ↔ fitsD s ∧ dirW (lst s) = (s, 0) := by
  by_cases hf : fitsD s
  rotate_left
  · constructor
    · intro h; exact absurd (of_decide_eq_true h).1 (rdA_bad hf)
    · intro h; exact absurd h.1 hf
  have hA := rdA_ok hf
  have hfs : 1 + 2 * n1 s ≤ s.size := hf
  obtain ⟨x, r, hb, hx⟩ := n1_get (s := s) (by omega)
  have hl : (byL s).length = s.size := byL_len s
  have hbd : ∀ y ∈ byL s, 0 ≤ y ∧ y ≤ 255 := fun y hy => byL_nn hy
  -- the bytes that are told
  have hd : dirL (lst s) = (byL s).take (1 + 2 * n1 s) := by
    unfold dirL
    rw [lst_len]
    unfold lst
    rw [prs_flat _ _ (by rw [List.length_drop]; omega) (fun y hy => hbd y (List.mem_of_mem_drop hy)), hb, Nat.add_comm 1, List.take_succ_cons, hx, List.drop_succ_cons, List.drop_zero]
  have hdb : ∀ y ∈ dirL (lst s), 0 ≤ y ∧ y ≤ 255 := fun y hy => by rw [hd] at hy; exact hbd y (List.mem_of_mem_take hy)
  have hdl : (dirL (lst s)).length = 1 + 2 * n1 s := by rw [dirL_len, lst_len]
  constructor
  · intro h
    obtain ⟨_, h2, h3, h4, h5⟩ := of_decide_eq_true h
    rw [hA] at h3 h5
    simp only at h3 h5
    refine ⟨hf, ?_⟩
    unfold dirW
    rw [if_neg (by rw [lst_len]; omega), if_pos h3]
    refine Prod.ext ?_ rfl
    apply byL_inj
    show byL (pad (strOfNums (dirL (lst s)))).1 = byL s
    rw [byL_pad]
    unfold padL
    rw [byL_son hdb, son_size, hdl, List.take_of_length_le (by rw [hdl]; omega), hd]
    rw [take_ok (Nat.le_refl _)] at h5
    simp only at h5
    have e : (s.extract (1 + 2 * n1 s) s.size).extract 0 (s.extract (1 + 2 * n1 s) s.size).size = s.extract (1 + 2 * n1 s) s.size := by
      apply byL_inj
      rw [byL_take, List.take_of_length_le (by rw [byL_len]; omega)]; rfl
    rw [e] at h5
    have h6 := blank_rest h5
    rw [h4] at h6
    rw [← h6, List.take_append_drop]
  · rintro ⟨_, h⟩
    unfold dirW at h
    by_cases c1 : 31 < (lst s).length
    · rw [if_pos c1] at h; simp at h
    rw [if_neg c1] at h
    by_cases c2 : rightB (lst s) = true
    rotate_left
    · rw [if_neg c2] at h; simp at h
    rw [if_pos c2] at h
    have hs : (pad (strOfNums (dirL (lst s)))).1 = s := (Prod.mk.inj h).1
    have h64 : s.size = 64 := by rw [← hs]; exact (pad _).2
    rw [lst_len] at c1
    refine decide_eq_true ⟨by rw [hA], by omega, by rw [hA]; exact c2, h64, ?_⟩
    rw [hA]
    simp only
    rw [take_ok (Nat.le_refl _)]
    simp only
    have e : (s.extract (1 + 2 * n1 s) s.size).extract 0 (s.extract (1 + 2 * n1 s) s.size).size = s.extract (1 + 2 * n1 s) s.size := by
      apply byL_inj
      rw [byL_take, List.take_of_length_le (by rw [byL_len]; omega)]; rfl
    rw [e]
    unfold blank
    rw [byL_take, List.take_of_length_le (by rw [byL_len]; omega)]
    have hbs : byL s = (dirL (lst s)).take 64 ++ List.replicate (64 - (dirL (lst s)).length) 0 := by
      conv => lhs; rw [← hs, byL_pad]
      unfold padL
      rw [byL_son hdb, son_size]
    rw [hbs, List.take_of_length_le (by rw [hdl]; omega), List.drop_append_of_le_length (by rw [hdl]; exact Nat.le_refl _), List.drop_of_length_le (by rw [hdl]; exact Nat.le_refl _), List.nil_append, List.all_eq_true]
    intro y hy
    exact decide_eq_true (List.mem_replicate.1 hy).2
/-- what was written is a directory -/
theorem dir_back {l : List Int} (h1 : l.length ≤ 31) (h2 : rightB l = true) : fitsD (dirW l).1 ∧ lst (dirW l).1 = l ∧ (dirW l).2 = 0 ∧ dirB (dirW l).1 = true := by
  have hW : dirW l = ((pad (strOfNums (dirL l))).1, 0) := by unfold dirW; rw [if_neg (by omega), if_pos h2]
  have hr := (of_decide_eq_true h2).2
  have hdl := dirL_len l
  have hb : byL (dirW l).1 = dirL l ++ List.replicate (64 - (1 + 2 * l.length)) 0 := by
    rw [hW]
    simp only
    rw [byL_pad]
    unfold padL
    rw [byL_son (dirL_bd h1), son_size, hdl, List.take_of_length_le (by omega)]
  have hsz : (dirW l).1.size = 64 := by rw [hW]; exact (pad _).2
  have hn : n1 (dirW l).1 = l.length := by
    obtain ⟨x, r, hx, e⟩ := n1_get (s := (dirW l).1) (by omega)
    rw [hb] at hx
    unfold dirL at hx
    rw [List.cons_append] at hx
    have := (List.cons.inj hx).1
    omega
  have hf : fitsD (dirW l).1 := by unfold fitsD; omega
  have hl : lst (dirW l).1 = l := by
    unfold lst
    rw [hn, hb]
    unfold dirL
    rw [List.cons_append, List.drop_succ_cons, List.drop_zero]
    exact flat_prs l _ hr
  refine ⟨hf, hl, by rw [hW], dir_iff.2 ⟨hf, ?_⟩⟩
  rw [hl, hW]
end Go.Proofs.YtongpnolikkknaaDoor

set_option maxRecDepth 20000
set_option maxHeartbeats 4000000
namespace Go.Proofs.YtongpnolikkknaaDoor
open Sh RowKit Go.MapKept
section
variable {W w : World} {Q : Value → World → Prop}
theorem ld_i {v : Value} {l : List Int} {i : Nat} (h : rdI .i64 W v l) (hi : i < l.length) : ∃ a : Addr, (∀ w, Below W.heap.size W w → w.cell? a = some (.int .i64 l[i])) ∧ ∀ (K : Value → M) (w : World) (Q : Value → World → Prop), ia 1 v (.int .i64 (i : Int)) K w Q = K (.pointer (some a)) w Q := by
  obtain ⟨p, c, rfl, h⟩ := h
  obtain ⟨a, rfl, hc⟩ := h i hi
  refine ⟨a.add i, fun w hb => cell_below hb hc, fun K w Q => ?_⟩
  rw [ia_e, Int.toNat_natCast, Nat.mul_one]
  exact propext ⟨fun h => h.2.2, fun h => ⟨by omega, by omega, h⟩⟩
theorem sameI_loop {x y : Value} {l l2 : List Int} (hx : rdI .i64 W x l) (hy : rdI .i64 W y l2) (hle : l.length = l2.length) (hl : l.length ≤ 140737488355328) : ∀ (d m i : Nat) (w : World), i + d = l.length → d < m → Below W.heap.size W w → l.take i = l2.take i →
    (∀ w', Below W.heap.size W w' → Q (.bool (decide (l = l2))) w') →
    itr (fun _ _ _ => bot) (f17_b2 f17_j1) m x y (.int .i64 (i : Int)) w Q := by
  intro d
  induction d with
  | zero =>
    intro m i w hi hm hb he kk
    obtain ⟨m, rfl⟩ : ∃ x, m = x + 1 := ⟨m - 1, by omega⟩
    show f17_b2 f17_j1 _ _ _ _ w Q
    unfold f17_b2
    refine lnl_rd hx ?_
    have c : ¬ (i : Int) < (l.length : Nat) := by omega
    try simp only [↓reduceIte, ↓LL, LM, Value.cells, Nat.reduceAdd, Option.some.injEq, exists_eq_left', decide_true, decide_false, if_true, if_false, reduceCtorEq, cond_true, cond_false, c]
    unfold f17_j1
    try simp only [↓reduceIte, ↓LL, LM, Value.cells, Nat.reduceAdd, Option.some.injEq, exists_eq_left', decide_true, decide_false, if_true, if_false, reduceCtorEq, cond_true, cond_false]
    rw [List.take_of_length_le (by omega), List.take_of_length_le (by omega)] at he
    have := kk w hb
    rw [decide_eq_true he] at this
    exact this
  | succ d ih =>
    intro m i w hi hm hb he kk
    obtain ⟨m, rfl⟩ : ∃ x, m = x + 1 := ⟨m - 1, by omega⟩
    show f17_b2 f17_j1 _ _ _ _ w Q
    unfold f17_b2
    refine lnl_rd hx ?_
    have c : (i : Int) < (l.length : Nat) := by omega
    have hil : i < l.length := by omega
    have hil2 : i < l2.length := by omega
    have bd : Below W.heap.size W (drw w) := hb.trans ⟨rfl, rfl, rfl, Nat.le_refl _, fun _ _ => rfl⟩
    obtain ⟨ax, cx, hax⟩ := ld_i hx hil
    obtain ⟨ay, cy, hay⟩ := ld_i hy hil2
    have qx := cx _ bd
    have qy := cy _ bd
    have h3 : IntKind.i64.wrap ((i : Int) + 1) = ((i + 1 : Nat) : Int) := by rw [w64 (by omega) (by omega)]; rfl
    by_cases hv : l[i] = l2[i]
    · try simp only [↓reduceIte, ↓LL, LM, Value.cells, Nat.reduceAdd, Option.some.injEq, exists_eq_left', decide_true, decide_false, if_true, if_false, reduceCtorEq, cond_true, cond_false, c, hax, hay, qx, qy, ne_eq, hv, h3]
      refine ih m (i + 1) (drw w) (by omega) (by omega) bd ?_ kk
      rw [List.take_succ_eq_append_getElem hil, List.take_succ_eq_append_getElem hil2, he, hv]
    · try simp only [↓reduceIte, ↓LL, LM, Value.cells, Nat.reduceAdd, Option.some.injEq, exists_eq_left', decide_true, decide_false, if_true, if_false, reduceCtorEq, cond_true, cond_false, c, hax, hay, qx, qy, ne_eq, hv]
      have hne : l ≠ l2 := by rintro rfl; exact hv rfl
      have := kk (drw w) bd
      rw [decide_eq_false hne] at this
      exact this
theorem f17_s {x y : Value} {l l2 : List Int} (hx : rdI .i64 w x l) (hy : rdI .i64 w y l2) (hl : l.length ≤ 140737488355328) (kk : ∀ w', Below w.heap.size w w' → Q (.bool (decide (l = l2))) w') : f17 x y w Q := by
  unfold f17
  refine lnl_rd hx ?_
  refine lnl_rd hy ?_
  by_cases hle : l.length = l2.length
  · have hle' : ((l.length : Nat) : Int) = (l2.length : Nat) := by omega
    try simp only [↓reduceIte, ↓LL, LM, Value.cells, Nat.reduceAdd, Option.some.injEq, exists_eq_left', decide_true, decide_false, if_true, if_false, reduceCtorEq, cond_true, cond_false, hle', ne_eq]
    exact ⟨_, sameI_loop (W := w) hx hy hle hl l.length (l.length + 1) 0 w (by omega) (by omega) (Below.refl _ _) (by simp) kk⟩
  · have hle' : ¬ ((l.length : Nat) : Int) = (l2.length : Nat) := by omega
    have hne : l ≠ l2 := by rintro rfl; exact hle rfl
    try simp only [↓reduceIte, ↓LL, LM, Value.cells, Nat.reduceAdd, Option.some.injEq, exists_eq_left', decide_true, decide_false, if_true, if_false, reduceCtorEq, cond_true, cond_false, hle', ne_eq]
    have := kk w (Below.refl _ _)
    rw [decide_eq_false hne] at this
    exact this
theorem right5_in {v : Value} {l : List Int} {i : Nat} (h : rdI .i64 W v l) (hi : i < l.length) (hl : l.length ≤ 140737488355328) {j3 : Value → Value → M} : ∀ (d m k : Nat) (w : World), k + d = i → d < m → Below W.heap.size W w → ¬ l[i] ∈ l.take k →
    (l[i] ∈ l.take i → ∀ w', Below W.heap.size W w' → Q (.bool false) w') → (¬ l[i] ∈ l.take i → ∀ w', Below W.heap.size W w' → j3 v (.int .i64 (i : Int)) w' Q) →
    itr (fun _ _ _ => bot) (f51_b4 j3) m v (.int .i64 (i : Int)) (.int .i64 (k : Int)) w Q := by
  intro d
  induction d with
  | zero =>
    intro m k w hk hm hb hn kf kk
    obtain ⟨m, rfl⟩ : ∃ x, m = x + 1 := ⟨m - 1, by omega⟩
    show f51_b4 j3 _ _ _ _ w Q
    unfold f51_b4
    have : k = i := by omega
    subst this
    have c : ¬ (k : Int) < (k : Int) := by omega
    try simp only [↓reduceIte, ↓LL, LM, Value.cells, Nat.reduceAdd, Option.some.injEq, exists_eq_left', decide_true, decide_false, if_true, if_false, reduceCtorEq, cond_true, cond_false, c]
    exact kk hn w hb
  | succ d ih =>
    intro m k w hk hm hb hn kf kk
    obtain ⟨m, rfl⟩ : ∃ x, m = x + 1 := ⟨m - 1, by omega⟩
    show f51_b4 j3 _ _ _ _ w Q
    unfold f51_b4
    have c : (k : Int) < (i : Int) := by omega
    have hkl : k < l.length := by omega
    have bd : Below W.heap.size W (drw w) := hb.trans ⟨rfl, rfl, rfl, Nat.le_refl _, fun _ _ => rfl⟩
    obtain ⟨ax, cx, hax⟩ := ld_i h hi
    obtain ⟨ay, cy, hay⟩ := ld_i h hkl
    have qx := cx _ bd
    have qy := cy _ bd
    have h3 : IntKind.i64.wrap ((k : Int) + 1) = ((k + 1 : Nat) : Int) := by rw [w64 (by omega) (by omega)]; rfl
    by_cases hv : l[i] = l[k]
    · try simp only [↓reduceIte, ↓LL, LM, Value.cells, Nat.reduceAdd, Option.some.injEq, exists_eq_left', decide_true, decide_false, if_true, if_false, reduceCtorEq, cond_true, cond_false, c, hax, hay, qx, qy, hv]
      exact kf (by rw [hv]; exact List.mem_take_iff_getElem.2 ⟨k, by omega, rfl⟩) _ bd
    · try simp only [↓reduceIte, ↓LL, LM, Value.cells, Nat.reduceAdd, Option.some.injEq, exists_eq_left', decide_true, decide_false, if_true, if_false, reduceCtorEq, cond_true, cond_false, c, hax, hay, qx, qy, hv, h3]
      refine ih m (k + 1) (drw w) (by omega) (by omega) bd ?_ kf kk
      rw [List.take_succ_eq_append_getElem hkl]
      intro hm
      rcases List.mem_append.1 hm with hm | hm
      · exact hn hm
      · rw [List.mem_singleton] at hm; exact hv hm
theorem right5_out {v : Value} {l : List Int} (h : rdI .i64 W v l) (hl : l.length ≤ 140737488355328) : ∀ (d m i : Nat) (w : World), i + d = l.length → d < m → Below W.heap.size W w → (∀ j (hj : j < l.length), j < i → 0 ≤ l[j] ∧ l[j] ≤ 65535 ∧ ¬ l[j] ∈ l.take j) →
    (∀ w', Below W.heap.size W w' → Q (.bool (rightB l)) w') →
    itr (fun _ _ => bot) (f51_b2 f51_j1) m v (.int .i64 (i : Int)) w Q := by
  intro d
  induction d with
  | zero =>
    intro m i w hi hm hb hp kk
    obtain ⟨m, rfl⟩ : ∃ x, m = x + 1 := ⟨m - 1, by omega⟩
    show f51_b2 f51_j1 _ _ _ w Q
    unfold f51_b2
    refine lnl_rd h ?_
    have c : ¬ (i : Int) < (l.length : Nat) := by omega
    try simp only [↓reduceIte, ↓LL, LM, Value.cells, Nat.reduceAdd, Option.some.injEq, exists_eq_left', decide_true, decide_false, if_true, if_false, reduceCtorEq, cond_true, cond_false, c]
    unfold f51_j1
    try simp only [↓reduceIte, ↓LL, LM, Value.cells, Nat.reduceAdd, Option.some.injEq, exists_eq_left', decide_true, decide_false, if_true, if_false, reduceCtorEq, cond_true, cond_false]
    have := kk w hb
    rw [rightB_t fun j hj => hp j hj (by omega)] at this
    exact this
  | succ d ih =>
    intro m i w hi hm hb hp kk
    obtain ⟨m, rfl⟩ : ∃ x, m = x + 1 := ⟨m - 1, by omega⟩
    show f51_b2 f51_j1 _ _ _ w Q
    unfold f51_b2
    refine lnl_rd h ?_
    have c : (i : Int) < (l.length : Nat) := by omega
    have hil : i < l.length := by omega
    obtain ⟨ax, cx, hax⟩ := ld_i h hil
    have qx := cx _ hb
    have h3 : IntKind.i64.wrap ((i : Int) + 1) = ((i + 1 : Nat) : Int) := by rw [w64 (by omega) (by omega)]; rfl
    have fal := fun hx (w' : World) (hb' : Below W.heap.size W w') => by have := kk w' hb'; rw [rightB_f hil hx] at this; exact this
    by_cases c1 : l[i] < 0
    · try simp only [↓reduceIte, ↓LL, LM, Value.cells, Nat.reduceAdd, Option.some.injEq, exists_eq_left', decide_true, decide_false, if_true, if_false, reduceCtorEq, cond_true, cond_false, c, hax, qx, c1]
      exact fal (.inl c1) w hb
    by_cases c2 : 65535 < l[i]
    · try simp only [↓reduceIte, ↓LL, LM, Value.cells, Nat.reduceAdd, Option.some.injEq, exists_eq_left', decide_true, decide_false, if_true, if_false, reduceCtorEq, cond_true, cond_false, c, hax, qx, c1, c2]
      exact fal (.inr (.inl c2)) w hb
    try simp only [↓reduceIte, ↓LL, LM, Value.cells, Nat.reduceAdd, Option.some.injEq, exists_eq_left', decide_true, decide_false, if_true, if_false, reduceCtorEq, cond_true, cond_false, c, hax, qx, c1, c2]
    refine ⟨_, right5_in (Q := Q) (j3 := f51_j3 (itr (fun _ _ => bot) (f51_b2 f51_j1) m)) h hil hl i (i + 1) 0 w (by omega) (by omega) hb (by simp) (fun hm => fal (.inr (.inr hm))) fun hm w1 b1 => ?_⟩
    unfold f51_j3
    try simp only [↓reduceIte, ↓LL, LM, Value.cells, Nat.reduceAdd, Option.some.injEq, exists_eq_left', decide_true, decide_false, if_true, if_false, reduceCtorEq, cond_true, cond_false, h3]
    refine ih m (i + 1) w1 (by omega) (by omega) b1 (fun j hj hji => ?_) kk
    rcases Nat.lt_or_ge j i with c | c
    · exact hp j hj c
    · have : j = i := by omega
      subst this; exact ⟨by omega, by omega, hm⟩
theorem f51_s {v : Value} {l : List Int} (h : rdI .i64 w v l) (hl : l.length ≤ 140737488355328) (kk : ∀ w', Below w.heap.size w w' → Q (.bool (rightB l)) w') : f51 v w Q := by
  unfold f51
  try simp only [↓reduceIte, ↓LL, LM, Value.cells, Nat.reduceAdd, Option.some.injEq, exists_eq_left', decide_true, decide_false, if_true, if_false, reduceCtorEq, cond_true, cond_false]
  exact ⟨_, right5_out (W := w) h hl l.length (l.length + 1) 0 w (by omega) (by omega) (Below.refl _ _) (fun j hj h => by omega) kk⟩
theorem write5_loop {v : Value} {l : List Int} (h : rdI .i64 W v l) (hl : l.length ≤ 31) (hwf : ∀ x ∈ l, 0 ≤ x ∧ x ≤ 65535) {j1 : Value → M} : ∀ (d m i : Nat) (w : World), i + d = l.length → d < m → Below W.heap.size W w →
    (∀ w', Below W.heap.size W w' → j1 (.string (strOfNums (dirL l))) w' Q) →
    itr (fun _ _ _ => bot) (f14_b2 j1) m v (.string (strOfNums (((l.length : Nat) : Int) :: (l.take i).flatMap fun x => nb x.toNat 2))) (.int .i64 (i : Int)) w Q := by
  intro d
  induction d with
  | zero =>
    intro m i w hi hm hb kk
    obtain ⟨m, rfl⟩ : ∃ x, m = x + 1 := ⟨m - 1, by omega⟩
    show f14_b2 j1 _ _ _ _ w Q
    unfold f14_b2
    refine lnl_rd h ?_
    have cc : ¬ (i : Int) < (l.length : Nat) := by omega
    try simp only [↓reduceIte, ↓LL, LM, Value.cells, Nat.reduceAdd, Option.some.injEq, exists_eq_left', decide_true, decide_false, if_true, if_false, reduceCtorEq, cond_true, cond_false, cc]
    rw [List.take_of_length_le (by omega)]
    exact kk w hb
  | succ d ih =>
    intro m i w hi hm hb kk
    obtain ⟨m, rfl⟩ : ∃ x, m = x + 1 := ⟨m - 1, by omega⟩
    show f14_b2 j1 _ _ _ _ w Q
    unfold f14_b2
    refine lnl_rd h ?_
    have cc : (i : Int) < (l.length : Nat) := by omega
    have hil : i < l.length := by omega
    have h3 : IntKind.i64.wrap ((i : Int) + 1) = ((i + 1 : Nat) : Int) := by rw [w64 (by omega) (by omega)]; rfl
    have hwx := hwf _ (List.getElem_mem hil)
    have hts : (l.take (i + 1)).flatMap (fun x => nb x.toNat 2) = (l.take i).flatMap (fun x => nb x.toNat 2) ++ nb l[i].toNat 2 := by rw [List.take_succ_eq_append_getElem hil, List.flatMap_append]; simp
    have hlen := dirL_len (l.take i)
    unfold dirL at hlen
    rw [List.length_cons, List.length_take] at hlen
    obtain ⟨ax, cx, hax⟩ := ld_i h hil
    have qx := cx _ hb
    have ex : IntKind.u64.wrap l[i] = ((l[i].toNat : Nat) : Int) := by rw [wu64 (by omega) (by omega)]; omega
    try simp only [↓reduceIte, ↓LL, LM, Value.cells, Nat.reduceAdd, Option.some.injEq, exists_eq_left', decide_true, decide_false, if_true, if_false, reduceCtorEq, cond_true, cond_false, cc, hax, qx, ex]
    refine f52_s _ (by omega) 2 _ _ fun w1 b1 => ?_
    have e2 : (wd 2).toNat = 2 := rfl
    rw [e2, cat_e]
    refine ⟨by rw [son_size, son_size, nb_len, List.length_cons]; omega, ?_⟩
    rw [son_app, List.cons_append, ← hts]
    try simp only [↓reduceIte, ↓LL, LM, Value.cells, Nat.reduceAdd, Option.some.injEq, exists_eq_left', decide_true, decide_false, if_true, if_false, reduceCtorEq, cond_true, cond_false, h3]
    exact ih m (i + 1) w1 (by omega) (by omega) (bt hb b1) kk
theorem f14_s {v : Value} {l : List Int} (h : rdI .i64 w v l) (hl : l.length ≤ 140737488355328) (kk : ∀ w', Below w.heap.size w w' → Q (.tuple #[.string (dirW l).1, .int .i64 (dirW l).2]) w') : f14 v w Q := by
  unfold f14
  refine lnl_rd h ?_
  unfold dirW at kk
  by_cases c1 : 31 < l.length
  · have c1' : (31 : Int) < (l.length : Nat) := by omega
    simp only [if_pos c1] at kk
    try simp only [↓reduceIte, ↓LL, LM, Value.cells, Nat.reduceAdd, Option.some.injEq, exists_eq_left', decide_true, decide_false, if_true, if_false, reduceCtorEq, cond_true, cond_false, c1']
    exact kk w (Below.refl _ _)
  have c1' : ¬ (31 : Int) < (l.length : Nat) := by omega
  simp only [if_neg c1] at kk
  try simp only [↓reduceIte, ↓LL, LM, Value.cells, Nat.reduceAdd, Option.some.injEq, exists_eq_left', decide_true, decide_false, if_true, if_false, reduceCtorEq, cond_true, cond_false, c1']
  refine f51_s h hl fun w1 b1 => ?_
  cases hr : rightB l with
  | false =>
    simp only [hr, if_neg (show ¬ false = true by simp)] at kk
    try simp only [↓reduceIte, ↓LL, LM, Value.cells, Nat.reduceAdd, Option.some.injEq, exists_eq_left', decide_true, decide_false, if_true, if_false, reduceCtorEq, cond_true, cond_false]
    exact kk w1 b1
  | true =>
    simp only [hr, if_pos] at kk
    try simp only [↓reduceIte, ↓LL, LM, Value.cells, Nat.reduceAdd, Option.some.injEq, exists_eq_left', decide_true, decide_false, if_true, if_false, reduceCtorEq, cond_true, cond_false]
    refine lnl_rd (rdI_below b1 h) ?_
    have hrr := of_decide_eq_true hr
    have e1 : IntKind.u64.wrap ((l.length : Nat) : Int) = ((l.length : Nat) : Int) := wu64 (by omega) (by omega)
    try simp only [↓reduceIte, ↓LL, LM, Value.cells, Nat.reduceAdd, Option.some.injEq, exists_eq_left', decide_true, decide_false, if_true, if_false, reduceCtorEq, cond_true, cond_false, e1]
    refine f52_s _ (by omega) 1 _ _ fun w2 b2 => ?_
    have b12 := bt b1 b2
    have e2 : (wd 1).toNat = 1 := rfl
    rw [e2, nb1 _ (by omega)]
    try simp only [↓reduceIte, ↓LL, LM, Value.cells, Nat.reduceAdd, Option.some.injEq, exists_eq_left', decide_true, decide_false, if_true, if_false, reduceCtorEq, cond_true, cond_false]
    refine ⟨_, write5_loop (W := w2) (Q := Q) (j1 := f14_j1) (rdI_below b12 h) (by omega) hrr.2 l.length (l.length + 1) 0 w2 (by omega) (by omega) (Below.refl _ _) fun w3 b3 => ?_⟩
    unfold f14_j1
    try simp only [↓reduceIte, ↓LL, LM, Value.cells, Nat.reduceAdd, Option.some.injEq, exists_eq_left', decide_true, decide_false, if_true, if_false, reduceCtorEq, cond_true, cond_false]
    refine f42_s _ fun w4 b4 => ?_
    try simp only [↓reduceIte, ↓LL, LM, Value.cells, Nat.reduceAdd, Option.some.injEq, exists_eq_left', decide_true, decide_false, if_true, if_false, reduceCtorEq, cond_true, cond_false]
    exact kk w4 (bt (bt b12 b3) b4)
end
end Go.Proofs.YtongpnolikkknaaDoor

set_option maxRecDepth 20000
set_option maxHeartbeats 4000000
namespace Go.Proofs.YtongpnolikkknaaDoor
open Sh RowKit Go.MapKept
theorem prs_snoc : ∀ (n : Nat) (r : List Int), 2 * (n + 1) ≤ r.length → (∀ x ∈ r, 0 ≤ x ∧ x ≤ 255) → prs (n + 1) r = prs n r ++ [((ofB ((r.drop (2 * n)).take 2) 0 : Nat) : Int)]
  | 0, x :: y :: r, _, hb => by
    have h1 := hb x (by simp)
    have h2 := hb y (by simp)
    simp only [prs, Nat.mul_zero, List.drop_zero, List.take_succ_cons, List.take_zero, List.nil_append]
    rw [ofB2 x y h1.1 h2.1]
  | 0, [x], h, _ => by simp at h
  | 0, [], h, _ => by simp at h
  | n + 1, x :: y :: r, h, hb => by
    have ih := prs_snoc n r (by simp at h; omega) (fun z hz => hb z (by simp [hz]))
    show (256 * x + y) :: prs (n + 1) r = ((256 * x + y) :: prs n r) ++ _
    rw [ih, List.cons_append, show 2 * (n + 1) = 2 * n + 1 + 1 from by omega, List.drop_succ_cons, List.drop_succ_cons]
  | n + 1, [x], h, _ => by simp at h; omega
  | n + 1, [], h, _ => by simp at h
theorem build87 (s : ByteArray) (w : World) : (Instr.build 87 #[(0, .string s)]).run Tryd.prog w = .ok (.agg (qC s 0 0)) w := by
  kernel_rfl
theorem takeA_ok {s : ByteArray} {a k : Nat} (h : a + k ≤ s.size) : takeA s a 0 k = (s.extract a (a + k), a + k, 0) := by
  unfold takeA; rw [if_pos rfl, if_neg (by omega)]
theorem takeA_bad {s : ByteArray} {a k : Nat} (h : s.size < a + k) (ha : a ≤ s.size) : takeA s a 0 k = (nos, a, 2) := by
  unfold takeA; rw [if_pos rfl, if_pos (by omega)]
section
variable {W w : World} {Q : Value → World → Prop}
theorem read5_loop {s : ByteArray} {q : Nat} (hs : s.size ≤ 4611686018427387904) (hqB : W.heap.size ≤ q) (hn : n1 s ≤ 255) {j1 : Value → Value → Value → M} : ∀ (d m i : Nat) (w : World) (u : Value) (acc : List Int) (a : Nat) (e : Int), i + d = n1 s → d < m → Below W.heap.size W w → ownI W.heap.size 3 .i64 w u acc → acc.length = i → (∀ x ∈ acc, 0 ≤ x ∧ x ≤ 65535) →
    w.heap[q]? = some (.cells (qC s a e) 87 (0, 0)) → ((e = 0 ∧ a = 1 + 2 * i ∧ a ≤ s.size ∧ acc = prs i ((byL s).drop 1)) ∨ (e = 2 ∧ ¬ fitsD s)) →
    (∀ w' u' acc' a' e', Below W.heap.size W w' → ownI W.heap.size 3 .i64 w' u' acc' → acc'.length ≤ 255 → (∀ x ∈ acc', 0 ≤ x ∧ x ≤ 65535) → w'.heap[q]? = some (.cells (qC s a' e') 87 (0, 0)) → ((e' = 0 ∧ fitsD s ∧ acc' = lst s) ∨ (e' = 2 ∧ ¬ fitsD s)) → j1 (.string s) (.pointer (some ⟨q, 0, none⟩)) u' w' Q) →
    itr (fun _ _ _ _ _ => bot) (f16_b2 j1) m (.string s) (.pointer (some ⟨q, 0, none⟩)) (.int .u64 ((n1 s : Nat) : Int)) u (.int .u64 (i : Int)) w Q := by
  intro d
  induction d with
  | zero =>
    intro m i w u acc a e hi hm hb ho hl hbd hq hJ kk
    obtain ⟨m, rfl⟩ : ∃ x, m = x + 1 := ⟨m - 1, by omega⟩
    show f16_b2 j1 _ _ _ _ _ _ w Q
    unfold f16_b2
    have cc : ¬ (i : Int) < ((n1 s : Nat) : Int) := by omega
    try simp only [↓reduceIte, ↓LL, LM, Value.cells, Nat.reduceAdd, Option.some.injEq, exists_eq_left', decide_true, decide_false, if_true, if_false, reduceCtorEq, cond_true, cond_false, cc]
    refine kk w u acc a e hb ho (by omega) hbd hq ?_
    rcases hJ with ⟨h1, h2, h3, h4⟩ | h
    · have hin : i = n1 s := by omega
      refine .inl ⟨h1, by unfold fitsD; omega, ?_⟩
      rw [h4, hin]; rfl
    · exact .inr h
  | succ d ih =>
    intro m i w u acc a e hi hm hb ho hl hbd hq hJ kk
    obtain ⟨m, rfl⟩ : ∃ x, m = x + 1 := ⟨m - 1, by omega⟩
    show f16_b2 j1 _ _ _ _ _ _ w Q
    unfold f16_b2
    have cc : (i : Int) < ((n1 s : Nat) : Int) := by omega
    have c2 := cell_of_blk (n := 2) hq
    have q2 : (qC s a e)[2]? = some (.int .i64 e) := rfl
    rw [q2] at c2
    rcases hJ with ⟨h1, h2, h3, h4⟩ | ⟨h1, h2⟩
    rotate_left
    · subst h1
      have z2 : ¬ (2 : Int) = 0 := by decide
      try simp only [↓reduceIte, ↓LL, LM, Value.cells, Nat.reduceAdd, Option.some.injEq, exists_eq_left', decide_true, decide_false, if_true, if_false, reduceCtorEq, cond_true, cond_false, cc, c2, z2]
      exact kk w u acc a 2 hb ho (by omega) hbd hq (.inr ⟨rfl, h2⟩)
    subst h1
    have h3' : IntKind.u64.wrap ((i : Int) + 1) = ((i + 1 : Nat) : Int) := by rw [wu64 (by omega) (by omega)]; rfl
    have hne := own_ne ho hq (by decide)
    have e2 : (wd 2).toNat = 2 := rfl
    try simp only [↓reduceIte, ↓LL, LM, Value.cells, Nat.reduceAdd, Option.some.injEq, exists_eq_left', decide_true, decide_false, if_true, if_false, reduceCtorEq, cond_true, cond_false, cc, c2]
    refine f59_s q s a 0 2 h3 hs w _ hq fun w1 hq1 c1 => ?_
    rw [e2] at hq1 ⊢
    have hlt : ofB (byL (takeA s a 0 2).1) 0 < 65536 := by
      have h1 := ofB_lt (byL (takeA s a 0 2).1) 0 0 (fun x hx => byL_nn hx) (by simp)
      rw [Nat.zero_add, byL_len] at h1
      exact Nat.lt_of_lt_of_le h1 (Nat.pow_le_pow_right (by decide) (takeA_size s a 0 2))
    have e3 : IntKind.i64.wrap ((ofB (byL (takeA s a 0 2).1) 0 : Nat) : Int) = ((ofB (byL (takeA s a 0 2).1) 0 : Nat) : Int) := w64 (by omega) (by omega)
    have o1 := ownI_chg ho c1 hne
    have b1 : Below W.heap.size W w1 := bc hb hqB hb.size c1
    try simp only [↓reduceIte, ↓LL, LM, Value.cells, Nat.reduceAdd, Option.some.injEq, exists_eq_left', decide_true, decide_false, if_true, if_false, reduceCtorEq, cond_true, cond_false, e3]
    refine ap_one slt22 o1 (by omega) (by omega) b1.size fun u' w2 o2 b2 _ st2 => ?_
    have hq2 := st2 q _ hq1 (own_ne o1 hq1 (by decide))
    try simp only [↓reduceIte, ↓LL, LM, Value.cells, Nat.reduceAdd, Option.some.injEq, exists_eq_left', decide_true, decide_false, if_true, if_false, reduceCtorEq, cond_true, cond_false, h3']
    refine ih m (i + 1) w2 u' _ _ _ (by omega) (by omega) (b1.trans b2) o2 (by simp [hl]) (fun x hx => ?_) hq2 ?_ kk
    · rcases List.mem_append.1 hx with hx | hx
      · exact hbd x hx
      · rw [List.mem_singleton] at hx; omega
    · rcases Nat.lt_or_ge s.size (a + 2) with c | c
      · right
        rw [takeA_bad c h3]
        exact ⟨rfl, fun hf => by unfold fitsD at hf; clear hlt e3; omega⟩
      · left
        rw [takeA_ok c]
        refine ⟨rfl, show a + 2 = _ by omega, show a + 2 ≤ _ by omega, ?_⟩
        have hlen : (byL s).length = s.size := byL_len s
        rw [h4, prs_snoc i _ (by rw [List.length_drop]; omega) (fun x hx => byL_nn (List.mem_of_mem_drop hx))]
        congr 3
        rw [List.drop_drop, byL_take, List.drop_take]
        rw [h2, show 1 + 2 * i + 2 - (1 + 2 * i) = 2 from by omega]
theorem f16_s {s : ByteArray} (hs : s.size ≤ 4611686018427387904) (kk : ∀ w', Below w.heap.size w w' → dirB s = false → Q (.tuple #[.slice none 0 0, .int .i64 10]) w') (k0 : ∀ w' u, Below w.heap.size w w' → dirB s = true → ownI w.heap.size 3 .i64 w' u (lst s) → Q (.tuple #[u, .int .i64 0]) w') : f16 (.string s) w Q := by
  unfold f16
  refine Eq.mpr (smr_run (build87 s w)) ?_
  have b1 := b_psh w (.cells (Value.agg (qC s 0 0)).cells 87)
  have hq1 := blk_psh_new (w := w) (o := .cells (Value.agg (qC s 0 0)).cells 87)
  rw [bx_e]
  have hq1 : (psh w (.cells (Value.agg (qC s 0 0)).cells 87)).heap[w.heap.size]? = some (.cells (qC s (0 : Nat) 0) 87 (0, 0)) := hq1
  generalize psh w (.cells (Value.agg (qC s 0 0)).cells 87) = w1 at *
  have e1 : (wd 1).toNat = 1 := rfl
  try simp only [↓reduceIte, ↓LL, LM, Value.cells, Nat.reduceAdd, Option.some.injEq, exists_eq_left', decide_true, decide_false, if_true, if_false, reduceCtorEq, cond_true, cond_false]
  refine f59_s w.heap.size s 0 0 1 (Nat.zero_le _) hs w1 _ hq1 fun w2 hq2 c2 => ?_
  rw [e1] at hq2 ⊢
  have b2 : Below w.heap.size w w2 := bc b1 (Nat.le_refl _) b1.size c2
  have hx0 : s.extract 0 s.size = s := by apply byL_inj; rw [byL_take, List.take_of_length_le (by rw [byL_len]; omega)]; rfl
  have hn : ofB (byL (takeA s 0 0 1).1) 0 = n1 s := by
    have := (takeA_is s 0 0 1 (Nat.zero_le _)).1
    rw [hx0] at this
    rw [← this]
    with_unfolding_all rfl
  have hn1 := n1_lt s
  rw [hn]
  try simp only [↓reduceIte, ↓LL, LM, Value.cells, Nat.reduceAdd, Option.some.injEq, exists_eq_left', decide_true, decide_false, if_true, if_false, reduceCtorEq, cond_true, cond_false]
  have hJ : (((takeA s 0 0 1).2.2 = 0 ∧ (takeA s 0 0 1).2.1 = 1 + 2 * 0 ∧ (takeA s 0 0 1).2.1 ≤ s.size ∧ ([] : List Int) = prs 0 ((byL s).drop 1)) ∨ ((takeA s 0 0 1).2.2 = 2 ∧ ¬ fitsD s)) := by
    rcases Nat.lt_or_ge s.size 1 with c | c
    · rw [takeA_bad (by omega) (Nat.zero_le _)]
      exact .inr ⟨rfl, fun hf => by unfold fitsD at hf; omega⟩
    · rw [takeA_ok (by omega)]
      exact .inl ⟨rfl, rfl, by simp only; omega, rfl⟩
  have := read5_loop (W := w) (Q := Q) (q := w.heap.size) (j1 := f16_j1) hs (Nat.le_refl _) (by omega) (n1 s) (n1 s + 1) 0 w2 (.slice none 0 0) [] _ _ (by omega) (by omega) b2 ownI_nil rfl (by simp) hq2 hJ fun w3 u3 acc a e b3 o3 hl3 hbd3 hq3 hJ3 => ?_
  · exact ⟨_, this⟩
  unfold f16_j1
  try simp only [↓reduceIte, ↓LL, LM, Value.cells, Nat.reduceAdd, Option.some.injEq, exists_eq_left', decide_true, decide_false, if_true, if_false, reduceCtorEq, cond_true, cond_false]
  refine f14_s (ownI_rd o3) (by omega) fun w4 b4 => ?_
  have hq4 := stay b4 hq3
  have b04 := bt b3 b4
  have c2 := cell_of_blk (n := 2) hq4
  have q2 : (qC s a e)[2]? = some (.int .i64 e) := rfl
  rw [q2] at c2
  have g0 : ∀ x y : Value, (#[x, y] : Array Value)[0]? = some x := fun _ _ => rfl
  have g1 : ∀ x y : Value, (#[x, y] : Array Value)[1]? = some y := fun _ _ => rfl
  rcases hJ3 with ⟨h1, h2, h3⟩ | ⟨h1, h2⟩
  rotate_left
  · subst h1
    have z2 : ¬ (2 : Int) = 0 := by decide
    try simp only [↓reduceIte, ↓LL, LM, Value.cells, Nat.reduceAdd, Option.some.injEq, exists_eq_left', decide_true, decide_false, if_true, if_false, reduceCtorEq, cond_true, cond_false, g0, g1, c2, z2, ne_eq]
    refine kk w4 b04 ?_
    cases hd : dirB s with
    | false => rfl
    | true => exact absurd (dir_iff.1 hd).1 h2
  subst h1 h3
  by_cases z3 : (dirW (lst s)).2 = 0
  rotate_left
  · try simp only [↓reduceIte, ↓LL, LM, Value.cells, Nat.reduceAdd, Option.some.injEq, exists_eq_left', decide_true, decide_false, if_true, if_false, reduceCtorEq, cond_true, cond_false, g0, g1, c2, z3, ne_eq]
    refine kk w4 b04 ?_
    cases hd : dirB s with
    | false => rfl
    | true => exact absurd (by rw [(dir_iff.1 hd).2]) z3
  by_cases z4 : (dirW (lst s)).1 = s
  rotate_left
  · try simp only [↓reduceIte, ↓LL, LM, Value.cells, Nat.reduceAdd, Option.some.injEq, exists_eq_left', decide_true, decide_false, if_true, if_false, reduceCtorEq, cond_true, cond_false, g0, g1, c2, z3, z4, ne_eq]
    refine kk w4 b04 ?_
    cases hd : dirB s with
    | false => rfl
    | true => exact absurd (by rw [(dir_iff.1 hd).2]) z4
  try simp only [↓reduceIte, ↓LL, LM, Value.cells, Nat.reduceAdd, Option.some.injEq, exists_eq_left', decide_true, decide_false, if_true, if_false, reduceCtorEq, cond_true, cond_false, g0, g1, c2, z3, z4, ne_eq]
  exact k0 w4 u3 b04 (dir_iff.2 ⟨h2, Prod.ext z4 z3⟩) (ownI_below o3 b4)
end
end Go.Proofs.YtongpnolikkknaaDoor
