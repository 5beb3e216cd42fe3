/- Arguments opened, whatever their type: whole numbers, truths, texts, slices, structs, arrays; what a slice of them reads as; one block changed. -/
import Derived.Test.YtlmiimojgledpaaZ1
import Derived.ChangeShapes
import Derived.Test.YtlmiimojgledpaaRows
import Derived.Laws.Pointers
import Derived.Laws.Bits64b
import Derived.MapKept
import Derived.Maps.RangeRun
import Derived.DeepKeys5
import Derived.Maps.AppendAt
import Derived.Laws.CopyRow
import Derived.Laws.IdiomCopy
import Derived.SizedLaws
import Derived.Carry
import Derived.ProofKit
import Derived.JoinedCond
import Derived.Deep.CondSized
import Derived.OpenShut
import Derived.Shelf.Abstract
import Derived.Lib.AppendZeros
set_option linter.unusedVariables false
set_option linter.unusedSimpArgs false
set_option linter.unusedSectionVars false
namespace Go.Proofs.Ytlmiimojgledpaa
namespace Sh
open RowKit ChangeShapes
/-! one block changed -/
/-- below the old end all is as it was but block p -/
structure Chg (p : Nat) (w w' : World) : Prop where
  os : w'.os = w.os
  tape : w'.tape = w.tape
  output : w'.output = w.output
  size : w.heap.size ≤ w'.heap.size
  block : ∀ k, k < w.heap.size → k ≠ p → w'.heap[k]? = w.heap[k]?
theorem Upd.chg {p : Nat} {w w' : World} (h : Upd p w w') : Chg p w w' := ⟨h.os, h.tape, h.output, by rw [h.size]; exact Nat.le_refl _, fun k _ hk => h.block k hk⟩
theorem Chg.refl (p : Nat) (w : World) : Chg p w w := ⟨rfl, rfl, rfl, Nat.le_refl _, fun _ _ _ => rfl⟩
theorem Chg.of_below {p : Nat} {w w' : World} (h : Below w.heap.size w w') : Chg p w w' := ⟨h.os, h.tape, h.output, h.size, fun k hk _ => h.block k hk⟩
theorem Chg.trans {p : Nat} {a b c : World} (h : Chg p a b) (k : Chg p b c) : Chg p a c :=
  ⟨k.os.trans h.os, k.tape.trans h.tape, k.output.trans h.output, Nat.le_trans h.size k.size, fun i hi hp => (k.block i (Nat.lt_of_lt_of_le hi h.size) hp).trans (h.block i hi hp)⟩
theorem Chg.below {p B : Nat} {w w' : World} (h : Chg p w w') (hB : B ≤ p) (hw : B ≤ w.heap.size) : Below B w w' := ⟨h.os, h.tape, h.output, h.size, fun k hk => h.block k (by omega) (by omega)⟩
theorem Chg.keep {p q : Nat} {w w' : World} {o : Obj} (h : Chg p w w') (hq : w.heap[q]? = some o) (hne : q ≠ p) : w'.heap[q]? = some o := by rw [h.block q (blk_lt hq) hne]; exact hq
theorem Chg.drw {p : Nat} {w w' : World} (h : Chg p w w') : Chg p w (drw w') := ⟨h.os, h.tape, h.output, h.size, h.block⟩
theorem Chg.cell {p : Nat} {w w' : World} {a : Addr} {v : Value} (h : Chg p w w') (hc : w.cell? a = some v) (hne : a.block ≠ p) : w'.cell? a = some v := by
  have := cell_lt hc
  unfold World.cell? at hc ⊢
  rw [h.block _ this hne]; exact hc
theorem bc {B p : Nat} {w0 w w' : World} (b : Below B w0 w) (hB : B ≤ p) (hw : B ≤ w.heap.size) (h : Chg p w w') : Below B w0 w' := b.trans (h.below hB hw)
section
variable {w : World} {Q : Value → World → Prop} {K : Value → M} {K0 : M} {B : Nat}
theorem rds2 {b : Nat} {c : Array Value} {t : TypeId} {fr : Nat × Nat} (h : w.heap[b]? = some (.cells c t fr)) : rds w ⟨b, 0, none⟩ c :=
  rds_of_blk h (fun j v hj => by simpa using hj)
theorem ldn_box {n b : Nat} {c : Array Value} {t : TypeId} {fr : Nat × Nat} (h : w.heap[b]? = some (.cells c t fr)) (hn : c.size = n) (k : K (.agg c) w Q) : ldn n (.pointer (some ⟨b, 0, none⟩)) K w Q :=
  ⟨_, c, rfl, hn, rds2 h, k⟩
theorem ld_box {b o : Nat} {c : Array Value} {t : TypeId} {fr : Nat × Nat} {v : Value} (h : w.heap[b]? = some (.cells c t fr)) (hv : c[o]? = some v) (k : K v w Q) : ld (.pointer (some ⟨b, o, none⟩)) K w Q :=
  ⟨_, v, rfl, by rw [cell_of_blk h]; exact hv, k⟩
/-- one cell of a block stored -/
theorem st_box {b o : Nat} {c : Array Value} {t : TypeId} {v : Value} (h : w.heap[b]? = some (.cells c t (0, 0))) (ho : o < c.size) (hv : v.oneCell' = true)
    (k : ∀ w', w'.heap[b]? = some (.cells (c.setIfInBounds o v) t (0, 0)) → Upd b w w' → K0 w' Q) : st (.pointer (some ⟨b, o, none⟩)) v K0 w Q := by
  rw [st_e]
  refine ⟨by rw [cell_of_blk h]; simp [ho], frozen_zero h, hv, k _ (blk_setCell h) ?_⟩
  exact ⟨rfl, rfl, rfl, size_setCell, fun k hk => blk_setCell_ne hk⟩
end
/-! slices of whatever -/
abbrev RepT (α : Type) := World → List Value → α → Prop
def cellsAt (w : World) (a : Addr) (es : List Value) : Prop := ∀ j v, es[j]? = some v → w.cell? (a.add j) = some v
/-- a slice, each element n cells, that reads as l -/
def rdS {α : Type} (n : Nat) (R : RepT α) (w : World) (v : Value) (l : List α) : Prop :=
  (v = .slice none 0 0 ∧ l = []) ∨ ∃ a c, v = .slice (some a) l.length c ∧ l.length ≤ c ∧ ∀ i (h : i < l.length), ∃ es, es.length = n ∧ cellsAt w (a.add (i * n)) es ∧ R w es l[i]
theorem cellsAt_below {w w' : World} {a : Addr} {es : List Value} (hb : Below w.heap.size w w') (h : cellsAt w a es) : cellsAt w' a es := fun j v hj => cell_below hb (h j v hj)
def Stable {α : Type} (R : RepT α) : Prop := ∀ (w w' : World) (es : List Value) (x : α), Below w.heap.size w w' → R w es x → R w' es x
theorem rdS_below {α : Type} {n : Nat} {R : RepT α} (hR : Stable R) {w w' : World} {v : Value} {l : List α} (hb : Below w.heap.size w w') (h : rdS n R w v l) : rdS n R w' v l := by
  rcases h with h | ⟨a, c, rfl, hcc, h⟩
  · exact .inl h
  · refine .inr ⟨a, c, rfl, hcc, fun i hi => ?_⟩
    obtain ⟨es, h1, h2, h3⟩ := h i hi
    exact ⟨es, h1, cellsAt_below hb h2, hR _ _ _ _ hb h3⟩
theorem rdS_mono {α : Type} {n : Nat} {R R' : RepT α} {w : World} (hR : ∀ es x, R w es x → R' w es x) {v : Value} {l : List α} (h : rdS n R w v l) : rdS n R' w v l := by
  rcases h with h | ⟨a, c, rfl, hcc, h⟩
  · exact .inl h
  · refine .inr ⟨a, c, rfl, hcc, fun i hi => ?_⟩
    obtain ⟨es, h1, h2, h3⟩ := h i hi
    exact ⟨es, h1, h2, hR _ _ h3⟩
theorem rdS_len {α : Type} {n : Nat} {R : RepT α} {w : World} {v : Value} {l : List α} (h : rdS n R w v l) : ∃ p c, v = .slice p l.length c := by
  rcases h with ⟨rfl, rfl⟩ | ⟨a, c, rfl, hcc, h⟩
  · exact ⟨none, 0, rfl⟩
  · exact ⟨some a, c, rfl⟩
theorem lnl_S {α : Type} {n : Nat} {R : RepT α} {w w1 : World} {v : Value} {l : List α} {K : Value → M} {Q : Value → World → Prop} (h : rdS n R w v l) (kk : K (.int .i64 l.length) w1 Q) : lnl v K w1 Q := by
  obtain ⟨p, c, rfl⟩ := rdS_len h
  rw [lnl_e]; exact kk
theorem ia_S {α : Type} {n : Nat} {R : RepT α} {w : World} {v : Value} {l : List α} {i : Nat} {k : IntKind} {K : Value → M} {Q : Value → World → Prop} (h : rdS n R w v l) (hi : i < l.length)
    (kk : ∀ a es, es.length = n → cellsAt w a es → R w es l[i] → K (.pointer (some a)) w Q) : ia n v (.int k (i : Int)) K w Q := by
  rcases h with ⟨rfl, rfl⟩ | ⟨a, c, rfl, hcc, h⟩
  · simp at hi
  · obtain ⟨es, h1, h2, h3⟩ := h i hi
    rw [ia_e]
    refine ⟨by omega, by omega, ?_⟩
    exact kk _ es h1 (by rw [Int.toNat_natCast]; exact h2) h3
/-- an element's place, the same in whatever world -/
theorem rdS_at {α : Type} {n : Nat} {R : RepT α} {w : World} {v : Value} {l : List α} (h : rdS n R w v l) {i : Nat} (hi : i < l.length) :
    ∃ ad es, es.length = n ∧ cellsAt w ad es ∧ R w es l[i] ∧ ∀ (k : IntKind) (K : Value → M) (w' : World) (Q : Value → World → Prop), ia n v (.int k (i : Int)) K w' Q = K (.pointer (some ad)) w' Q := by
  rcases h with ⟨rfl, rfl⟩ | ⟨a, c, rfl, hcc, h⟩
  · simp at hi
  · obtain ⟨es, h1, h2, h3⟩ := h i hi
    refine ⟨_, es, h1, h2, h3, fun k K w' Q => ?_⟩
    rw [ia_e, Int.toNat_natCast]
    apply propext
    constructor
    · rintro ⟨_, _, h⟩; exact h
    · intro h; exact ⟨by omega, by omega, h⟩
theorem cell_at {W w : World} {ad : Addr} {es : List Value} {j : Nat} {v : Value} (hb : Below W.heap.size W w) (hc : cellsAt W ad es) (hj : es[j]? = some v) : w.cell? (ad.add j) = some v := cell_below hb (hc j v hj)
theorem ldn_at {n : Nat} {w : World} {a : Addr} {es : List Value} {K : Value → M} {Q : Value → World → Prop} (hc : cellsAt w a es) (hn : es.length = n) (k : K (.agg es.toArray) w Q) : ldn n (.pointer (some a)) K w Q :=
  ⟨a, es.toArray, rfl, by simpa using hn, fun j v hj => hc j v (by simpa using hj), k⟩
theorem ld_at {j : Nat} {w : World} {a : Addr} {es : List Value} {v : Value} {K : Value → M} {Q : Value → World → Prop} (hc : cellsAt w a es) (hj : es[j]? = some v) (k : K v w Q) : ld (.pointer (some (a.add j))) K w Q :=
  ⟨_, v, rfl, hc j v hj, k⟩
theorem cellsAt_get {w : World} {a : Addr} {es : List Value} {j : Nat} {v : Value} (hc : cellsAt w a es) (hj : es[j]? = some v) : w.cell? (a.add j) = some v := hc j v hj
theorem add_zero' (a : Addr) : a.add 0 = a := rfl
/-- memory's shape of a row's own, as a reading -/
theorem cellsAt_blk {w : World} {b : Nat} {c : Array Value} {t : TypeId} {fr : Nat × Nat} (h : w.heap[b]? = some (.cells c t fr)) : cellsAt w ⟨b, 0, none⟩ c.toList := fun j v hj => by
  rw [add_lit, Nat.zero_add, cell_of_blk h]; simpa using hj
/-! opening -/
section
variable {P : Program}
/-- whatever is read as a T is an α, told by R, of at most that bulk -/
def Opens (P : Program) (t : TypeId) (α : Type) (R : RepT α) (bulk : α → Nat) : Prop :=
  ∀ {H : Type} (enc : TypeId × Value → H) (w : World) (held : Bool) (fuel : Nat) (cs : List Value) (x : DataW H × List MemPlace),
    DataW.trod enc P w 0 (fun _ => true) held fuel t cs = some x → (x.1.weights P t).all (· ≤ reachBytes) = true → ∃ a, R w cs a ∧ bulk a ≤ Rows.uptoBulk x.1
theorem step_of {H : Type} {enc : TypeId × Value → H} {w : World} {sp : Nat → Bool} {held : Bool} {fuel : Nat} {t : TypeId} {cs : List Value} {x : DataW H × List MemPlace} (h : DataW.trod enc P w 0 sp held fuel t cs = some x) :
    ∃ n, fuel = n + 1 ∧ DataW.trod enc P w 0 sp held (n + 1) t cs = some x := by
  cases fuel with
  | zero => simp [DataW.trod] at h
  | succ n => exact ⟨n, rfl, h⟩
theorem mapM_all' {α β : Type} {g : α → Option β} : ∀ {l : List α} {ys : List β}, l.mapM g = some ys → ys.length = l.length ∧ ∀ (i : Nat) (h : i < l.length), ∃ y, g l[i] = some y ∧ ys[i]? = some y := by
  intro l
  induction l with
  | nil => intro ys h; simp at h; subst h; simp
  | cons a l ih =>
    intro ys h
    rw [List.mapM_cons] at h
    cases ha : g a with
    | none => simp [ha] at h
    | some y =>
      cases hl : l.mapM g with
      | none => simp [ha, hl] at h
      | some zs =>
        simp [ha, hl] at h
        subst h
        obtain ⟨h1, h2⟩ := ih hl
        refine ⟨by simp [h1], fun i hi => ?_⟩
        cases i with
        | zero => exact ⟨y, ha, rfl⟩
        | succ i => simpa using h2 i (by simpa using hi)
def iR (k : IntKind) : RepT Int := fun _ cs a => cs = [.int k a] ∧ (Lit.int k a).wf = true
def bR : RepT Bool := fun _ cs a => cs = [.bool a]
def sR : RepT ByteArray := fun _ cs s => cs = [.string s] ∧ s.size ≤ reachBytes
/-- a slice: its cell, what it reads as, its size -/
def lR {α : Type} (n b : Nat) (R : RepT α) : RepT (List α) := fun w cs l => ∃ v, cs = [v] ∧ rdS n R w v l ∧ l.length * b ≤ reachBytes
theorem iR_st {k : IntKind} : Stable (iR k) := fun _ _ _ _ _ h => h
theorem bR_st : Stable bR := fun _ _ _ _ _ h => h
theorem sR_st : Stable sR := fun _ _ _ _ _ h => h
theorem op_int {t : TypeId} {k : IntKind} (hu : P.underlying t = some (.int k)) : Opens P t Int (iR k) (fun _ => 1) := by
  intro H enc w held fuel cs x h _
  obtain ⟨a, h1, h2, h3⟩ := DataW.trod_int hu h
  refine ⟨a, ⟨h1, h3⟩, ?_⟩
  cases x with | mk d p => cases d with
    | lit l => cases l <;> simp [Rows.uptoBulk]
    | _ => simp [Rows.uptoBulk]
theorem op_bool {t : TypeId} (hu : P.underlying t = some .bool) : Opens P t Bool bR (fun _ => 1) := by
  intro H enc w held fuel cs x h _
  obtain ⟨n, rfl, h⟩ := step_of h
  rw [DataW.trod_step] at h
  unfold DataW.trodStep at h
  simp only [hu] at h
  split at h <;> first | (cases h; done) | (rename_i heq _; cases heq; done) | skip
  rename_i b _ _
  cases h
  exact ⟨b, rfl, by simp [Rows.uptoBulk]⟩
theorem op_str {t : TypeId} (hu : P.underlying t = some .string) : Opens P t ByteArray sR (fun s => s.size + 1) := by
  intro H enc w held fuel cs x h hw
  obtain ⟨n, rfl, h⟩ := step_of h
  rw [DataW.trod_step] at h
  unfold DataW.trodStep at h
  simp only [hu] at h
  split at h <;> first | (cases h; done) | (rename_i heq _; cases heq; done) | skip
  rename_i s _ _
  split at h
  · rename_i h1
    cases h
    have hw' : s.data.toList.length ≤ reachBytes := by simpa only [DataW.weights, List.all_cons, List.all_nil, Bool.and_true, decide_eq_true_eq] using hw
    refine ⟨s, ⟨rfl, by rw [Array.length_toList] at hw'; exact hw'⟩, ?_⟩
    simp [Rows.uptoBulk]
  · cases h
theorem cells?_at {w : World} {a : Addr} {n : Nat} {es : List Value} (h : w.cells? 0 a n = some es) : es.length = n ∧ cellsAt w a es := by
  unfold World.cells? at h
  rw [if_pos (Nat.zero_le _)] at h
  obtain ⟨h1, h2⟩ := mapM_all' h
  rw [List.length_range] at h1
  refine ⟨h1, fun j v hj => ?_⟩
  have hlt : j < es.length := by
    rcases Nat.lt_or_ge j es.length with h | h
    · exact h
    · simp [List.getElem?_eq_none h] at hj
  obtain ⟨y, g1, g2⟩ := h2 j (by simpa [← h1] using hlt)
  rw [List.getElem_range] at g1
  rw [hj] at g2
  cases g2
  exact g1
theorem sum_le_all {H : Type} {α : Type} {b : α → Nat} : ∀ (l : List α) (ys : List (DataW H)), l.length = ys.length → (∀ (i : Nat) (h : i < l.length) (h' : i < ys.length), b l[i] ≤ Rows.uptoBulk ys[i]) → (l.map b).sum ≤ Rows.uptoBulkAll ys := by
  intro l
  induction l with
  | nil => intro ys _ _; simp
  | cons x l ih =>
    intro ys hl h
    cases ys with
    | nil => simp at hl
    | cons y ys =>
      have h0 := h 0 (by simp) (by simp)
      have := ih ys (by simpa using hl) (fun i h1 h2 => h (i + 1) (Nat.succ_lt_succ h1) (Nat.succ_lt_succ h2))
      simp only [List.map_cons, List.sum_cons, Rows.uptoBulkAll]
      simp at h0
      omega
theorem choose_list {α : Type} {n : Nat} {p : Nat → α → Prop} (h : ∀ i, i < n → ∃ a, p i a) : ∃ l : List α, l.length = n ∧ ∀ i (hi : i < l.length), p i l[i] := by
  induction n with
  | zero => exact ⟨[], rfl, fun i hi => by simp at hi⟩
  | succ n ih =>
    obtain ⟨l, h1, h2⟩ := ih (fun i hi => h i (by omega))
    obtain ⟨a, ha⟩ := h n (by omega)
    refine ⟨l ++ [a], by simp [h1], fun i hi => ?_⟩
    by_cases c : i < l.length
    · rw [List.getElem_append_left c]; exact h2 i c
    · have : i = l.length := by simp at hi; omega
      subst this
      simp [h1, ha]
theorem weights_all {H : Type} {e : TypeId} : ∀ (l : List (DataW H)), (DataW.weightsAll P e l).all (· ≤ reachBytes) = true → ∀ (i : Nat) (h : i < l.length), (l[i].weights P e).all (· ≤ reachBytes) = true := by
  intro l
  induction l with
  | nil => intro _ i h; simp at h
  | cons d l ih =>
    intro hw i h
    simp only [DataW.weightsAll, List.all_append, Bool.and_eq_true] at hw
    cases i with
    | zero => exact hw.1
    | succ i => exact ih hw.2 i (by simpa using h)
theorem op_slice {t e : TypeId} {n : Nat} {α : Type} {R : RepT α} {b : α → Nat} (hu : P.underlying t = some (.slice e)) (hn : P.cellsOf e = n) (he : Opens P e α R b) : Opens P t (List α) (lR n (P.bytesOf e) R) (fun l => (l.map b).sum + 1) := by
  intro H enc w held fuel cs x h hw
  subst hn
  obtain ⟨f, rfl, h⟩ := step_of h
  rw [DataW.trod_step] at h
  unfold DataW.trodStep at h
  simp only [hu] at h
  split at h <;> first | (cases h; done) | (rename_i heq _; cases heq; done) | skip
  · cases h; exact ⟨[], ⟨_, rfl, .inl ⟨rfl, rfl⟩, by simp⟩, by simp [Rows.uptoBulk]⟩
  · rename_i a len cap heq _
    cases heq
    simp only [Option.ite_none_right_eq_some, Option.bind_eq_some_iff, Option.map_eq_some_iff, if_true] at h
    obtain ⟨hc, ys, hy, zs, hz, rfl⟩ := h
    obtain ⟨hl, hall⟩ := mapM_all' hy
    rw [List.length_range] at hl
    simp only [DataW.weights, hu, List.all_cons, List.all_append, Bool.and_eq_true, decide_eq_true_eq] at hw
    have hwa := fun (i : Nat) (h : i < (ys.map (·.1)).length) => weights_all (ys.map (·.1)) hw.2.1 i h
    have key : ∀ i, i < len → ∃ q : α, ∃ y es, ys[i]? = some y ∧ es.length = P.cellsOf e ∧ cellsAt w (a.add (i * P.cellsOf e)) es ∧ R w es q ∧ b q ≤ Rows.uptoBulk y.1 := by
      intro i hi
      obtain ⟨y, g1, g2⟩ := hall i (by simpa using hi)
      rw [List.getElem_range] at g1
      cases hcs : w.cells? 0 (a.add (i * P.cellsOf e)) (P.cellsOf e) with
      | none => simp [hcs] at g1
      | some es =>
        simp [hcs] at g1
        obtain ⟨k1, k2⟩ := cells?_at hcs
        have hlt : i < ys.length := by omega
        rw [List.getElem?_eq_getElem hlt] at g2
        have hww := hwa i (by simpa using hlt)
        cases g2
        obtain ⟨q, k3, k4⟩ := he enc w held f es _ g1 (by simpa using hww)
        have g2 : ys[i]? = some ys[i] := List.getElem?_eq_getElem hlt
        exact ⟨q, _, es, g2, k1, k2, k3, k4⟩
    obtain ⟨l, hll, hlp⟩ := choose_list key
    refine ⟨l, ?_, ?_⟩
    · refine ⟨_, rfl, .inr ⟨a, cap, by rw [hll], by rw [hll]; exact hc.2.1, fun i hi => ?_⟩, ?_⟩
      · obtain ⟨y, es, _, k1, k2, k3, _⟩ := hlp i hi
        exact ⟨es, k1, k2, k3⟩
      · have h9 := hw.1
        rw [List.length_map, hl] at h9
        rw [hll]
        exact Nat.le_trans (Nat.mul_le_mul_right _ (Nat.le_add_right _ _)) h9
    · simp only [Rows.uptoBulk]
      have := sum_le_all (b := b) l (ys.map (·.1)) (by simp [hll, hl]) (fun i h1 h2 => by
        obtain ⟨y, es, k0, _, _, _, k4⟩ := hlp i h1
        have h3 : i < ys.length := by simpa using h2
        rw [List.getElem?_eq_getElem h3] at k0
        cases k0
        simpa using k4)
      omega
/-- a struct's fields, one after the other -/
def OpensF (P : Program) (fs : List Field) (α : Type) (R : RepT α) (bulk : α → Nat) : Prop :=
  ∀ {H : Type} (enc : TypeId × Value → H) (w : World) (held : Bool) (fuel : Nat) (cs : List Value) (ys : List (DataW H × List MemPlace)),
    (fs.mapM fun f => DataW.trod enc P w 0 (fun _ => true) held fuel f.type ((cs.drop f.offset).take (P.cellsOf f.type))) = some ys →
    (DataW.weightsEach P (fs.map (·.type)) (ys.map (·.1))).all (· ≤ reachBytes) = true → ∃ a, R w cs a ∧ bulk a ≤ Rows.uptoBulkAll (ys.map (·.1))
theorem opf_nil : OpensF P [] Unit (fun _ _ _ => True) (fun _ => 0) := by
  intro H enc w held fuel cs ys h _
  exact ⟨(), trivial, by simp⟩
theorem opf_cons {f : Field} {fs : List Field} {n : Nat} {α β : Type} {R : RepT α} {S : RepT β} {b : α → Nat} {c : β → Nat} (hn : P.cellsOf f.type = n) (he : Opens P f.type α R b) (hf : OpensF P fs β S c) :
    OpensF P (f :: fs) (α × β) (fun w cs x => R w ((cs.drop f.offset).take n) x.1 ∧ S w cs x.2) (fun x => b x.1 + c x.2) := by
  intro H enc w held fuel cs ys h hw
  rw [List.mapM_cons] at h
  cases h1 : DataW.trod enc P w 0 (fun _ => true) held fuel f.type ((cs.drop f.offset).take (P.cellsOf f.type)) with
  | none => simp [h1] at h
  | some y =>
    simp only [h1] at h
    cases h2 : (fs.mapM fun f => DataW.trod enc P w 0 (fun _ => true) held fuel f.type ((cs.drop f.offset).take (P.cellsOf f.type))) with
    | none => simp [h2] at h
    | some zs =>
      simp [h2] at h
      subst h
      simp only [List.map_cons, DataW.weightsEach, List.all_append, Bool.and_eq_true] at hw
      obtain ⟨a, k1, k2⟩ := he enc w held fuel _ y h1 hw.1
      obtain ⟨a', k3, k4⟩ := hf enc w held fuel cs zs h2 hw.2
      rw [hn] at k1
      exact ⟨(a, a'), ⟨k1, k3⟩, by simp only [List.map_cons, Rows.uptoBulkAll]; omega⟩
theorem op_struct {t : TypeId} {fs : Array Field} {n : Nat} {α : Type} {R : RepT α} {b : α → Nat} (hu : P.underlying t = some (.struct fs)) (hn : P.cellsOf t = n) (hf : OpensF P fs.toList α R b) : Opens P t α (fun w cs x => cs.length = n ∧ R w cs x) (fun x => b x + 1) := by
  intro H enc w held fuel cs x h hw
  obtain ⟨f, rfl, h⟩ := step_of h
  rw [DataW.trod_step] at h
  unfold DataW.trodStep at h
  simp only [hu, hn] at h
  simp only [Option.ite_none_right_eq_some, Option.map_eq_some_iff] at h
  obtain ⟨hc, ys, hy, rfl⟩ := h
  have hf' : (fs.toList.mapM fun f' => DataW.trod enc P w 0 (fun _ => true) held f f'.type ((cs.drop f'.offset).take (P.cellsOf f'.type))) = some ys := by simpa using hy
  simp only [DataW.weights, hu] at hw
  obtain ⟨a, k1, k2⟩ := hf enc w held f cs ys hf' hw
  exact ⟨a, ⟨hc, k1⟩, by simp only [Rows.uptoBulk]; omega⟩
theorem op_arr {t e : TypeId} {m n k : Nat} {α : Type} {R : RepT α} {b : α → Nat} (hu : P.underlying t = some (.array m e)) (hn : P.cellsOf t = k) (hk : P.cellsOf e = n) (he : Opens P e α R b) :
    Opens P t (List α) (fun w cs l => cs.length = k ∧ l.length = m ∧ ∀ i (h : i < l.length), R w ((cs.drop (i * n)).take n) l[i]) (fun l => (l.map b).sum + 1) := by
  intro H enc w held fuel cs x h hw
  obtain ⟨f, rfl, h⟩ := step_of h
  rw [DataW.trod_step] at h
  unfold DataW.trodStep at h
  simp only [hu, hn] at h
  simp only [Option.ite_none_right_eq_some, Option.map_eq_some_iff, hk] at h
  obtain ⟨hc, ys, hy, rfl⟩ := h
  obtain ⟨hl, hall⟩ := mapM_all' hy
  rw [List.length_range] at hl
  simp only [DataW.weights, hu] at hw
  have hwa := fun (i : Nat) (h : i < (ys.map (·.1)).length) => weights_all (ys.map (·.1)) hw i h
  have key : ∀ i, i < m → ∃ q : α, ∃ y, ys[i]? = some y ∧ R w ((cs.drop (i * n)).take n) q ∧ b q ≤ Rows.uptoBulk y.1 := by
    intro i hi
    obtain ⟨y, g1, g2⟩ := hall i (by simpa using hi)
    rw [List.getElem_range] at g1
    have hlt : i < ys.length := by omega
    rw [List.getElem?_eq_getElem hlt] at g2
    have hww := hwa i (by simpa using hlt)
    cases g2
    obtain ⟨q, k3, k4⟩ := he enc w held f _ _ g1 (by simpa using hww)
    exact ⟨q, _, List.getElem?_eq_getElem hlt, k3, k4⟩
  obtain ⟨l, hll, hlp⟩ := choose_list key
  refine ⟨l, ⟨hc, hll, fun i hi => ?_⟩, ?_⟩
  · obtain ⟨y, _, k3, _⟩ := hlp i hi
    exact k3
  · simp only [Rows.uptoBulk]
    have := sum_le_all (b := b) l (ys.map (·.1)) (by simp [hll, hl]) (fun i h1 h2 => by
      obtain ⟨y, k0, _, k4⟩ := hlp i h1
      have h3 : i < ys.length := by simpa using h2
      rw [List.getElem?_eq_getElem h3] at k0
      cases k0
      simpa using k4)
    omega
theorem Opens.mono {t : TypeId} {α : Type} {β : Type} {R : RepT α} {S : RepT β} {b : α → Nat} {c : β → Nat} (h : Opens P t α R b) (f : ∀ w cs a, R w cs a → ∃ x, S w cs x ∧ c x ≤ b a) : Opens P t β S c := by
  intro H enc w held fuel cs x hx hw
  obtain ⟨a, h1, h2⟩ := h enc w held fuel cs x hx hw
  obtain ⟨y, h3, h4⟩ := f w cs a h1
  exact ⟨y, h3, Nat.le_trans h4 h2⟩
end
/-- an argument of one cell -/
theorem open_one {P : Program} {t : TypeId} {α : Type} {R : RepT α} {b : α → Nat} (h : Opens P t α R b) (hs : isSc P t = true) (h1 : ∀ w cs a, R w cs a → ∃ v, cs = [v])
    {H : Type} {enc : TypeId × Value → H} {W : World} {held : Bool} {r : Reach} {b0 : Nat} {v : Value} {d : DataW H} {ps : List MemPlace}
    (hv : Value.okWide P W r b0 t v) (hd : DataW.Trod enc P W 0 (fun _ => true) held t v d ps) (hw : (d.weights P t).all (· ≤ reachBytes) = true) : ∃ a, R W [v] a ∧ b a ≤ Rows.uptoBulk d := by
  obtain ⟨fuel, hf⟩ := hd
  obtain ⟨a, h2, h3⟩ := h enc W held fuel _ _ hf hw
  refine ⟨a, ?_, h3⟩
  suffices v.cells = #[v] by rw [this] at h2; exact h2
  cases v with
  | agg cs =>
    exfalso
    unfold isSc at hs
    unfold Value.okWide at hv
    cases hu : P.underlying t with
    | none => simp [hu] at hs
    | some u => cases u <;> simp [hu] at hs <;> simp [hu, Cell.okWide, Cell.ok] at hv
  | _ => rfl
/-- an argument of several -/
theorem open_agg {P : Program} {t : TypeId} {n : Nat} {α : Type} {R : RepT α} {b : α → Nat} (h : Opens P t α R b) (hs : isAg P t n = true)
    {H : Type} {enc : TypeId × Value → H} {W : World} {held : Bool} {r : Reach} {b0 : Nat} {v : Value} {d : DataW H} {ps : List MemPlace}
    (hv : Value.okWide P W r b0 t v) (hd : DataW.Trod enc P W 0 (fun _ => true) held t v d ps) (hw : (d.weights P t).all (· ≤ reachBytes) = true) : ∃ a cs, v = .agg cs ∧ R W cs.toList a ∧ b a ≤ Rows.uptoBulk d := by
  obtain ⟨fuel, hf⟩ := hd
  obtain ⟨a, h2, h3⟩ := h enc W held fuel _ _ hf hw
  unfold isAg at hs
  unfold Value.okWide at hv
  cases hu : P.underlying t with
  | none => simp [hu] at hs
  | some u => cases u <;> simp [hu] at hs <;> simp only [hu] at hv <;> (obtain ⟨cs, rfl, _⟩ := hv; exact ⟨a, cs, rfl, h2, h3⟩)
end Sh
end Go.Proofs.Ytlmiimojgledpaa

namespace Go.Proofs.Ytlmiimojgledpaa
namespace Sh
open RowKit
theorem wrap_u8 {x : Int} : IntKind.u8.wrap x = x % 256 := by
  unfold IntKind.wrap
  simp [IntKind.signed, IntKind.bits]
theorem wrap_u64 {x : Int} : IntKind.u64.wrap x = x % 18446744073709551616 := by
  unfold IntKind.wrap
  simp [IntKind.signed, IntKind.bits]
theorem Below_nil {w w' : World} (h : w.grownBy w' (Value.slice none 0 0).ownBlock) : Below w.heap.size w w' := (Below.refl _ _).grown h (Nat.le_refl _) (fun k hk => by cases hk)
theorem of_drw {B : Nat} {w w' : World} (h : Below B (drw w) w') : Below B w w' := ⟨h.os, h.tape, h.output, h.size, h.block⟩
section
variable {P : Program} {w : World} {Q : Value → World → Prop} {K : Value → M} {K0 : M} {B : Nat}
theorem smr_run {s : Sem Value} {v : Value} (h : s.run P w = .ok v w) : smr P s K w Q = K v w Q := by
  rw [smr_e, h]
  apply propext
  constructor
  · rintro ⟨v', h1, h2⟩; cases h1; exact h2
  · intro h2; exact ⟨v, rfl, h2⟩
theorem pn_eq {t : TypeId} {p : Option Addr} {x y : Operand} (h : P.underlying t = some (.pointer (P.pointee t))) :
    smr P (do eqGuard .eql t x y (.pointer p) (.pointer none); binOp .eql t (.pointer p) (.pointer none)) K w Q = K (.bool p.isNone) w Q :=
  smr_run (by simp [eqGuard, run_eql_pointer_nil w t p h])
theorem pn_ne {t : TypeId} {p : Option Addr} {x y : Operand} (h : P.underlying t = some (.pointer (P.pointee t))) :
    smr P (do eqGuard .neq t x y (.pointer p) (.pointer none); binOp .neq t (.pointer p) (.pointer none)) K w Q = K (.bool (!p.isNone)) w Q :=
  smr_run (by simp [eqGuard, run_neq_pointer_nil w t p h])
/-- an element of a row of the call's own stored -/
theorem ia_st {e : TypeId} {k j : IntKind} {v : Value} {l : List Int} {i : Nat} {x : Int} (h : ownI B e k w v l) (hi : i < l.length)
    (kk : ∀ w', ownI B e k w' v (l.set i x) → (∃ g, v.ownBlock = some g ∧ B ≤ g ∧ g < w.heap.size ∧ Upd g w w') → K0 w' Q) : ia 1 v (.int j (i : Int)) (fun p => st p (.int k x) K0) w Q := by
  obtain ⟨h1, h2⟩ := h
  rcases h2 with ⟨rfl, h0⟩ | ⟨g, cap, cur, rfl, hg, hb, hn, hm, hs, ht⟩
  · omega
  · rw [ia_e]
    refine ⟨by omega, by omega, ?_⟩
    rw [Int.toNat_natCast, Nat.mul_one, add_lit, Nat.zero_add]
    simp only [Nat.mul_one] at hs ht
    refine st_box hb (by omega) rfl fun w' hw hu => ?_
    refine kk w' ?_ ⟨g, rfl, hg, blk_lt hb, hu⟩
    refine ⟨by simp, .inr ⟨g, cap, cur.setIfInBounds i (.int k x), by simp, hg, hw, by simpa using hn, hm, by simp [hs], ?_⟩⟩
    have hl : (cur.setIfInBounds i (.int k x)).toList = cur.toList.set i (.int k x) := by simp
    rw [hl, List.length_set, Nat.mul_one, List.take_set, ht, List.map_set]
/-- the same row behind a change of a block that isn't its own -/
theorem ownI_chg {e : TypeId} {k : IntKind} {v : Value} {l : List Int} {p : Nat} {w' : World} (h : ownI B e k w v l) (hc : Chg p w w') (hp : v.ownBlock ≠ some p) : ownI B e k w' v l := by
  obtain ⟨h1, h2⟩ := h
  refine ⟨h1, ?_⟩
  rcases h2 with h2 | ⟨g, cap, cur, rfl, hg, hb, rest⟩
  · exact .inl h2
  · refine .inr ⟨g, cap, cur, rfl, hg, hc.keep hb (fun e => hp (by rw [e]; rfl)), rest⟩
theorem ownI_drw {e : TypeId} {k : IntKind} {v : Value} {l : List Int} (h : ownI B e k w v l) : ownI B e k (drw w) v l := h
theorem or_run {a b : Nat} (ha : a < 18446744073709551616) (hb : b < 18446744073709551616) : bws .or .u64 (.int .u64 (a : Int)) (.int .u64 (b : Int)) K w Q = K (.int .u64 ((a ||| b : Nat) : Int)) w Q := by
  have e : ∀ (P : Program) (w : World), (Op.intBits .or .u64 (a : Int) (b : Int)).run P w = .ok (.int .u64 ((a ||| b : Nat) : Int)) w := fun P w => by
    rw [Go.intBits_or, bits_or_u64_nat a b ha hb]; rfl
  apply propext
  constructor
  · rintro ⟨a', b', v, h1, h2, h3, h4⟩
    cases h1; cases h2
    have := (h3 default w).symm.trans (e _ w)
    cases this
    exact h4
  · intro h; exact ⟨_, _, _, rfl, rfl, e, h⟩
/-- the first of a slice -/
theorem sll_S {α : Type} {n : Nat} {R : RepT α} {v : Value} {l : List α} {k : Nat} {j : IntKind} (h : rdS n R w v l) (hk : k ≤ l.length) (kk : ∀ v', rdS n R w v' (l.take k) → K v' w Q) : sll n v none (some (.int j (k : Int))) K w Q := by
  rcases h with ⟨rfl, rfl⟩ | ⟨a, c, rfl, hcc, h⟩
  · have : k = 0 := by simpa using hk
    subst this
    refine ⟨none, 0, 0, 0, 0, rfl, ⟨_, _, rfl, by omega, by omega, by omega⟩, rfl, ?_⟩
    exact kk _ (.inl ⟨by simp, by simp⟩)
  · refine ⟨some a, l.length, c, 0, k, rfl, ⟨_, _, rfl, by omega, by omega, by omega⟩, rfl, ?_⟩
    have ev : (if c = 0 then some a else (some a).map (·.add (0 * n))) = some a := by split <;> simp [add_zero']
    rw [ev, Nat.sub_zero, Nat.sub_zero]
    refine kk _ (.inr ⟨a, c, by rw [List.length_take, Nat.min_eq_left hk], by rw [List.length_take]; omega, fun i hi => ?_⟩)
    have hi' : i < l.length := by simp at hi; omega
    obtain ⟨es, h1, h2, h3⟩ := h i hi'
    exact ⟨es, h1, h2, by simpa using h3⟩
end
end Sh
end Go.Proofs.Ytlmiimojgledpaa

namespace Go.Proofs.Ytlmiimojgledpaa
namespace Sh
open RowKit Go.MapKept
/-- a map's type, its keys' -/
structure KeyK (P : Program) (t kt et : TypeId) (d : TypeDesc) {α : Type} (kv : α → Value) : Prop where
  hm : P.underlying t = some (.map kt et)
  hd : P.underlying kt = some d
  key : ∀ a, IsKey d (kv a)
  inj : ∀ a b, kv a = kv b → a = b
def MapAt {α : Type} (kv : α → Value) (w : World) (b : Nat) (L : List (α × Value)) : Prop :=
  ∃ es clock, w.heap[b]? = some (.map es clock) ∧ Stamped es clock ∧ es.toList.map (fun e => (e.key, e.val)) = L.map (fun p => (kv p.1, p.2))
def put {α : Type} [DecidableEq α] (L : List (α × Value)) (k : α) (v : Value) : List (α × Value) :=
  if k ∈ L.map (·.1) then L.map (fun p => if p.1 = k then (k, v) else p) else L ++ [(k, v)]
def del {α : Type} [DecidableEq α] (L : List (α × Value)) (k : α) : List (α × Value) := L.filter (fun p => decide (p.1 ≠ k))
def lk {α : Type} [DecidableEq α] (L : List (α × Value)) (k : α) : Option Value := (L.find? (fun p => decide (p.1 = k))).map (·.2)
theorem blk_sb {w : World} {b : Nat} {o o' : Obj} (h : w.heap[b]? = some o) : (sb w b o').heap[b]? = some o' := by simp [sb, blk_lt h]
theorem Upd_sb {w : World} {b : Nat} {o : Obj} : Upd b w (sb w b o) := ⟨rfl, rfl, rfl, by simp [sb], fun k hk => by simp [sb, Array.getElem?_setIfInBounds_ne (Ne.symm hk)]⟩
section
variable {α : Type} [DecidableEq α] {kv : α → Value} {P : Program} {t kt et : TypeId} {d : TypeDesc} {w : World} {b : Nat} {L : List (α × Value)} {K : Value → M} {K0 : M} {Q : Value → World → Prop}
omit [DecidableEq α] in
theorem MapAt.stay {w' : World} (h : MapAt kv w b L) (hb : w'.heap[b]? = w.heap[b]?) : MapAt kv w' b L := by
  obtain ⟨es, clock, h1, h2, h3⟩ := h
  exact ⟨es, clock, by rw [hb]; exact h1, h2, h3⟩
omit [DecidableEq α] in
theorem MapAt.lt (h : MapAt kv w b L) : b < w.heap.size := by obtain ⟨es, clock, h1, _⟩ := h; exact blk_lt h1
omit [DecidableEq α] in
theorem MapAt.below {w' : World} (h : MapAt kv w b L) (hb : Below w.heap.size w w') : MapAt kv w' b L := h.stay (hb.block b h.lt)
omit [DecidableEq α] in
theorem MapAt.chg {w' : World} {p : Nat} (h : MapAt kv w b L) (hc : Chg p w w') (hp : b ≠ p) : MapAt kv w' b L := h.stay (hc.block b h.lt hp)
omit [DecidableEq α] in
theorem MapAt.upd {w' : World} {p : Nat} (h : MapAt kv w b L) (hc : Upd p w w') (hp : b ≠ p) : MapAt kv w' b L := h.stay (hc.block b hp)
omit [DecidableEq α] in
theorem MapAt.nodup (h : MapAt kv w b L) : (L.map (·.1)).Nodup := by
  obtain ⟨es, clock, h1, ⟨_, _, h2⟩, h3⟩ := h
  have e : es.toList.map (·.key) = (L.map (·.1)).map kv := by
    have := congrArg (List.map Prod.fst) h3
    simpa [List.map_map, Function.comp_def] using this
  rw [e] at h2
  exact List.Pairwise.of_map kv (fun a b hab e => hab (by rw [e])) h2
omit [DecidableEq α] in
theorem isKeys {es : Array MapEntry} (KK : KeyK P t kt et d kv) (h : es.toList.map (fun e => (e.key, e.val)) = L.map (fun p => (kv p.1, p.2))) : ∀ x ∈ es.toList, IsKey d x.key := by
  intro x hx
  have : (x.key, x.val) ∈ L.map (fun p => (kv p.1, p.2)) := h ▸ List.mem_map.2 ⟨x, hx, rfl⟩
  obtain ⟨p, _, e⟩ := List.mem_map.1 this
  rw [← (Prod.mk.inj e).1]
  exact KK.key _
omit [DecidableEq α] in
theorem ent_at {es : Array MapEntry} (h : es.toList.map (fun e => (e.key, e.val)) = L.map (fun p => (kv p.1, p.2))) (i : Nat) :
    (es.toList[i]?).map (fun e => (e.key, e.val)) = (L[i]?).map (fun p => (kv p.1, p.2)) := by
  rw [← List.getElem?_map, ← List.getElem?_map, h]
theorem lk_none {k : α} : lk L k = none ↔ ∀ p ∈ L, p.1 ≠ k := by simp [lk]
theorem lk_cons {a k : α} {v : Value} : lk ((a, v) :: L) k = if a = k then some v else lk L k := by
  unfold lk
  by_cases h : a = k <;> simp [h]
theorem lk_mem {k : α} {v : Value} (h : lk L k = some v) : (k, v) ∈ L := by
  induction L with
  | nil => simp [lk] at h
  | cons p L ih =>
    obtain ⟨a, u⟩ := p
    rw [lk_cons] at h
    split at h
    · rename_i e; cases h; subst e; simp
    · exact List.mem_cons_of_mem _ (ih h)
theorem mem_lk (hn : (L.map (·.1)).Nodup) {k : α} {v : Value} (h : (k, v) ∈ L) : lk L k = some v := by
  induction L with
  | nil => cases h
  | cons p L ih =>
    obtain ⟨a, u⟩ := p
    rw [lk_cons]
    simp only [List.map_cons, List.nodup_cons] at hn
    rcases List.mem_cons.1 h with e | h
    · cases e; simp
    · have : a ≠ k := fun e => hn.1 (e ▸ List.mem_map.2 ⟨_, h, rfl⟩)
      rw [if_neg this]
      exact ih hn.2 h
/-- what a search finds -/
theorem found (KK : KeyK P t kt et d kv) {es : Array MapEntry} {clock : Nat} (hs : Stamped es clock) (h : es.toList.map (fun e => (e.key, e.val)) = L.map (fun p => (kv p.1, p.2))) (k : α) :
    (lk L k = none ∧ Instr.findNow d (kv k) es.toList 0 = some none ∧ ∀ x ∈ es.toList, x.key ≠ kv k) ∨
    ∃ (i : Nat) (e : MapEntry) (v : Value), lk L k = some v ∧ Instr.findNow d (kv k) es.toList 0 = some (some (i, v)) ∧ es[i]? = some e ∧ e.key = kv k ∧ e.val = v ∧ L[i]? = some (k, v) := by
  have hn : (L.map (·.1)).Nodup := MapAt.nodup (w := { (default : World) with heap := #[.map es clock] }) (b := 0) ⟨es, clock, rfl, hs, h⟩
  rcases findNow_spec (KK.key k) es.toList 0 (isKeys KK h) with ⟨h1, h2⟩ | ⟨j, e, h1, h2, h3⟩
  · refine .inl ⟨lk_none.2 fun p hp e => ?_, h1, h2⟩
    have : (kv p.1, p.2) ∈ es.toList.map (fun e => (e.key, e.val)) := h ▸ List.mem_map.2 ⟨p, hp, rfl⟩
    obtain ⟨x, hx, e2⟩ := List.mem_map.1 this
    exact h2 x hx (by rw [(Prod.mk.inj e2).1, e])
  · right
    have hj := ent_at h j
    rw [h2] at hj
    cases hL : L[j]? with
    | none => simp [hL] at hj
    | some p =>
      simp [hL] at hj
      have hk : p.1 = k := KK.inj _ _ (by rw [← hj.1, h3])
      have hm : (k, p.2) ∈ L := by rw [← hk]; exact List.mem_of_getElem? hL
      refine ⟨j, e, p.2, mem_lk hn hm, ?_, by simpa using h2, h3, hj.2, by rw [← hk]; exact hL⟩
      rw [h1, hj.2, Nat.zero_add]
theorem look_ok (KK : KeyK P t kt et d kv) (h : MapAt kv w b L) {z : Value} (hz : zeroIs P et z) (k : α) :
    smr P (Instr.lookup t (.map (some b)) (kv k) true) K w Q = K (.tuple #[(lk L k).getD z, .bool (lk L k).isSome]) w Q := by
  obtain ⟨es, clock, h1, h2, h3⟩ := h
  refine smr_run ?_
  rcases found KK h2 h3 k with ⟨e1, e2, _⟩ | ⟨i, e, v, e1, e2, _, _, _, _⟩
  · simp [Instr.lookup, run_underlying KK.hm, Go.MapKept.run_getObj_map h1, Go.MapKept.run_checkKey KK.hd (KK.key k), Go.MapKept.run_findKey KK.hd e2, e1, Result.andThen, zero_run hz]
  · simp [Instr.lookup, run_underlying KK.hm, Go.MapKept.run_getObj_map h1, Go.MapKept.run_checkKey KK.hd (KK.key k), Go.MapKept.run_findKey KK.hd e2, e1, Result.andThen]
theorem look_v (KK : KeyK P t kt et d kv) (h : MapAt kv w b L) {z : Value} (hz : zeroIs P et z) (k : α) :
    smr P (Instr.lookup t (.map (some b)) (kv k) false) K w Q = K ((lk L k).getD z) w Q := by
  obtain ⟨es, clock, h1, h2, h3⟩ := h
  refine smr_run ?_
  rcases found KK h2 h3 k with ⟨e1, e2, _⟩ | ⟨i, e, v, e1, e2, _, _, _, _⟩
  · simp [Instr.lookup, run_underlying KK.hm, Go.MapKept.run_getObj_map h1, Go.MapKept.run_checkKey KK.hd (KK.key k), Go.MapKept.run_findKey KK.hd e2, e1, Result.andThen, zero_run hz]
  · simp [Instr.lookup, run_underlying KK.hm, Go.MapKept.run_getObj_map h1, Go.MapKept.run_checkKey KK.hd (KK.key k), Go.MapKept.run_findKey KK.hd e2, e1, Result.andThen]
theorem Ksm_look_v (KK : KeyK P t kt et d kv) (h : MapAt kv w b L) {z : Value} (hz : zeroIs P et z) (k : α) : Ksm P (Instr.lookup t (.map (some b)) (kv k) false) ((lk L k).getD z) w := by
  obtain ⟨es, clock, h1, h2, h3⟩ := h
  unfold Ksm
  rcases found KK h2 h3 k with ⟨e1, e2, _⟩ | ⟨i, e, v, e1, e2, _, _, _, _⟩
  · simp [Instr.lookup, run_underlying KK.hm, Go.MapKept.run_getObj_map h1, Go.MapKept.run_checkKey KK.hd (KK.key k), Go.MapKept.run_findKey KK.hd e2, e1, Result.andThen, zero_run hz]
  · simp [Instr.lookup, run_underlying KK.hm, Go.MapKept.run_getObj_map h1, Go.MapKept.run_checkKey KK.hd (KK.key k), Go.MapKept.run_findKey KK.hd e2, e1, Result.andThen]
theorem Ksm_look_ok (KK : KeyK P t kt et d kv) (h : MapAt kv w b L) {z : Value} (hz : zeroIs P et z) (k : α) : Ksm P (Instr.lookup t (.map (some b)) (kv k) true) (.tuple #[(lk L k).getD z, .bool (lk L k).isSome]) w := by
  obtain ⟨es, clock, h1, h2, h3⟩ := h
  unfold Ksm
  rcases found KK h2 h3 k with ⟨e1, e2, _⟩ | ⟨i, e, v, e1, e2, _, _, _, _⟩
  · simp [Instr.lookup, run_underlying KK.hm, Go.MapKept.run_getObj_map h1, Go.MapKept.run_checkKey KK.hd (KK.key k), Go.MapKept.run_findKey KK.hd e2, e1, Result.andThen, zero_run hz]
  · simp [Instr.lookup, run_underlying KK.hm, Go.MapKept.run_getObj_map h1, Go.MapKept.run_checkKey KK.hd (KK.key k), Go.MapKept.run_findKey KK.hd e2, e1, Result.andThen]
theorem put_at {i : Nat} {k : α} {u v : Value} (hn : (L.map (·.1)).Nodup) (h : L[i]? = some (k, u)) : put L k v = L.set i (k, v) := by
  unfold put
  rw [if_pos (List.mem_map.2 ⟨_, List.mem_of_getElem? h, rfl⟩)]
  apply List.ext_getElem?
  intro j
  rw [List.getElem?_map, List.getElem?_set]
  have hi : i < L.length := by
    rcases Nat.lt_or_ge i L.length with c | c
    · exact c
    · simp [List.getElem?_eq_none c] at h
  by_cases hij : i = j
  · subst hij
    rw [h]
    simp [hi]
  · simp only [hij, if_false]
    cases hj : L[j]? with
    | none => rfl
    | some p =>
      simp only [Option.map_some]
      have : p.1 ≠ k := by
        intro e
        have h1 : (L.map (·.1))[i]? = some k := by simp [h]
        have h2 : (L.map (·.1))[j]? = some k := by simp [hj, e]
        exact hij ((List.getElem?_inj (by simpa using hi) hn).1 (by rw [h1, h2]))
      simp [this]
/-- a key's value set -/
theorem upd_map (KK : KeyK P t kt et d kv) (h : MapAt kv w b L) (k : α) (v : Value) (kk : ∀ w', MapAt kv w' b (put L k v) → Upd b w w' → K0 w' Q) : smu P (Instr.mapUpdate t (.map (some b)) (kv k) v) K0 w Q := by
  have hn := h.nodup
  obtain ⟨es, clock, h1, h2, h3⟩ := h
  rcases found KK h2 h3 k with ⟨e1, e2, e3⟩ | ⟨i, e, u, e1, e2, e3, e4, e5, e6⟩
  · refine ⟨sb w b (.map (es.push { key := kv k, val := v, born := clock }) (clock + 1)), ?_, kk _ ⟨_, _, blk_sb h1, stamped_push h2 e3, ?_⟩ Upd_sb⟩
    · simp [Instr.mapUpdate, run_underlying KK.hm, Go.MapKept.run_getObj_map h1, Go.MapKept.run_checkKey KK.hd (KK.key k), Go.MapKept.run_findKey KK.hd e2, Go.MapKept.run_setObj_map _ h1, Result.andThen, sb]
    · have : ¬ k ∈ L.map (·.1) := by
        intro hm
        obtain ⟨p, hp, e⟩ := List.mem_map.1 hm
        exact lk_none.1 e1 p hp e
      simp [put, this, h3]
  · refine ⟨sb w b (.map (es.modify i fun x => { x with key := kv k, val := v }) clock), ?_, kk _ ⟨_, _, blk_sb h1, ?_, ?_⟩ Upd_sb⟩
    · simp [Instr.mapUpdate, run_underlying KK.hm, Go.MapKept.run_getObj_map h1, Go.MapKept.run_checkKey KK.hd (KK.key k), Go.MapKept.run_findKey KK.hd e2, e3, e4, Go.MapKept.run_keyThatStays (KK.key k), Go.MapKept.run_setObj_map _ h1, Result.andThen, sb]
    · exact stamped_modify h2 _ _ (fun _ _ => rfl) (fun e' _ he' => by rw [e3] at he'; cases he'; exact e4.symm)
    · rw [put_at hn e6]
      apply List.ext_getElem?
      intro j
      have hj := ent_at h3 j
      have hi := ent_at h3 i
      simp only [List.getElem?_map, Array.getElem?_toList, Array.getElem?_modify, List.getElem?_set] at hj ⊢
      by_cases hij : i = j
      · subst hij
        have hlt : i < L.length := by
          rcases Nat.lt_or_ge i L.length with c | c
          · exact c
          · simp [List.getElem?_eq_none c] at e6
        simp [e3, hlt]
      · simp only [hij, if_false]
        exact hj
omit [DecidableEq α] in
theorem map_eraseIdx' {β γ : Type} (f : β → γ) (l : List β) (i : Nat) : (l.eraseIdx i).map f = (l.map f).eraseIdx i := by
  rw [List.eraseIdx_eq_take_drop_succ, List.eraseIdx_eq_take_drop_succ, List.map_append, List.map_take, List.map_drop]
/-- a key deleted -/
theorem del_map {ts0 : Nat} {ty : TypeId} (KK : KeyK P t kt et d kv) (h : MapAt kv w b L) (k : α) (kk : ∀ w', MapAt kv w' b (del L k) → Upd b w w' → K (.tuple #[]) w' Q) : sm P (Builtin.delete_ #[t, ts0] ty #[.map (some b), kv k]) K w Q := by
  have hn := h.nodup
  obtain ⟨es, clock, h1, h2, h3⟩ := h
  rcases found KK h2 h3 k with ⟨e1, e2, e3⟩ | ⟨i, e, u, e1, e2, e3, e4, e5, e6⟩
  · refine ⟨.tuple #[], sb w b (.map es clock), ?_, kk _ ⟨_, _, blk_sb h1, h2, ?_⟩ Upd_sb⟩
    · simp [Builtin.delete_, run_underlying KK.hm, Go.MapKept.run_getObj_map h1, Go.MapKept.run_checkKey KK.hd (KK.key k), Go.MapKept.run_findKey KK.hd e2, Go.MapKept.run_setObj_map _ h1, Result.andThen, sb]
    · rw [h3]
      congr 1
      unfold del
      rw [List.filter_eq_self.2]
      intro p hp
      simpa using lk_none.1 e1 p hp
  · refine ⟨.tuple #[], sb w b (.map (es.eraseIdxIfInBounds i) clock), ?_, kk _ ⟨_, _, blk_sb h1, stamped_erase h2 _, ?_⟩ Upd_sb⟩
    · simp [Builtin.delete_, run_underlying KK.hm, Go.MapKept.run_getObj_map h1, Go.MapKept.run_checkKey KK.hd (KK.key k), Go.MapKept.run_findKey KK.hd e2, Go.MapKept.run_setObj_map _ h1, Result.andThen, sb]
    · have hi : i < es.size := by
        rcases Nat.lt_or_ge i es.size with c | c
        · exact c
        · simp [Array.getElem?_eq_none c] at e3
      have e7 : (es.eraseIdxIfInBounds i).toList = es.toList.eraseIdx i := by
        unfold Array.eraseIdxIfInBounds
        simp [hi]
      rw [e7, map_eraseIdx', h3, ← map_eraseIdx']
      congr 1
      have hiL : i < L.length := by
        rcases Nat.lt_or_ge i L.length with c | c
        · exact c
        · simp [List.getElem?_eq_none c] at e6
      have e8 : L = L.take i ++ (k, u) :: L.drop (i + 1) := by
        have hLi : L[i] = (k, u) := by rw [List.getElem?_eq_getElem hiL] at e6; exact Option.some.inj e6
        rw [← hLi, List.getElem_cons_drop, List.take_append_drop]
      have hn' := hn
      rw [e8, List.map_append, List.map_cons, List.nodup_append] at hn'
      obtain ⟨_, n2, n3⟩ := hn'
      rw [List.nodup_cons] at n2
      have f1 : ∀ p ∈ L.take i, p.1 ≠ k := fun p hp e => n3 p.1 (List.mem_map.2 ⟨p, hp, rfl⟩) k (by simp) e
      have f2 : ∀ p ∈ L.drop (i + 1), p.1 ≠ k := fun p hp e => n2.1 (List.mem_map.2 ⟨p, hp, e⟩)
      rw [List.eraseIdx_eq_take_drop_succ]
      conv => rhs; rw [e8]
      unfold del
      rw [List.filter_append, List.filter_cons]
      simp only [ne_eq, not_true_eq_false, decide_false, Bool.false_eq_true, if_false]
      rw [List.filter_eq_self.2 (fun p hp => by simpa using f1 p hp), List.filter_eq_self.2 (fun p hp => by simpa using f2 p hp)]
/-- all keys deleted -/
theorem clear_map {ty : TypeId} (KK : KeyK P t kt et d kv) (h : MapAt kv w b L) (kk : ∀ w', MapAt kv w' b [] → Upd b w w' → K (.tuple #[]) w' Q) : sm P (Builtin.clear_ #[t] ty #[.map (some b)]) K w Q := by
  obtain ⟨es, clock, h1, h2, h3⟩ := h
  refine ⟨.tuple #[], sb w b (.map #[] clock), ?_, kk _ ⟨_, _, blk_sb h1, stamped_empty _, rfl⟩ Upd_sb⟩
  simp [Builtin.clear_, run_underlying KK.hm, Go.MapKept.run_getObj_map h1, Go.MapKept.run_setObj_map _ h1, Result.andThen, sb]
omit [DecidableEq α] in
/-- a new map -/
theorem mm_map (kk : ∀ w', MapAt kv w' w.heap.size [] → Below w.heap.size w w' → K (.map (some w.heap.size)) w' Q) : mm K w Q :=
  kk _ ⟨#[], 0, blk_psh_new, stamped_empty _, rfl⟩ (b_psh _ _)
omit [DecidableEq α] in
theorem len_map {ty : TypeId} (KK : KeyK P t kt et d kv) (h : MapAt kv w b L) : (Builtin.len_ #[t] ty #[.map (some b)]).run P w = .ok (.int .i64 L.length) w := by
  obtain ⟨es, clock, h1, h2, h3⟩ := h
  have : es.size = L.length := by simpa using congrArg List.length h3
  simp [Builtin.len_, run_underlying KK.hm, Go.MapKept.run_getObj_map h1, Result.andThen, goInt, this]
/-! ranges -/
/-- an iterator over a map: what has not yet been told -/
def RangeAt {α : Type} (kv : α → Value) (w : World) (r b : Nat) (L rest : List (α × Value)) : Prop :=
  ∃ es clock since seen c0, w.heap[b]? = some (.map es clock) ∧ w.heap[r]? = some (.mapIter (some b) since seen c0) ∧ Stamped es clock ∧ (∀ x ∈ es.toList, x.born < since) ∧ since ≤ c0 ∧ since ≤ clock ∧
    es.toList.map (fun e => (e.key, e.val)) = L.map (fun p => (kv p.1, p.2)) ∧ (leftOf es seen).toList.map (fun e => (e.key, e.val)) = rest.map (fun p => (kv p.1, p.2))
omit [DecidableEq α] in
theorem RangeAt.map {r : Nat} {rest : List (α × Value)} (h : RangeAt kv w r b L rest) : MapAt kv w b L := by
  obtain ⟨es, clock, since, seen, c0, h1, h2, h3, h4, h5, h6, h7, h8⟩ := h
  exact ⟨es, clock, h1, h3, h7⟩
omit [DecidableEq α] in
theorem RangeAt.stay {r : Nat} {rest : List (α × Value)} {w' : World} (h : RangeAt kv w r b L rest) (hb : w'.heap[b]? = w.heap[b]?) (hr : w'.heap[r]? = w.heap[r]?) : RangeAt kv w' r b L rest := by
  obtain ⟨es, clock, since, seen, c0, h1, h2, h3⟩ := h
  exact ⟨es, clock, since, seen, c0, by rw [hb]; exact h1, by rw [hr]; exact h2, h3⟩
omit [DecidableEq α] in
theorem RangeAt.lt {r : Nat} {rest : List (α × Value)} (h : RangeAt kv w r b L rest) : b < w.heap.size ∧ r < w.heap.size := by
  obtain ⟨es, clock, since, seen, c0, h1, h2, _⟩ := h
  exact ⟨blk_lt h1, blk_lt h2⟩
omit [DecidableEq α] in
theorem RangeAt.below {r : Nat} {rest : List (α × Value)} {w' : World} (h : RangeAt kv w r b L rest) (hb : Below w.heap.size w w') : RangeAt kv w' r b L rest := h.stay (hb.block _ h.lt.1) (hb.block _ h.lt.2)
omit [DecidableEq α] in
theorem RangeAt.chg {r p : Nat} {rest : List (α × Value)} {w' : World} (h : RangeAt kv w r b L rest) (hb : Chg p w w') (h1 : b ≠ p) (h2 : r ≠ p) : RangeAt kv w' r b L rest := h.stay (hb.block _ h.lt.1 h1) (hb.block _ h.lt.2 h2)
omit [DecidableEq α] in
theorem range_map (KK : KeyK P t kt et d kv) (h : MapAt kv w b L) (kk : ∀ w', RangeAt kv w' w.heap.size b L L → Below w.heap.size w w' → K (.pointer (some ⟨w.heap.size, 0, none⟩)) w' Q) : sm P (Instr.range t (.map (some b))) K w Q := by
  obtain ⟨es, clock, h1, h2, h3⟩ := h
  have hlt := blk_lt h1
  refine ⟨.pointer (some ⟨w.heap.size, 0, none⟩), psh w (.mapIter (some b) clock #[] clock), ?_, kk _ ⟨es, clock, clock, #[], clock, ?_, blk_psh_new, h2, h2.1, Nat.le_refl _, Nat.le_refl _, h3, ?_⟩ (b_psh _ _)⟩
  · simp [Instr.range, run_underlying KK.hm, Go.MapKept.run_getObj_map h1, Result.andThen, newObj, psh, Sem.run]
  · rw [blk_psh_old hlt]; exact h1
  · have : leftOf es #[] = es := by simp [leftOf]
    rw [this]; exact h3
theorem filter_born : ∀ (l : List MapEntry), (l.map (·.born)).Nodup → ∀ (i : Nat) (hi : i < l.length), l.filter (fun x => !(x.born == l[i].born)) = l.eraseIdx i := by
  intro l
  induction l with
  | nil => intro _ i hi; simp at hi
  | cons a l ih =>
    intro hn i hi
    simp only [List.map_cons, List.nodup_cons] at hn
    cases i with
    | zero =>
      simp only [List.getElem_cons_zero, List.eraseIdx_cons_zero, List.filter_cons, beq_self_eq_true, Bool.not_true, Bool.false_eq_true, if_false]
      rw [List.filter_eq_self.2]
      intro x hx
      have : x.born ≠ a.born := fun e => hn.1 (e ▸ List.mem_map.2 ⟨x, hx, rfl⟩)
      simpa using this
    | succ i =>
      have hi' : i < l.length := by simpa using hi
      have : a.born ≠ l[i].born := fun e => hn.1 (e ▸ List.mem_map.2 ⟨_, List.getElem_mem hi', rfl⟩)
      simp only [List.getElem_cons_succ, List.eraseIdx_cons_succ, List.filter_cons]
      rw [if_pos (by simpa using this), ih hn.2 i hi']
omit [DecidableEq α] in
theorem next_map {ty : TypeId} {r : Nat} {rest : List (α × Value)} (hrb : r ≠ b) (h : RangeAt kv w r b L rest) (k0 : rest = [] → K (.tuple #[.bool false]) w Q)
    (k1 : ∀ (i : Nat) (hi : i < rest.length) w', RangeAt kv w' r b L (rest.eraseIdx i) → Chg r w w' → K (.tuple #[.bool true, kv rest[i].1, rest[i].2]) w' Q) :
    sm P (Instr.next (.pointer (some ⟨r, 0, none⟩)) false ty) K w Q := by
  obtain ⟨es, clock, since, seen, c0, h1, h2, h3, h4, h5, h6, h7, h8⟩ := h
  rcases run_next_at (P := P) w ty r b since c0 seen es clock h2 h1 h4 h5 with ⟨e1, e2⟩ | ⟨e, he, w1, hw1, hrun⟩
  · refine ⟨_, w, e2, k0 ?_⟩
    have : (leftOf es seen).toList = [] := by simpa using e1
    rw [this] at h8
    simpa using h8.symm
  · obtain ⟨i, hi, hie⟩ := List.mem_iff_getElem.1 he
    have hli : i < rest.length := by have := congrArg List.length h8; simp at this; simp at hi; omega
    have hent : e.key = kv rest[i].1 ∧ e.val = rest[i].2 := by
      have := congrArg (fun l => l[i]?) h8
      simp only [List.getElem?_map, List.getElem?_eq_getElem hi, List.getElem?_eq_getElem hli, Option.map_some, hie] at this
      simpa using this
    refine ⟨_, _, hrun, ?_⟩
    rw [hent.1, hent.2]
    have hw1h : w1.heap = w.heap := by rcases hw1 with rfl | rfl <;> rfl
    refine k1 i hli _ ⟨es, clock, since, seen.push e.born, clock, ?_, ?_, h3, h4, h6, h6, h7, ?_⟩ ?_
    · show (w1.heap.setIfInBounds r _)[b]? = _
      rw [Array.getElem?_setIfInBounds_ne hrb, hw1h]; exact h1
    · show (w1.heap.setIfInBounds r _)[r]? = _
      rw [hw1h]
      have := blk_lt h2
      simp [this]
    · have : (leftOf es (seen.push e.born)).toList = (leftOf es seen).toList.eraseIdx i := by
        have hnd : ((leftOf es seen).toList.map (·.born)).Nodup := by
          unfold leftOf
          rw [Array.toList_filter]
          exact List.Nodup.sublist (List.Sublist.map _ List.filter_sublist) h3.2.1
        rw [← filter_born _ hnd i hi, hie]
        unfold leftOf
        simp only [Array.toList_filter, List.filter_filter]
        apply List.filter_congr
        intro x _
        rw [Bool.eq_iff_iff]
        simp [Array.mem_push, not_or, and_comm]
      rw [this, map_eraseIdx', h8, ← map_eraseIdx']
    · refine ⟨?_, ?_, ?_, ?_, ?_⟩
      · rcases hw1 with rfl | rfl <;> rfl
      · rcases hw1 with rfl | rfl <;> rfl
      · rcases hw1 with rfl | rfl <;> rfl
      · show _ ≤ (w1.heap.setIfInBounds r _).size
        rw [Array.size_setIfInBounds, hw1h]; exact Nat.le_refl _
      · intro k hk hne
        show (w1.heap.setIfInBounds r _)[k]? = _
        rw [Array.getElem?_setIfInBounds_ne (Ne.symm hne), hw1h]
end
end Sh
end Go.Proofs.Ytlmiimojgledpaa

namespace Go.Proofs.Ytlmiimojgledpaa
namespace Sh
open RowKit Go.MapKept
/-- a map's type, its keys' -/
theorem find_born : ∀ (l : List MapEntry), (l.map (·.born)).Nodup → ∀ e ∈ l, l.find? (fun x => x.born == e.born) = some e := by
  intro l
  induction l with
  | nil => intro _ e h; cases h
  | cons a l ih =>
    intro hn e he
    simp only [List.map_cons, List.nodup_cons] at hn
    rw [List.find?_cons]
    rcases List.mem_cons.1 he with rfl | he
    · simp
    · have : a.born ≠ e.born := fun c => hn.1 (c ▸ List.mem_map.2 ⟨e, he, rfl⟩)
      have h2 : (a.born == e.born) = false := by simpa using this
      rw [h2]
      exact ih hn.2 e he
section
variable {α : Type} [DecidableEq α] {kv : α → Value} {P : Program} {t kt et : TypeId} {d : TypeDesc} {w : World} {b : Nat} {L : List (α × Value)} {K : Value → M} {K0 : M} {Q : Value → World → Prop}
omit [DecidableEq α] in
theorem next_map_e {ty : TypeId} {r : Nat} {rest : List (α × Value)} (hrb : r ≠ b) (h : RangeAt kv w r b L rest) (k0 : rest = [] → K (.tuple #[.bool false]) w Q)
    (k1 : ∀ (i : Nat) (hi : i < rest.length) w', RangeAt kv w' r b L (rest.eraseIdx i) → Chg r w w' → (∀ w2 : World, w2.heap[r]? = w'.heap[r]? → w2.heap[b]? = w'.heap[b]? → (Instr.entry (.pointer (some ⟨r, 0, none⟩))).run P w2 = .ok (.tuple #[kv rest[i].1, rest[i].2]) w2) → K (.tuple #[.bool true, kv rest[i].1, rest[i].2]) w' Q) :
    sm P (Instr.next (.pointer (some ⟨r, 0, none⟩)) false ty) K w Q := by
  obtain ⟨es, clock, since, seen, c0, h1, h2, h3, h4, h5, h6, h7, h8⟩ := h
  rcases run_next_at (P := P) w ty r b since c0 seen es clock h2 h1 h4 h5 with ⟨e1, e2⟩ | ⟨e, he, w1, hw1, hrun⟩
  · refine ⟨_, w, e2, k0 ?_⟩
    have : (leftOf es seen).toList = [] := by simpa using e1
    rw [this] at h8
    simpa using h8.symm
  · obtain ⟨i, hi, hie⟩ := List.mem_iff_getElem.1 he
    have hli : i < rest.length := by have := congrArg List.length h8; simp at this; simp at hi; omega
    have hent : e.key = kv rest[i].1 ∧ e.val = rest[i].2 := by
      have := congrArg (fun l => l[i]?) h8
      simp only [List.getElem?_map, List.getElem?_eq_getElem hi, List.getElem?_eq_getElem hli, Option.map_some, hie] at this
      simpa using this
    refine ⟨_, _, hrun, ?_⟩
    rw [hent.1, hent.2]
    have hw1h : w1.heap = w.heap := by rcases hw1 with rfl | rfl <;> rfl
    refine k1 i hli _ ⟨es, clock, since, seen.push e.born, clock, ?_, ?_, h3, h4, h6, h6, h7, ?_⟩ ?_ ?_
    · show (w1.heap.setIfInBounds r _)[b]? = _
      rw [Array.getElem?_setIfInBounds_ne hrb, hw1h]; exact h1
    · show (w1.heap.setIfInBounds r _)[r]? = _
      rw [hw1h]
      have := blk_lt h2
      simp [this]
    · have : (leftOf es (seen.push e.born)).toList = (leftOf es seen).toList.eraseIdx i := by
        have hnd : ((leftOf es seen).toList.map (·.born)).Nodup := by
          unfold leftOf
          rw [Array.toList_filter]
          exact List.Nodup.sublist (List.Sublist.map _ List.filter_sublist) h3.2.1
        rw [← filter_born _ hnd i hi, hie]
        unfold leftOf
        simp only [Array.toList_filter, List.filter_filter]
        apply List.filter_congr
        intro x _
        rw [Bool.eq_iff_iff]
        simp [Array.mem_push, not_or, and_comm]
      rw [this, map_eraseIdx', h8, ← map_eraseIdx']
    · refine ⟨?_, ?_, ?_, ?_, ?_⟩
      · rcases hw1 with rfl | rfl <;> rfl
      · rcases hw1 with rfl | rfl <;> rfl
      · rcases hw1 with rfl | rfl <;> rfl
      · show _ ≤ (w1.heap.setIfInBounds r _).size
        rw [Array.size_setIfInBounds, hw1h]; exact Nat.le_refl _
      · intro k hk hne
        show (w1.heap.setIfInBounds r _)[k]? = _
        rw [Array.getElem?_setIfInBounds_ne (Ne.symm hne), hw1h]
    · intro w2 q1 q2
      have g1 : w2.heap[r]? = some (.mapIter (some b) since (seen.push e.born) clock) := by
        rw [q1]
        show (w1.heap.setIfInBounds r _)[r]? = _
        rw [hw1h]
        have := blk_lt h2
        simp [this]
      have g2 : w2.heap[b]? = some (.map es clock) := by
        rw [q2]
        show (w1.heap.setIfInBounds r _)[b]? = _
        rw [Array.getElem?_setIfInBounds_ne hrb, hw1h]; exact h1
      have hem : e ∈ es.toList := by
        have : e ∈ (leftOf es seen).toList := he
        unfold leftOf at this
        rw [Array.toList_filter] at this
        exact (List.mem_filter.1 this).1
      have hfind : es.find? (fun x => x.born == e.born) = some e := by
        rw [← Array.find?_toList]
        exact find_born es.toList h3.2.1 e hem
      have o1 : (getObj r).run P w2 = .ok (.mapIter (some b) since (seen.push e.born) clock) w2 := by simp [getObj, Sem.run, g1]
      have o2 : (getObj b).run P w2 = .ok (.map es clock) w2 := Go.MapKept.run_getObj_map g2
      rw [← hent.1, ← hent.2]
      simp [Instr.entry, o1, o2, hfind, Result.andThen]
end
end Sh
end Go.Proofs.Ytlmiimojgledpaa

namespace Go.Proofs.Ytlmiimojgledpaa
namespace Sh
open RowKit Go.MapKept
structure KeyG {α : Type} (P : Program) (t kt et : TypeId) (kv : α → Value) (ok : α → Prop) : Prop where
  hm : P.underlying t = some (.map kt et)
  law : WideMaps.KeyLaw P kt
  ko : ∀ a, ok a → ∃ l, keyOf P kt (kv a) = some l
  inj : ∀ a b, kv a = kv b → a = b
section
variable {α : Type} [DecidableEq α] {kv : α → Value} {ok : α → Prop} {P : Program} {t kt et : TypeId} {w : World} {b : Nat} {L : List (α × Value)} {K : Value → M} {K0 : M} {Q : Value → World → Prop}
theorem foundG (KK : KeyG P t kt et kv ok) {es : Array MapEntry} {clock : Nat} (hs : Stamped es clock) (h : es.toList.map (fun e => (e.key, e.val)) = L.map (fun p => (kv p.1, p.2))) (hL : ∀ p ∈ L, ok p.1) (k : α) (hk : ok k) :
    (lk L k = none ∧ (Instr.findKey kt (kv k) es.toList).run P w = .ok none w ∧ ∀ x ∈ es.toList, x.key ≠ kv k) ∨
    ∃ (i : Nat) (e : MapEntry) (v : Value), lk L k = some v ∧ (Instr.findKey kt (kv k) es.toList).run P w = .ok (some (i, v)) w ∧ es[i]? = some e ∧ e.key = kv k ∧ e.val = v ∧ L[i]? = some (k, v) := by
  have hn : (L.map (·.1)).Nodup := MapAt.nodup (w := { (default : World) with heap := #[.map es clock] }) (b := 0) ⟨es, clock, rfl, hs, h⟩
  obtain ⟨lx, hlx⟩ := KK.ko k hk
  have hall : ∀ e ∈ es.toList, ∃ l, keyOf P kt e.key = some l := by
    intro e he
    have : (e.key, e.val) ∈ L.map (fun p => (kv p.1, p.2)) := h ▸ List.mem_map.2 ⟨e, he, rfl⟩
    obtain ⟨p, hp, e1⟩ := List.mem_map.1 this
    rw [← (Prod.mk.inj e1).1]
    exact KK.ko _ (hL p hp)
  rcases KK.law.find w hlx es.toList hall with ⟨h1, h2⟩ | ⟨j, e, h1, h2, h3⟩
  · refine .inl ⟨lk_none.2 fun p hp e => ?_, h1, h2⟩
    have : (kv p.1, p.2) ∈ es.toList.map (fun e => (e.key, e.val)) := h ▸ List.mem_map.2 ⟨p, hp, rfl⟩
    obtain ⟨x, hx, e1⟩ := List.mem_map.1 this
    exact h2 x hx (by rw [(Prod.mk.inj e1).1, e])
  · have ha := ent_at h j
    rw [h2] at ha
    cases hp : L[j]? with
    | none => rw [hp] at ha; cases ha
    | some p =>
      rw [hp] at ha
      simp only [Option.map_some, Option.some.injEq, Prod.mk.injEq] at ha
      have hk1 : p.1 = k := KK.inj _ _ (by rw [← ha.1, h3])
      obtain ⟨p1, p2⟩ := p
      simp only at hk1 ha
      subst hk1
      refine .inr ⟨j, e, p2, mem_lk hn (List.mem_of_getElem? hp), by rw [h1, ha.2], by simpa using h2, h3, ha.2, hp⟩
theorem look_vG (KK : KeyG P t kt et kv ok) (h : MapAt kv w b L) (hL : ∀ p ∈ L, ok p.1) {z : Value} (hz : zeroIs P et z) (k : α) (hk : ok k) :
    smr P (Instr.lookup t (.map (some b)) (kv k) false) K w Q = K ((lk L k).getD z) w Q := by
  obtain ⟨es, clock, h1, h2, h3⟩ := h
  obtain ⟨lx, hlx⟩ := KK.ko k hk
  refine smr_run ?_
  rcases foundG (w := w) KK h2 h3 hL k hk with ⟨e1, e2, _⟩ | ⟨i, e, v, e1, e2, _, _, _, _⟩
  · simp [Instr.lookup, run_underlying KK.hm, Go.MapKept.run_getObj_map h1, KK.law.check w _ hlx, e2, e1, Result.andThen, zero_run hz]
  · simp [Instr.lookup, run_underlying KK.hm, Go.MapKept.run_getObj_map h1, KK.law.check w _ hlx, e2, e1, Result.andThen]
/-- a map of which one entry is at hand -/
def EntryAt {α : Type} (kv : α → Value) (w : World) (b : Nat) (L : List (α × Value)) (k : α) (st : Nat) : Prop :=
  ∃ es clock, w.heap[b]? = some (.map es clock) ∧ Stamped es clock ∧ es.toList.map (fun e => (e.key, e.val)) = L.map (fun p => (kv p.1, p.2)) ∧ ∃ (i : Nat) (e : MapEntry), es[i]? = some e ∧ e.born = st ∧ e.key = kv k
omit [DecidableEq α] in
theorem EntryAt.stay {w' : World} {k : α} {st : Nat} (h : EntryAt kv w b L k st) (hb : w'.heap[b]? = w.heap[b]?) : EntryAt kv w' b L k st := by
  obtain ⟨es, clock, h1, h2⟩ := h
  exact ⟨es, clock, by rw [hb]; exact h1, h2⟩
omit [DecidableEq α] in
theorem EntryAt.lt {k : α} {st : Nat} (h : EntryAt kv w b L k st) : b < w.heap.size := by obtain ⟨es, clock, h1, _⟩ := h; exact blk_lt h1
omit [DecidableEq α] in
theorem EntryAt.map {k : α} {st : Nat} (h : EntryAt kv w b L k st) : MapAt kv w b L := by
  obtain ⟨es, clock, h1, h2, h3, _⟩ := h
  exact ⟨es, clock, h1, h2, h3⟩
def ent (L : List (α × Value)) (k : α) (z : Value) : List (α × Value) := if k ∈ L.map (·.1) then L else L ++ [(k, z)]
theorem put_ent (L : List (α × Value)) (k : α) (z v : Value) : put (ent L k z) k v = put L k v := by
  unfold ent
  split
  · rfl
  · rename_i h
    unfold put
    rw [if_pos (by simp), if_neg h, List.map_append]
    congr 1
    · conv => rhs; rw [← List.map_id L]
      refine List.map_congr_left fun p hp => ?_
      rw [if_neg (fun e => h (by rw [← e]; exact List.mem_map.2 ⟨p, hp, rfl⟩))]; rfl
    · simp
theorem lk_some_mem {k : α} {v : Value} (h : lk L k = some v) : k ∈ L.map (·.1) := List.mem_map.2 ⟨_, lk_mem h, rfl⟩
theorem ent_map (KK : KeyG P t kt et kv ok) (h : MapAt kv w b L) (hL : ∀ p ∈ L, ok p.1) {z : Value} (hz : zeroIs P et z) (k : α) (hk : ok k)
    (kk : ∀ w' st, EntryAt kv w' b (ent L k z) k st → Upd b w w' → K (.tuple #[(lk L k).getD z, .int .i64 (st : Nat)]) w' Q) : sm P (Instr.mapEntry t (.map (some b)) (kv k)) K w Q := by
  obtain ⟨es, clock, h1, h2, h3⟩ := h
  obtain ⟨lx, hlx⟩ := KK.ko k hk
  rcases foundG (w := w) KK h2 h3 hL k hk with ⟨e1, e2, e3⟩ | ⟨i, e, v, e1, e2, e4, e5, e6, e7⟩
  · refine ⟨.tuple #[z, .int .i64 clock], sb w b (.map (es.push { key := kv k, val := z, born := clock }) (clock + 1)), ?_, ?_⟩
    · simp [Instr.mapEntry, run_underlying KK.hm, Go.MapKept.run_getObj_map h1, KK.law.check w _ hlx, e2, Go.MapKept.run_setObj_map _ h1, Result.andThen, sb, zero_run hz, goInt]
    · have hne : ¬ k ∈ L.map (·.1) := by
        intro hm
        obtain ⟨p, hp, rfl⟩ := List.mem_map.1 hm
        exact lk_none.1 e1 p hp rfl
      have hpL : (es.push { key := kv k, val := z, born := clock }).toList.map (fun e => (e.key, e.val)) = (ent L k z).map (fun p => (kv p.1, p.2)) := by
        unfold ent
        rw [if_neg hne]
        simp [h3]
      have := kk (sb w b (.map (es.push { key := kv k, val := z, born := clock }) (clock + 1))) clock ⟨_, _, blk_sb h1, stamped_push h2 e3, hpL, es.size, { key := kv k, val := z, born := clock }, by simp, rfl, rfl⟩ Upd_sb
      rw [e1] at this
      exact this
  · have hmod : es.modify i (fun x => { x with key := kv k }) = es := by
      apply Array.ext_getElem?
      intro j
      rw [Array.getElem?_modify]
      split
      · rename_i c
        subst c
        rw [e4, Option.map_some, ← e5]
      · rfl
    have hst := KK.law.stays w hlx
    refine ⟨.tuple #[v, .int .i64 e.born], sb w b (.map es clock), ?_, ?_⟩
    · have e5' : (es[i]?.map (·.key)).getD (kv k) = kv k := by rw [e4]; simp [e5]
      simp [Instr.mapEntry, run_underlying KK.hm, Go.MapKept.run_getObj_map h1, KK.law.check w _ hlx, e2, e4, e5, hst, hmod, Go.MapKept.run_setObj_map _ h1, Result.andThen, sb, goInt]
    · have hpL : es.toList.map (fun e => (e.key, e.val)) = (ent L k z).map (fun p => (kv p.1, p.2)) := by
        unfold ent
        rw [if_pos (lk_some_mem e1)]
        exact h3
      have := kk (sb w b (.map es clock)) e.born ⟨_, _, blk_sb h1, h2, hpL, i, e, e4, rfl, e5⟩ Upd_sb
      rw [e1] at this
      exact this
theorem sto_map (KK : KeyG P t kt et kv ok) {k : α} {st : Nat} (h : EntryAt kv w b L k st) (v : Value) (kk : ∀ w', MapAt kv w' b (put L k v) → Upd b w w' → K0 w' Q) : smu P (Instr.entryStore t (.map (some b)) (.int .i64 (st : Nat)) v) K0 w Q := by
  have hn := h.map.nodup
  obtain ⟨es, clock, h1, h2, h3, i, e, e4, rfl, e5⟩ := h
  have hi : i < es.size := (Array.getElem?_eq_some_iff.1 e4).1
  have hei : es[i] = e := (Array.getElem?_eq_some_iff.1 e4).2
  have hidx : es.findIdx? (fun x => (x.born : Int) == (e.born : Int)) = some i := by
    rw [Array.findIdx?_eq_some_iff_getElem]
    refine ⟨hi, by rw [hei]; simp, fun j hj => ?_⟩
    have hne : es[j].born ≠ e.born := by
      intro c
      have hb := h2.2.1
      have z1 : (es.toList.map (·.born))[j]? = (es.toList.map (·.born))[i]? := by
        rw [List.getElem?_map, List.getElem?_map, Array.getElem?_toList, Array.getElem?_toList, Array.getElem?_eq_getElem (by omega), e4]
        simp [c]
      have := (List.getElem?_inj (by simp; omega) hb).1 z1
      omega
    simp
    omega
  refine ⟨sb w b (.map (es.modify i fun x => { x with val := v }) clock), ?_, kk _ ⟨_, _, blk_sb h1, ?_, ?_⟩ Upd_sb⟩
  · simp [Instr.entryStore, Go.MapKept.run_getObj_map h1, asInt, asIntOf, hidx, Go.MapKept.run_setObj_map _ h1, Result.andThen, sb]
  · exact stamped_modify h2 _ _ (fun _ _ => rfl) (fun _ _ _ => rfl)
  · have ha := ent_at h3 i
    rw [show es.toList[i]? = some e by simpa using e4] at ha
    cases hp : L[i]? with
    | none => rw [hp] at ha; cases ha
    | some p =>
      rw [hp] at ha
      simp only [Option.map_some, Option.some.injEq, Prod.mk.injEq] at ha
      have hk1 : p.1 = k := KK.inj _ _ (by rw [← ha.1, e5])
      obtain ⟨p1, p2⟩ := p
      simp only at hk1
      subst hk1
      rw [put_at hn hp]
      apply List.ext_getElem?
      intro j
      have hj := ent_at h3 j
      have hlt : i < L.length := (List.getElem?_eq_some_iff.1 hp).1
      simp only [List.getElem?_map, Array.getElem?_toList, Array.getElem?_modify, List.getElem?_set] at hj ⊢
      by_cases hij : i = j
      · subst hij
        simp [e4, hlt, e5]
      · simp only [hij, if_false]
        exact hj
end
end Sh
end Go.Proofs.Ytlmiimojgledpaa

namespace Go.Proofs.Ytlmiimojgledpaa
namespace Sh
open RowKit
/-- the method's row of a type: its function, and whether it takes a pointer -/
def mrow (P : Program) (t : TypeId) (name : String) : Option (FuncId × Bool) :=
  match P.info? t with
  | some i => match i.methods.find? (·.name == name) with
    | some m => if m.path.toList = [] then m.func else none
    | none => none
  | none => none
/-- a function that may be entered -/
def canEnter (P : Program) (f : FuncId) : Bool := match P.funcs[f]? with | some fn => fn.body.isSome && !(fn.name == "runtime.NumGoroutine") | none => false
section
variable {P : Program} {w : World} {Q : Value → World → Prop} {K : Value → M} {t e : TypeId} {name : String} {f : FuncId} {args : Array Value} {v : Value}
theorem run_callFunc (h : canEnter P f = true) : (callFunc f args).run P w = .ok (.enter f args) w := by
  unfold canEnter at h
  cases hf : P.funcs[f]? with
  | none => simp [hf] at h
  | some fn =>
    simp [hf] at h
    obtain ⟨h1, h2⟩ := h
    obtain ⟨b, hb⟩ := Option.isSome_iff_exists.1 h1
    simp [callFunc, hf, hb, h2]
theorem mrow_info {q : Bool} (h : mrow P t name = some (f, q)) : ∃ i m, P.info? t = some i ∧ i.methods.find? (·.name == name) = some m ∧ m.path.toList = [] ∧ m.func = some (f, q) := by
  unfold mrow at h
  cases hi : P.info? t with
  | none => simp [hi] at h
  | some i =>
    simp only [hi] at h
    cases hm : i.methods.find? (·.name == name) with
    | none => simp [hm] at h
    | some m =>
      simp only [hm] at h
      split at h
      · exact ⟨i, m, rfl, hm, by assumption, h⟩
      · cases h
/-- a method of a pointer, called with it -/
theorem run_meth_p (hm : mrow P t name = some (f, true)) (hp : P.underlying t = some (.pointer e)) (hf : canEnter P f = true) (hz : 0 < P.types.size) :
    (callMethod (.iface t v) name args).run P w = .ok (.enter f (#[v] ++ args)) w := by
  obtain ⟨i, m, h1, h2, h3, h4⟩ := mrow_info hm
  obtain ⟨n, hn⟩ : ∃ n, P.types.size + Made.depth = n + 1 := ⟨P.types.size + Made.depth - 1, by omega⟩
  unfold callMethod
  simp only [Sem.run_bind, run_program, Result.andThen_ok, hn]
  unfold method
  simp [typeInfo, h1, h2, h3, h4, follow, receiverAt, run_underlying hp, Place.get, run_callFunc hf, Result.andThen]
theorem nilchk {ts : Array TypeId} {ty : TypeId} {a : Addr} {s n : String} : Builtin.ssaWrapNilChk_ ts ty #[.pointer (some a), strVal s, strVal n] = pure (.pointer (some a)) := rfl
/-- a method of what a pointer points at -/
theorem run_meth_v (hm : mrow P t name = some (f, false)) (hp : P.underlying t = some (.pointer e)) (hs : isSc P e = true) (hf : canEnter P f = true) (hz : 0 < P.types.size) {a : Addr} (hc : w.cell? a = some v) :
    (callMethod (.iface t (.pointer (some a))) name args).run P w = .ok (.enter f (#[v] ++ args)) w := by
  obtain ⟨i, m, h1, h2, h3, h4⟩ := mrow_info hm
  obtain ⟨n, hn⟩ : ∃ n, P.types.size + Made.depth = n + 1 := ⟨P.types.size + Made.depth - 1, by omega⟩
  have h3' : m.path = #[] := by simpa using h3
  unfold callMethod
  simp only [Sem.run_bind, run_program, Result.andThen_ok, hn]
  unfold method
  simp [typeInfo, h1, h2, h3, h3', h4, follow, receiverAt, run_underlying hp, Place.get, nilchk, asAddr, loadVar, run_isAgg_sc hs, hc, run_callFunc hf, Result.andThen]
theorem ci_p (hm : mrow P t name = some (f, true)) (hp : P.underlying t = some (.pointer e)) (hf : canEnter P f = true) (hz : 0 < P.types.size) (k : Calls P f (#[v] ++ args) w (Rt fun v w' => K v w' Q)) : ci P (.iface t v) name args K w Q :=
  ⟨f, _, w, run_meth_p hm hp hf hz, k⟩
theorem ci_v (hm : mrow P t name = some (f, false)) (hp : P.underlying t = some (.pointer e)) (hs : isSc P e = true) (hf : canEnter P f = true) (hz : 0 < P.types.size) {a : Addr} (hc : w.cell? a = some v)
    (k : Calls P f (#[v] ++ args) w (Rt fun v w' => K v w' Q)) : ci P (.iface t (.pointer (some a))) name args K w Q :=
  ⟨f, _, w, run_meth_v hm hp hs hf hz hc, k⟩
end
end Sh
end Go.Proofs.Ytlmiimojgledpaa

namespace Go.Proofs.Ytlmiimojgledpaa
namespace Sh
open RowKit
/-- of the old blocks none but those of S has changed -/
structure ChgS (S : Nat → Prop) (w w' : World) : Prop where
  os : w'.os = w.os
  tape : w'.tape = w.tape
  output : w'.output = w.output
  size : w.heap.size ≤ w'.heap.size
  block : ∀ k, k < w.heap.size → ¬ S k → w'.heap[k]? = w.heap[k]?
theorem of_drw' {w w' : World} (h : Below (Sh.drw w).heap.size (Sh.drw w) w') : Below w.heap.size w w' := ⟨h.os, h.tape, h.output, h.size, h.block⟩
section
variable {S T : Nat → Prop} {w w' w2 : World}
theorem ChgS.refl (S : Nat → Prop) (w : World) : ChgS S w w := ⟨rfl, rfl, rfl, Nat.le_refl _, fun _ _ _ => rfl⟩
theorem ChgS.mono (h : ChgS S w w') (hs : ∀ k, S k → T k) : ChgS T w w' := ⟨h.os, h.tape, h.output, h.size, fun k a b => h.block k a (fun c => b (hs k c))⟩
theorem ChgS.mono' (h : ChgS S w w') (hs : ∀ k, k < w.heap.size → S k → T k) : ChgS T w w' := ⟨h.os, h.tape, h.output, h.size, fun k a b => h.block k a (fun c => b (hs k a c))⟩
theorem ChgS.trans (h : ChgS S w w') (k : ChgS T w' w2) (hs : ∀ x, x < w.heap.size → T x → S x) : ChgS S w w2 :=
  ⟨k.os.trans h.os, k.tape.trans h.tape, k.output.trans h.output, Nat.le_trans h.size k.size, fun i hi hp => (k.block i (Nat.lt_of_lt_of_le hi h.size) (fun c => hp (hs i hi c))).trans (h.block i hi hp)⟩
theorem ChgS.of_below (h : Below w.heap.size w w') : ChgS S w w' := ⟨h.os, h.tape, h.output, h.size, fun k hk _ => h.block k hk⟩
theorem ChgS.of_upd {p : Nat} (h : Upd p w w') (hp : S p) : ChgS S w w' := ⟨h.os, h.tape, h.output, by rw [h.size]; exact Nat.le_refl _, fun k _ hk => h.block k (fun e => hk (e ▸ hp))⟩
theorem ChgS.of_chg {p : Nat} (h : Chg p w w') (hp : S p) : ChgS S w w' := ⟨h.os, h.tape, h.output, h.size, fun k hl hk => h.block k hl (fun e => hk (e ▸ hp))⟩
theorem ChgS.below {B : Nat} (h : ChgS S w w') (hB : ∀ k, S k → B ≤ k) (hw : B ≤ w.heap.size) : Below B w w' := ⟨h.os, h.tape, h.output, h.size, fun k hk => h.block k (by omega) (fun c => by have := hB k c; omega)⟩
theorem ChgS.keep {q : Nat} {o : Obj} (h : ChgS S w w') (hq : w.heap[q]? = some o) (hne : ¬ S q) : w'.heap[q]? = some o := by rw [h.block q (blk_lt hq) hne]; exact hq
theorem ChgS.drw (h : ChgS S w w') : ChgS S w (drw w') := ⟨h.os, h.tape, h.output, h.size, h.block⟩
theorem ChgS.of_drw (h : ChgS S (Sh.drw w) w') : ChgS S w w' := ⟨h.os, h.tape, h.output, h.size, h.block⟩
theorem bs {B : Nat} {w0 : World} (b : Below B w0 w) (hB : ∀ k, S k → B ≤ k) (hw : B ≤ w.heap.size) (h : ChgS S w w') : Below B w0 w' := b.trans (h.below hB hw)
theorem ChgS.grown {w' : World} {row : Option Nat} (hg : w.grownBy w' row) (hr : ∀ k, row = some k → S k) : ChgS S w w' := by
  refine ⟨hg.os, hg.tape, hg.output, hg.size, fun k hk hs => hg.block k hk (fun e => hs (hr k e.symm))⟩
end
/-- a row of one-cell values, the call's own -/
def ownV (B : Nat) (e : TypeId) (w : World) (v : Value) (xs : List Value) : Prop := w.ownsRow B e 1 v xs.length xs
section
variable {P : Program} {w : World} {Q : Value → World → Prop} {K : Value → M} {K0 : M} {B : Nat} {e : TypeId} {v : Value} {xs : List Value}
theorem ownV_nil : ownV B e w (.slice none 0 0) [] := World.ownsRow_nil w B e 1
/-- the row's block, if it has one -/
theorem ownV_cases (h : ownV B e w v xs) : (v = .slice none 0 0 ∧ xs = []) ∨ ∃ g cap cur, v = .slice (some ⟨g, 0, none⟩) xs.length cap ∧ B ≤ g ∧ w.heap[g]? = some (.cells cur e (0, 0)) ∧ xs.length ≤ cap ∧ cap ≤ maxLen ∧ cur.size = cap ∧ cur.toList.take xs.length = xs := by
  obtain ⟨h1, h2⟩ := h
  rcases h2 with ⟨rfl, h0⟩ | ⟨g, cap, cur, rfl, hg, hb, hn, hm, hs, ht⟩
  · exact .inl ⟨rfl, List.length_eq_zero_iff.1 h0⟩
  · exact .inr ⟨g, cap, cur, rfl, hg, hb, hn, hm, by simpa using hs, by simpa using ht⟩
theorem ownV_mk {g cap : Nat} {cur : Array Value} (hg : B ≤ g) (hb : w.heap[g]? = some (.cells cur e (0, 0))) (hn : xs.length ≤ cap) (hm : cap ≤ maxLen) (hs : cur.size = cap) (ht : cur.toList.take xs.length = xs) : ownV B e w (.slice (some ⟨g, 0, none⟩) xs.length cap) xs :=
  ⟨by simp, .inr ⟨g, cap, cur, rfl, hg, hb, hn, hm, by simpa using hs, by simpa using ht⟩⟩
theorem ownV_len (h : ownV B e w v xs) : ∃ p c, v = .slice p xs.length c := by
  rcases ownV_cases h with ⟨rfl, rfl⟩ | ⟨g, cap, cur, rfl, _⟩
  · exact ⟨none, 0, rfl⟩
  · exact ⟨_, _, rfl⟩
theorem ownV_blk (h : ownV B e w v xs) (hne : xs ≠ []) : ∃ g cap, v = .slice (some ⟨g, 0, none⟩) xs.length cap ∧ v.ownBlock = some g ∧ B ≤ g ∧ (∃ cur, w.heap[g]? = some (.cells cur e (0, 0))) ∧ ∀ (i : Nat) (hi : i < xs.length), w.cell? ⟨g, i, none⟩ = some xs[i] := by
  rcases ownV_cases h with ⟨rfl, rfl⟩ | ⟨g, cap, cur, rfl, hg, hb, hn, hm, hs, ht⟩
  · exact absurd rfl hne
  · refine ⟨g, cap, rfl, rfl, hg, ⟨cur, hb⟩, fun i hi => ?_⟩
    rw [cell_of_blk hb]
    have : (cur.toList.take xs.length)[i]? = xs[i]? := by rw [ht]
    rw [List.getElem?_take_of_lt hi] at this
    rw [← Array.getElem?_toList, this, List.getElem?_eq_getElem hi]
theorem lnl_V {w1 : World} (h : ownV B e w v xs) (kk : K (.int .i64 xs.length) w1 Q) : lnl v K w1 Q := by
  obtain ⟨p, c, rfl⟩ := ownV_len h
  rw [lnl_e]; exact kk
theorem ia_at {g l c i : Nat} {k : IntKind} (hi : i < l) : ia 1 (.slice (some ⟨g, 0, none⟩) l c) (.int k (i : Int)) K w Q = K (.pointer (some ⟨g, i, none⟩)) w Q := by
  rw [ia_e, Int.toNat_natCast, Nat.mul_one, add_lit, Nat.zero_add]
  apply propext
  constructor
  · rintro ⟨_, _, h⟩; exact h
  · intro h; exact ⟨by omega, by omega, h⟩
theorem ownV_stay {w' : World} (h : ownV B e w v xs) (hb : ∀ g, v.ownBlock = some g → w'.heap[g]? = w.heap[g]?) : ownV B e w' v xs := by
  rcases ownV_cases h with ⟨rfl, rfl⟩ | ⟨g, cap, cur, rfl, hg, hb', hn, hm, hs, ht⟩
  · exact ownV_nil
  · exact ownV_mk hg (by rw [hb g rfl]; exact hb') hn hm hs ht
theorem ownV_lt (h : ownV B e w v xs) : ∀ g, v.ownBlock = some g → B ≤ g ∧ g < w.heap.size ∧ ∃ cur, w.heap[g]? = some (.cells cur e (0, 0)) := by
  intro g hg
  rcases ownV_cases h with ⟨rfl, rfl⟩ | ⟨g', cap, cur, rfl, hg', hb', _⟩
  · cases hg
  · cases hg; exact ⟨hg', blk_lt hb', _, hb'⟩
theorem ownV_below {w' : World} (h : ownV B e w v xs) (hb : Below w.heap.size w w') : ownV B e w' v xs := ownV_stay h (fun g hg => hb.block g (ownV_lt h g hg).2.1)
/-- a place stored: the row behind it -/
theorem ownV_set {w' : World} {i : Nat} {x : Value} {g : Nat} (h : ownV B e w v xs) (hi : i < xs.length) (hg : v.ownBlock = some g) (hw : ∀ cur, w.heap[g]? = some (.cells cur e (0, 0)) → w'.heap[g]? = some (.cells (cur.setIfInBounds i x) e (0, 0))) : ownV B e w' v (xs.set i x) := by
  rcases ownV_cases h with ⟨rfl, rfl⟩ | ⟨g', cap, cur, rfl, hg', hb', hn, hm, hs, ht⟩
  · simp at hi
  · cases hg
    have h1 := hw cur hb'
    have := ownV_mk (xs := xs.set i x) (cap := cap) hg' h1 (by simpa using hn) hm (by simp [hs]) (by
      rw [Array.toList_setIfInBounds, List.length_set, List.take_set, ht])
    simpa using this
theorem ia_stV {j : IntKind} {i : Nat} {x : Value} (h : ownV B e w v xs) (hi : i < xs.length) (hx : x.oneCell' = true)
    (kk : ∀ w' g, v.ownBlock = some g → ownV B e w' v (xs.set i x) → Upd g w w' → K0 w' Q) : ia 1 v (.int j (i : Int)) (fun p => st p x K0) w Q := by
  have h0 := h
  rcases ownV_cases h with ⟨rfl, rfl⟩ | ⟨g, cap, cur, rfl, hg, hb, hn, hm, hs, ht⟩
  · simp at hi
  · rw [ia_at hi]
    refine st_box hb (by omega) hx fun w' hw hu => ?_
    exact kk w' g rfl (ownV_set h0 hi rfl (fun cur' h' => by rw [hb] at h'; cases h'; exact hw)) hu
/-- one more, behind a row of the call's own -/
theorem ap_V {t : TypeId} {z x : Value} {b : Nat} (ht : slT P t e z 1 b) (hz : z.cells.size = 1) (hx : x.oneCell' = true) (hxc : x.cells = #[x]) (h : ownV B e w v xs) (h63 : xs.length + 1 ≤ maxLen) (hbytes : (xs.length + 1) * b ≤ 140737488355328) (hB : B ≤ w.heap.size)
    (kk : ∀ v' w', ownV B e w' v' (xs ++ [x]) → (∀ k, k < w.heap.size → v.ownBlock ≠ some k → w'.heap[k]? = w.heap[k]?) → w.heap.size ≤ w'.heap.size → (w'.os = w.os ∧ w'.tape = w.tape ∧ w'.output = w.output) → (∀ g, v'.ownBlock = some g → v.ownBlock = some g ∨ w.heap.size ≤ g) → K v' w' Q) :
    sm P (Instr.buildSlice t 1 #[(0, x)]) (fun u => sm P (Builtin.append_ #[t, t] t #[v, u]) K) w Q := by
  refine bsl1 ht hz hxc ?_
  have h1 : (psh w (.cells #[x] e)).ownsRow B e 1 v xs.length xs := World.ownsRow.alloc h _
  obtain ⟨i, g1, g2, g3, g4, g5⟩ := slT_info ht
  obtain ⟨v', w', hr, ho, hg, _, hf⟩ := run_append_own_at (P := P) (psh w (.cells #[x] e)) B t t e i z 1 b g1 g2 g3 g4 g5 hz (by decide) v xs.length xs h1 ⟨w.heap.size, 0, none⟩ 1 1 [x] rfl (by
    intro j u hj
    cases j with
    | zero => simp at hj; subst hj; rw [add_lit, cell_psh_new]; rfl
    | succ j => simp at hj) (by intro u hu; simp at hu; subst hu; exact hx) h63 hbytes (by rw [size_psh]; omega)
  refine ⟨v', w', hr, kk v' w' ?_ (fun k hk hne => ?_) ?_ ?_ ?_⟩
  · unfold ownV; rw [List.length_append]; exact ho
  · rw [hg.block k (by rw [size_psh]; omega) (fun e => hne e.symm), blk_psh_old hk]
  · have := hg.size; rw [size_psh] at this; omega
  · exact ⟨hg.os, hg.tape, hg.output⟩
  · intro g hgv
    rcases hf with hf | hf
    · left; rw [← hf]; exact hgv
    · right
      rw [hf, size_psh] at hgv
      cases hgv; omega
/-- one number more, behind a row of the call's own -/
theorem ap_one {t : TypeId} {k : IntKind} {l : List Int} {x : Int} {b : Nat} (ht : slT P t e (.int k 0) 1 b) (ho : ownI B e k w v l) (h63 : l.length + 1 ≤ 140737488355328) (hbytes : (l.length + 1) * b ≤ 140737488355328) (hB : B ≤ w.heap.size)
    (kk : ∀ v' w', ownI B e k w' v' (l ++ [x]) → Below B w w' → (∀ (B' : Nat) (e' : TypeId) (k' : IntKind) (u : Value) (l' : List Int), e' ≠ e → ownI B' e' k' w u l' → ownI B' e' k' w' u l') → (∀ q o, w.heap[q]? = some o → v.ownBlock ≠ some q → w'.heap[q]? = some o) → K v' w' Q) :
    sm P (Instr.buildSlice t 1 #[(0, .int k x)]) (fun u => sm P (Builtin.append_ #[t, t] t #[v, u]) K) w Q := by
  refine bsl1 ht rfl rfl ?_
  have ho1 := ownI_psh ho (.cells #[.int k x] e)
  have hb1 := b_psh w (.cells #[.int k x] e)
  refine ap_rd (b := b) (m := [x]) ht ho1 (.inr ⟨⟨w.heap.size, 0, none⟩, 1, rfl, fun i hi => ?_⟩) (by simpa using hbytes) (by simpa using h63) (by rw [size_psh]; omega) ?_
  · have : i = 0 := by simpa using hi
    subst this
    rw [add_lit, cell_psh_new]; rfl
  · intro v' w' ho' hg
    have hq : ∀ q o, w.heap[q]? = some o → v.ownBlock ≠ some q → w'.heap[q]? = some o := by
      intro q o hqo hne
      rw [hg.block q (by rw [size_psh]; have := blk_lt hqo; omega) (fun e => hne e.symm), blk_psh_old (blk_lt hqo)]
      exact hqo
    refine kk v' w' ho' (Below_grown (bt' (Below.refl _ _) hB hb1) ho1 (by rw [size_psh]; omega) hg) ?_ hq
    intro B' e' k' u l' hne hu
    obtain ⟨h1, h2⟩ := hu
    refine ⟨h1, ?_⟩
    rcases h2 with h2 | ⟨g, cap, cur, rfl, hg', hb', rest⟩
    · exact .inl h2
    · refine .inr ⟨g, cap, cur, rfl, hg', hq g _ hb' ?_, rest⟩
      intro ev
      obtain ⟨_, h3⟩ := ho
      rcases h3 with ⟨rfl, _⟩ | ⟨g2, cap2, cur2, rfl, _, hb2, _⟩
      · cases ev
      · cases ev
        rw [hb'] at hb2
        cases hb2
        exact hne rfl
end
end Sh
end Go.Proofs.Ytlmiimojgledpaa

namespace Go.Proofs.Ytlmiimojgledpaa
namespace Sh
open RowKit
/-- an element's cells told by a function of it -/
def eR {α : Type} (enc : α → List Value) : RepT α := fun _ cs x => cs = enc x
theorem eR_st {α : Type} {enc : α → List Value} : Stable (eR enc) := fun _ _ _ _ _ h => h
theorem flat_len {α : Type} {enc : α → List Value} {n : Nat} (hn : ∀ x, (enc x).length = n) : ∀ l : List α, (l.flatMap enc).length = l.length * n
  | [] => by simp
  | x :: l => by rw [List.flatMap_cons, List.length_append, hn, flat_len hn l, List.length_cons, Nat.add_mul]; omega
theorem flat_get {α : Type} {enc : α → List Value} {n : Nat} (hn : ∀ x, (enc x).length = n) : ∀ (l : List α) (i j : Nat) (hi : i < l.length), j < n → (l.flatMap enc)[i * n + j]? = (enc l[i])[j]?
  | x :: l, 0, j, hi, hj => by
    rw [List.flatMap_cons, Nat.zero_mul, Nat.zero_add, List.getElem?_append_left (by rw [hn]; exact hj)]; rfl
  | x :: l, i + 1, j, hi, hj => by
    rw [List.flatMap_cons, List.getElem?_append_right (by rw [hn, Nat.add_mul]; omega), hn]
    have e : (i + 1) * n + j - n = i * n + j := by rw [Nat.add_mul]; omega
    rw [e, flat_get hn l i j (by simpa using hi) hj]
    rfl
/-- the elements, the call's own -/
def ownE {α : Type} (B : Nat) (e : TypeId) (n : Nat) (enc : α → List Value) (w : World) (v : Value) (l : List α) : Prop := w.ownsRow B e n v l.length (l.flatMap enc)
section
variable {α : Type} {enc : α → List Value} {n : Nat} {P : Program} {w : World} {Q : Value → World → Prop} {K : Value → M} {B : Nat} {e : TypeId} {v : Value} {l : List α}
theorem ownE_nil : ownE B e n enc w (.slice none 0 0) [] := World.ownsRow_nil w B e n
theorem ownE_below {w' : World} (h : ownE B e n enc w v l) (hb : Below w.heap.size w w') : ownE B e n enc w' v l := by
  obtain ⟨h1, h2⟩ := h
  refine ⟨h1, ?_⟩
  rcases h2 with h2 | ⟨g, cap, cur, h3, hg, hb', rest⟩
  · exact .inl h2
  · exact .inr ⟨g, cap, cur, h3, hg, stay hb hb', rest⟩
theorem ownE_weak {B' : Nat} (h : ownE B e n enc w v l) (hB : B' ≤ B) : ownE B' e n enc w v l := by
  obtain ⟨h1, h2⟩ := h
  refine ⟨h1, ?_⟩
  rcases h2 with h2 | ⟨g, cap, cur, h3, hg, rest⟩
  · exact .inl h2
  · exact .inr ⟨g, cap, cur, h3, Nat.le_trans hB hg, rest⟩
theorem ownE_blk (h : ownE B e n enc w v l) : ∀ g, v.ownBlock = some g → B ≤ g ∧ g < w.heap.size ∧ ∃ cur, w.heap[g]? = some (.cells cur e (0, 0)) := by
  intro g hg
  obtain ⟨h1, h2⟩ := h
  rcases h2 with ⟨rfl, _⟩ | ⟨g', cap, cur, rfl, hg', hb', _⟩
  · cases hg
  · cases hg; exact ⟨hg', blk_lt hb', _, hb'⟩
theorem ownE_stay {w' : World} (h : ownE B e n enc w v l) (hb : ∀ g, v.ownBlock = some g → w'.heap[g]? = w.heap[g]?) : ownE B e n enc w' v l := by
  obtain ⟨h1, h2⟩ := h
  refine ⟨h1, ?_⟩
  rcases h2 with h2 | ⟨g, cap, cur, rfl, hg, hb', rest⟩
  · exact .inl h2
  · exact .inr ⟨g, cap, cur, rfl, hg, by rw [hb g rfl]; exact hb', rest⟩
theorem ownE_rd (hn : ∀ x, (enc x).length = n) (hn0 : 0 < n) (h : ownE B e n enc w v l) : rdS n (eR enc) w v l := by
  obtain ⟨h1, h2⟩ := h
  rcases h2 with ⟨rfl, h0⟩ | ⟨g, cap, cur, rfl, hg, hb, hnc, hm, hs, ht⟩
  · exact .inl ⟨rfl, List.length_eq_zero_iff.1 h0⟩
  · refine .inr ⟨⟨g, 0, none⟩, cap, rfl, hnc, fun i hi => ⟨enc l[i], hn _, fun j u hj => ?_, rfl⟩⟩
    have hjn : j < n := by
      rcases Nat.lt_or_ge j n with c | c
      · exact c
      · rw [List.getElem?_eq_none (by rw [hn]; exact c)] at hj; cases hj
    rw [add_lit, add_lit, Nat.zero_add, cell_of_blk hb]
    have h3 : (cur.toList.take (l.length * n))[i * n + j]? = (l.flatMap enc)[i * n + j]? := by rw [ht]
    have hlt : i * n + j < l.length * n := by
      have : (i + 1) * n ≤ l.length * n := Nat.mul_le_mul_right _ hi
      rw [Nat.add_mul] at this; omega
    rw [List.getElem?_take_of_lt hlt, flat_get hn l i j hi hjn, hj] at h3
    simpa using h3
/-- a row of several-cell elements, as cells in a line -/
theorem rdS_flat (hn : ∀ x, (enc x).length = n) (h : rdS n (eR enc) w v l) : (v = .slice none 0 0 ∧ l = []) ∨ ∃ a c, v = .slice (some a) l.length c ∧ ∀ j u, (l.flatMap enc)[j]? = some u → w.cell? (a.add j) = some u := by
  rcases h with h | ⟨a, c, rfl, hcc, h⟩
  · exact .inl h
  · refine .inr ⟨a, c, rfl, fun j u hj => ?_⟩
    have hjl : j < (l.flatMap enc).length := by
      rcases Nat.lt_or_ge j (l.flatMap enc).length with c | c
      · exact c
      · rw [List.getElem?_eq_none c] at hj; cases hj
    rw [flat_len hn] at hjl
    have hn0 : 0 < n := by
      rcases Nat.eq_zero_or_pos n with c | c
      · rw [c, Nat.mul_zero] at hjl; omega
      · exact c
    have hi : j / n < l.length := Nat.div_lt_of_lt_mul (by rw [Nat.mul_comm]; exact hjl)
    have hr : j % n < n := Nat.mod_lt _ hn0
    have e : j = j / n * n + j % n := by rw [Nat.mul_comm]; exact (Nat.div_add_mod j n).symm
    obtain ⟨es, h1, h2, h3⟩ := h (j / n) hi
    have h3 : es = enc l[j / n] := h3
    rw [e, flat_get hn l _ _ hi hr, ← h3] at hj
    have h4 := h2 _ _ hj
    have e2 : (a.add (j / n * n)).add (j % n) = a.add j := by
      conv => rhs; rw [e]
      unfold Addr.add
      by_cases z1 : j / n * n = 0
      · simp [z1]
      · by_cases z2 : j % n = 0
        · simp [z1, z2]
        · have : ¬ (j / n * n + j % n = 0) := by omega
          simp [z1, z2, this, Nat.add_assoc]
    rw [← e2]; exact h4
/-- elements behind a row of the call's own -/
theorem ap_E {t ty : TypeId} {z u : Value} {b : Nat} {m : List α} (ht : slT P t e z n b) (hz : z.cells.size = n) (hn0 : 0 < n) (hn : ∀ x, (enc x).length = n) (h1 : ∀ x, ∀ c ∈ enc x, c.oneCell' = true) (ho : ownE B e n enc w v l) (hr : rdS n (eR enc) w u m)
    (h63 : l.length + m.length ≤ maxLen) (hbytes : (l.length + m.length) * b ≤ 140737488355328) (hB : B ≤ w.heap.size)
    (kk : ∀ v' w', ownE B e n enc w' v' (l ++ m) → w.grownBy w' v.ownBlock → (v'.ownBlock = v.ownBlock ∨ v'.ownBlock = some w.heap.size) → K v' w' Q) : sm P (Builtin.append_ #[t, t] ty #[v, u]) K w Q := by
  obtain ⟨i, g1, g2, g3, g4, g5⟩ := slT_info ht
  rcases rdS_flat hn hr with ⟨rfl, rfl⟩ | ⟨a, c, rfl, hrf⟩
  · refine ⟨v, w, run_append_owned_none w B t ty e i n g1 g2 v l.length (l.flatMap enc) ho, kk v w (by rw [List.append_nil]; exact ho) (World.grownBy.refl w _) (.inl rfl)⟩
  · obtain ⟨v', w', hrun, ho', hg, _, hf⟩ := run_append_own_at (P := P) w B t ty e i z n b g1 g2 g3 g4 g5 hz hn0 v l.length (l.flatMap enc) ho a m.length c (m.flatMap enc) (flat_len hn m) hrf (by
        intro x hx
        obtain ⟨y, _, hy⟩ := List.mem_flatMap.1 hx
        exact h1 y x hy) h63 hbytes hB
    refine ⟨v', w', hrun, kk v' w' ?_ hg hf⟩
    unfold ownE
    rw [List.length_append, List.flatMap_append]
    exact ho'
/-- the rest of a slice -/
theorem sll_drop {R : RepT α} {k : Nat} {j : IntKind} (h : rdS n R w v l) (hk : k ≤ l.length) (kk : ∀ v', rdS n R w v' (l.drop k) → (∀ a c, v' = .slice (some a) (l.drop k).length c → ∃ a' c', v = .slice (some a') l.length c' ∧ a.block = a'.block) → (v = .slice none 0 0 → v' = .slice none 0 0) → K v' w Q) : sll n v (some (.int j (k : Int))) none K w Q := by
  rcases h with ⟨rfl, rfl⟩ | ⟨a, c, rfl, hcc, h⟩
  · have : k = 0 := by simpa using hk
    subst this
    refine ⟨none, 0, 0, 0, 0, rfl, rfl, ⟨_, _, rfl, by omega, by omega, by omega⟩, ?_⟩
    exact kk _ (.inl ⟨by simp, by simp⟩) (fun a c e => by cases e) (fun _ => by simp)
  · refine ⟨some a, l.length, c, k, l.length, rfl, rfl, ⟨_, _, rfl, by omega, by omega, by omega⟩, ?_⟩
    by_cases hck : c = k
    · subst hck
      have hl : l.length = c := by omega
      rw [if_pos rfl]
      refine kk _ (.inr ⟨a, c - c, by rw [List.length_drop], by rw [List.length_drop]; omega, fun i hi => by rw [List.length_drop] at hi; omega⟩) (fun a' c' e => ⟨a, _, rfl, by simp only [Value.slice.injEq, Option.some.injEq] at e; rw [e.1]⟩) (fun e => by cases e)
    · rw [if_neg hck]
      refine kk _ (.inr ⟨a.add (k * n), c - k, by rw [List.length_drop]; rfl, by rw [List.length_drop]; omega, fun i hi => ?_⟩) (fun a' c' e => ⟨a, _, rfl, by simp only [Value.slice.injEq, Option.map_some, Option.some.injEq] at e; rw [← e.1, add_block]⟩) (fun e => by cases e)
      rw [List.length_drop] at hi
      obtain ⟨es, g1, g2, g3⟩ := h (k + i) (by omega)
      refine ⟨es, g1, ?_, by simpa using g3⟩
      have e2 : (a.add (k * n)).add (i * n) = a.add ((k + i) * n) := by
        rw [Nat.add_mul]
        unfold Addr.add
        by_cases z1 : k * n = 0
        · simp [z1]
        · by_cases z2 : i * n = 0
          · simp [z1, z2]
          · have : ¬ (k * n + i * n = 0) := by omega
            simp [z1, z2, this, Nat.add_assoc]
      rw [e2]; exact g2
theorem fold_set : ∀ (cs : List Value) (k : Nat) (base : Array Value), k + cs.length ≤ base.size → ((cs.zipIdx k).foldl (fun a p => a.setIfInBounds (0 + p.2) p.1) base).toList = base.toList.take k ++ cs ++ base.toList.drop (k + cs.length) := by
  intro cs
  induction cs with
  | nil => intro k base h; simp
  | cons c cs ih =>
    intro k base h
    simp only [List.length_cons] at h
    rw [List.zipIdx_cons, List.foldl_cons, ih (k + 1) _ (by simp; omega)]
    simp only [Nat.zero_add, Array.toList_setIfInBounds, List.length_cons]
    have hlt : k < base.toList.length := by simp; omega
    have q1 : (base.toList.set k c).take (k + 1) = base.toList.take k ++ [c] := by
      rw [List.take_succ_eq_append_getElem (by simpa using hlt)]
      simp [List.take_set]
      rw [List.set_eq_of_length_le (by simp; omega)]
    have q2 : (base.toList.set k c).drop (k + 1 + cs.length) = base.toList.drop (k + (cs.length + 1)) := by
      rw [List.drop_set_of_lt (by omega)]; congr 1; omega
    rw [q1, q2]; simp
/-- []T{x}: an element of several cells -/
theorem bslE {t : TypeId} {z : Value} {b : Nat} {x : α} (ht : slT P t e z n b) (hz : z.cells.size = n) (hn0 : 0 < n) (hn24 : n ≤ 16777216) (hn : (enc x).length = n)
    (k : ∀ w', w'.heap[w.heap.size]? = some (.cells (enc x).toArray e (0, 0)) → Below w.heap.size w w' → K (.slice (some ⟨w.heap.size, 0, none⟩) 1 1) w' Q) : sm P (Instr.buildSlice t 1 #[(0, .agg (enc x).toArray)]) K w Q := by
  obtain ⟨i, h1, h2, h3, h4, h5⟩ := slT_info ht
  refine ⟨.slice (some ⟨w.heap.size, 0, none⟩) 1 1, psh w (.cells (enc x).toArray e), ?_, k _ blk_psh_new (b_psh _ _)⟩
  have hsz : (enc x).toArray.size = n := by simpa using hn
  have hne : ¬ n = 0 := by omega
  have hle : ¬ 2 ^ 24 < n := by omega
  have hfill : ∀ base : Array Value, base.size = n → Instr.fill (fun i => some (i * n, n)) base [(0, .agg (enc x).toArray)] = some (enc x).toArray := by
    intro base hb
    simp only [Instr.fill, Value.cells, Nat.zero_mul, hsz, ne_eq, not_true_eq_false, Nat.zero_add, hb, Nat.lt_irrefl, gt_iff_lt, or_self, decide_false, Bool.or_self, Bool.false_eq_true, if_false]
    congr 1
    apply Array.toList_inj.1
    have hf := fold_set (enc x) 0 base (by omega)
    rw [← Array.foldl_toList, Array.toList_zipIdx]
    simp only [Nat.zero_add] at hf ⊢
    refine hf.trans ?_
    rw [List.take_zero, List.drop_of_length_le (by simp; omega)]
    simp
  simp only [Instr.buildSlice, underlying, Sem.run_bind, run_program, Result.andThen_ok, h1, Sem.run_pure, sizeOf, typeInfo, h2, h4, Nat.one_mul, gt_iff_lt, hle, if_false, hne, zeroValue, h3]
  rw [hfill _ (by simp)]
  simp [newRow, newObj, psh, Sem.run]
theorem rd_lit {x : α} {g : Nat} (hn : (enc x).length = n) (h : w.heap[g]? = some (.cells (enc x).toArray e (0, 0))) : rdS n (eR enc) w (.slice (some ⟨g, 0, none⟩) 1 1) [x] := by
  refine .inr ⟨⟨g, 0, none⟩, 1, rfl, Nat.le_refl _, fun i hi => ?_⟩
  have : i = 0 := by simpa using hi
  subst this
  refine ⟨enc x, hn, fun j u hj => ?_, rfl⟩
  rw [Nat.zero_mul, add_zero', add_lit, Nat.zero_add, cell_of_blk h]
  simpa using hj
end
end Sh
end Go.Proofs.Ytlmiimojgledpaa

namespace Go.Proofs.Ytlmiimojgledpaa
open Sh RowKit
namespace Sh
/-- cells laid over a list's, from a place on -/
def ovl (l : List Value) (o : Nat) (cs : List Value) : List Value := l.take o ++ cs ++ l.drop (o + cs.length)
theorem ovl_len {l cs : List Value} {o : Nat} (h : o + cs.length ≤ l.length) : (ovl l o cs).length = l.length := by
  unfold ovl; simp; omega
theorem ovl_one {l : List Value} {o : Nat} {c : Value} (h : o < l.length) : ovl l o [c] = l.set o c := by
  unfold ovl
  rw [List.set_eq_take_append_cons_drop, if_pos h]
  simp
theorem ovl_all {l cs : List Value} (h : cs.length = l.length) : ovl l 0 cs = cs := by
  unfold ovl; simp [h]
section
variable {α : Type} {enc : α → List Value} {n : Nat}
theorem flat_ovl (hn : ∀ x, (enc x).length = n) : ∀ (l : List α) (i o : Nat) (cs : List Value) (y : α) (hi : i < l.length), o + cs.length ≤ n → enc y = ovl (enc l[i]) o cs → ovl (l.flatMap enc) (i * n + o) cs = (l.set i y).flatMap enc
  | [], i, o, cs, y, hi, _, _ => by simp at hi
  | x :: l, 0, o, cs, y, hi, ho, he => by
    simp only [List.flatMap_cons, List.set_cons_zero, Nat.zero_mul, Nat.zero_add, List.getElem_cons_zero] at *
    rw [he]
    unfold ovl
    have hx := hn x
    rw [List.take_append_of_le_length (by omega), List.drop_append_of_le_length (by omega)]
    simp
  | x :: l, i + 1, o, cs, y, hi, ho, he => by
    have ih := flat_ovl hn l i o cs y (by simpa using hi) ho (by simpa using he)
    rw [List.flatMap_cons, List.set_cons_succ, List.flatMap_cons, ← ih]
    unfold ovl
    have hx := hn x
    have e1 : (i + 1) * n + o = (enc x).length + (i * n + o) := by rw [hx, Nat.add_mul]; omega
    rw [e1, List.take_length_add_append, Nat.add_assoc (enc x).length, List.drop_length_add_append]
    simp [List.append_assoc]
variable {P : Program} {w : World} {Q : Value → World → Prop} {K : Value → M} {K0 : M} {B : Nat} {e : TypeId} {v : Value} {l : List α}
/-- a row that is not empty, opened -/
theorem ownE_open (h : ownE B e n enc w v l) (hl : 0 < l.length) : ∃ g cap cur, v = .slice (some ⟨g, 0, none⟩) l.length cap ∧ v.ownBlock = some g ∧ B ≤ g ∧ w.heap[g]? = some (.cells cur e (0, 0)) ∧ l.length ≤ cap ∧ cap ≤ maxLen ∧ cur.size = cap * n ∧ cur.toList.take (l.length * n) = l.flatMap enc := by
  obtain ⟨h1, h2⟩ := h
  rcases h2 with ⟨rfl, h0⟩ | ⟨g, cap, cur, rfl, hg, hb, hn, hm, hs, ht⟩
  · omega
  · exact ⟨g, cap, cur, rfl, rfl, hg, hb, hn, hm, hs, ht⟩
theorem ovl_take {l cs : List Value} {o m : Nat} (h : o + cs.length ≤ m) (hm : m ≤ l.length) : (ovl l o cs).take m = ovl (l.take m) o cs := by
  unfold ovl
  have e1 : (l.take o ++ cs).length = o + cs.length := by simp; omega
  rw [List.take_append, List.take_of_length_le (by omega), e1, List.take_take, List.drop_take, Nat.min_eq_left (by omega)]
theorem ownE_put {w' : World} {i o : Nat} {cs : List Value} {y : α} (hn : ∀ x, (enc x).length = n) (h : ownE B e n enc w v l) (hi : i < l.length) (ho : o + cs.length ≤ n) (he : enc y = ovl (enc l[i]) o cs)
    (hw : ∀ g cur, v.ownBlock = some g → w.heap[g]? = some (.cells cur e (0, 0)) → ∃ cur', w'.heap[g]? = some (.cells cur' e (0, 0)) ∧ cur'.toList = ovl cur.toList (i * n + o) cs) : ownE B e n enc w' v (l.set i y) := by
  obtain ⟨g, cap, cur, rfl, hob, hg, hb, hc, hm, hs, ht⟩ := ownE_open h (by omega)
  obtain ⟨cur', h1, h2⟩ := hw g cur rfl hb
  have hin : i * n + n ≤ l.length * n := by
    have := Nat.mul_le_mul_right n (show i + 1 ≤ l.length by omega)
    rw [Nat.add_mul, Nat.one_mul] at this; exact this
  have hcap : l.length * n ≤ cap * n := Nat.mul_le_mul_right n hc
  have hsl : cur.toList.length = cap * n := by simpa using hs
  refine ⟨by rw [flat_len hn], .inr ⟨g, cap, cur', by rw [List.length_set], hg, h1, by rw [List.length_set]; exact hc, hm, ?_, ?_⟩⟩
  · have := congrArg List.length h2
    rw [ovl_len (by omega)] at this
    simpa [hs] using this
  · rw [List.length_set, h2, ovl_take (by omega) (by omega), ht, flat_ovl hn l i o cs y hi ho he]
theorem ia_E {g cap L i n : Nat} {j : IntKind} (hi : i < L) : ia n (.slice (some ⟨g, 0, none⟩) L cap) (.int j (i : Int)) K w Q = K (.pointer (some ⟨g, i * n, none⟩)) w Q := by
  rw [ia_e, Int.toNat_natCast, add_lit, Nat.zero_add]
  apply propext
  constructor
  · rintro ⟨_, _, h⟩; exact h
  · intro h; exact ⟨by omega, by omega, h⟩
/-- some cells of a block stored -/
theorem stn_at {b o m : Nat} {c cs : Array Value} {t : TypeId} (h : w.heap[b]? = some (.cells c t (0, 0))) (hm : cs.size = m) (hc : o + m ≤ c.size) (h1 : ∀ v ∈ cs.toList, v.oneCell' = true)
    (k : ∀ w' c', w'.heap[b]? = some (.cells c' t (0, 0)) → c'.toList = ovl c.toList o cs.toList → Upd b w w' → K0 w' Q) : stn m (.pointer (some ⟨b, o, none⟩)) (.agg cs) K0 w Q := by
  obtain ⟨w', c', e1, e2, e3, e4⟩ := sts_blk (o := o) cs.toList 0 w c h (by simpa [hm] using hc) h1
  exact ⟨_, cs, w', rfl, rfl, hm, e1, k w' c' e2 (by rw [e3]; rfl) e4⟩
theorem ia_stnE {j : IntKind} {i : Nat} {y : α} (hn : ∀ x, (enc x).length = n) (h1 : ∀ x, ∀ c ∈ enc x, c.oneCell' = true) (h : ownE B e n enc w v l) (hi : i < l.length)
    (kk : ∀ w' g, v.ownBlock = some g → ownE B e n enc w' v (l.set i y) → Upd g w w' → K0 w' Q) : ia n v (.int j (i : Int)) (fun p => stn n p (.agg (enc y).toArray) K0) w Q := by
  obtain ⟨g, cap, cur, rfl, hob, hg, hb, hc, hm, hs, ht⟩ := ownE_open h (by omega)
  rw [ia_E hi]
  have hcs : i * n + n ≤ cur.size := by
    rw [hs]
    have := Nat.mul_le_mul_right n (show i + 1 ≤ cap by omega)
    rw [Nat.add_mul, Nat.one_mul] at this; exact this
  refine stn_at hb (by simpa using hn y) hcs (by simpa using h1 y) fun w' c' q1 q2 q3 => kk w' g rfl ?_ q3
  refine ownE_put (o := 0) (cs := enc y) hn h hi (by rw [hn]; omega) (by rw [ovl_all (by rw [hn, hn])]) (fun g' cur' e1 e2 => ?_)
  cases e1
  rw [hb] at e2; cases e2
  exact ⟨c', q1, by simpa using q2⟩
theorem ia_stE {j : IntKind} {i o : Nat} {y : α} {c : Value} (hn : ∀ x, (enc x).length = n) (h : ownE B e n enc w v l) (hi : i < l.length) (ho : o < n) (hc : c.oneCell' = true) (he : enc y = (enc l[i]).set o c)
    (kk : ∀ w' g, v.ownBlock = some g → ownE B e n enc w' v (l.set i y) → Upd g w w' → K0 w' Q) : ia n v (.int j (i : Int)) (fun p => fa o p (fun q => st q c K0)) w Q := by
  obtain ⟨g, cap, cur, rfl, hob, hg, hb, hcc, hm, hs, ht⟩ := ownE_open h (by omega)
  rw [ia_E hi]
  have hcs : i * n + n ≤ cur.size := by
    rw [hs]
    have := Nat.mul_le_mul_right n (show i + 1 ≤ cap by omega)
    rw [Nat.add_mul, Nat.one_mul] at this; exact this
  rw [fa_e]
  show st (.pointer (some (Addr.add ⟨g, i * n, none⟩ o))) c K0 w Q
  rw [add_lit]
  refine st_box hb (by omega) hc fun w' q1 q3 => kk w' g rfl ?_ q3
  refine ownE_put (o := o) (cs := [c]) hn h hi (by simp only [List.length_singleton]; omega) (by rw [ovl_one (by rw [hn]; exact ho)]; exact he) (fun g' cur' e1 e2 => ?_)
  cases e1
  rw [hb] at e2; cases e2
  exact ⟨_, q1, by rw [ovl_one (by simp; omega)]; simp⟩
/-- a new row of noughts -/
theorem made_eq {m : Nat} {c : Value} (hm : 0 < m) : ∀ k, (madeCells (Array.replicate m c) k).toList = List.replicate k c := by
  intro k
  apply List.ext_getElem
  · simp [madeCells]
  · intro i h1 h2
    have : i % m < m := Nat.mod_lt _ hm
    simp [madeCells, this]
theorem mkE {t : TypeId} {z c : Value} {j j' : IntKind} {b k : Nat} {x : α} (ht : slT P t e z n b) (hz : z.cells = Array.replicate n c) (hn0 : 0 < n) (hx : enc x = List.replicate n c) (hb : b * k ≤ 281474976710656) (hk : k ≤ 281474976710656) (hB : B ≤ w.heap.size)
    (kk : ∀ w' v', v' = .slice (some ⟨w.heap.size, 0, none⟩) k k → ownE B e n enc w' v' (List.replicate k x) → Below w.heap.size w w' → K v' w' Q) : sm P (Instr.makeSlice t (.int j (k : Int)) (.int j' (k : Int))) K w Q := by
  obtain ⟨i, g1, g2, g3, g4, g5⟩ := slT_info ht
  obtain ⟨w', hr, ho, hg⟩ := run_make_full (P := P) w B t e i z n g1 g2 g3 g4 j j' k (by rw [g5]; exact hb) (by unfold maxLen; omega) hB
  refine ⟨_, w', hr, kk w' _ rfl ?_ ((Below.refl _ _).grown hg (Nat.le_refl _) (fun k hk => by cases hk))⟩
  unfold ownE
  rw [List.length_replicate]
  have : (List.replicate k x).flatMap enc = (madeCells z.cells (k * n)).toList := by
    rw [hz, made_eq hn0, List.flatMap_replicate, hx, List.flatten_replicate_replicate]
  rw [this]
  exact ho
theorem run_copy_str {dT sT ty elem : TypeId} {g o dLen dCap : Nat} {s : ByteArray} {cur : Array Value} {t : TypeId} (hu : P.underlying dT = some (.slice elem)) (hs : (P.info? elem).map (·.size) = some 1)
    (hg : w.heap[g]? = some (.cells cur t (0, 0))) (hle : s.size ≤ dLen) (hfit : o + s.size ≤ cur.size) :
    (Builtin.copy_ #[dT, sT] ty #[.slice (some ⟨g, o, none⟩) dLen dCap, .string s]).run P w = .ok (.int .i64 s.size) (w.setRow g (ovl cur.toList o ((byL s).map (.int .u8))).toArray) := by
  have hc : (Builtin.firstCells 1 s.size (.string s)).run P w = .ok ((byL s).map (Value.int .u8)).toArray w := by
    have : s.extract 0 s.size = s := ByteArray.extract_zero_size
    simp only [Builtin.firstCells, this, Sem.run_pure, byL]
    congr 1
    apply Array.ext'
    simp [Function.comp_def]
  have hl : ((byL s).map (Value.int .u8)).length = s.size := by rw [List.length_map, byL_len]
  have hst := run_storeCells_at P g o t ((byL s).map (Value.int .u8)) 0 cur w hg (by rw [hl]; simpa using hfit) (by intro v hv; obtain ⟨a, _, rfl⟩ := List.mem_map.1 hv; rfl)
  have hmin : Nat.min s.size dLen = s.size := Nat.min_eq_left hle
  cases hq : P.info? elem with
  | none => simp [hq] at hs
  | some i =>
    have hi : i.size = 1 := by simpa [hq] using hs
    simp only [Nat.add_zero] at hst
    simp [Builtin.copy_, run_underlying hu, Builtin.lenOf, sizeOf, typeInfo, hq, hi, hmin, hc, hst, goInt, ovl, Result.andThen]
theorem Upd_setRow {g : Nat} {c cs : Array Value} {t : TypeId} {fr : Nat × Nat} (h : w.heap[g]? = some (.cells c t fr)) : Upd g w (w.setRow g cs) ∧ (w.setRow g cs).heap[g]? = some (.cells cs t fr) :=
  ⟨⟨rfl, rfl, rfl, by simp [World.setRow], fun k hk => setRow_other w g k cs hk⟩, setRow_heap w g c cs t fr h⟩
end
end Sh
end Go.Proofs.Ytlmiimojgledpaa

namespace Go.Proofs.Ytlmiimojgledpaa
namespace Sh
open RowKit
section
variable {P : Program} {w : World} {e t : TypeId} {k : IntKind} {n : Nat} {xa0 xb0 : List Int}
theorem eqInt (he : P.underlying e = some (.int k)) (d : Nat) (a b : Int) : (Op.equalIn (d + 1) e (.int k a) (.int k b)).run P w = .ok (a == b) w := by
  simp [Op.equalIn, underlying, he]
theorem pk_int (he : P.underlying e = some (.int k)) : P.plainKey e = true := by simp [Program.plainKey, he]
theorem eqItems_run (he : P.underlying e = some (.int k)) (d : Nat) (ha : xa0.length = n) (hb : xb0.length = n) : ∀ (is : List Nat), (∀ i ∈ is, i < n) →
    (Op.eqItems (d + 1) e 1 (xa0.map (Value.int k)).toArray (xb0.map (Value.int k)).toArray is).run P w = .ok (is.all fun i => xa0[i]? == xb0[i]?) w
  | [], _ => by simp [Op.eqItems]
  | i :: is, h => by
    have hi := h i (by simp)
    have ih := eqItems_run he d ha hb is (fun j hj => h j (by simp [hj]))
    have xa : (xa0.map (Value.int k)).toArray[i * 1]? = some (.int k xa0[i]) := by simp; try exact ⟨by omega, rfl⟩
    have xb : (xb0.map (Value.int k)).toArray[i * 1]? = some (.int k xb0[i]) := by simp; try exact ⟨by omega, rfl⟩
    have e1 : (xa0[i]? == xb0[i]?) = (xa0[i] == xb0[i]) := by rw [List.getElem?_eq_getElem (by omega), List.getElem?_eq_getElem (by omega)]; rfl
    rw [Op.eqItems]
    simp only [Sem.run_bind, run_part_plain w (pk_int he) xa, run_part_plain w (pk_int he) xb, eqInt he, Result.andThen_ok, List.all_cons, e1]
    cases hc : (xa0[i] == xb0[i])
    · simp
    · simpa using ih
theorem all_eq (ha : xa0.length = n) (hb : xb0.length = n) : ((List.range n).all fun i => xa0[i]? == xb0[i]?) = decide (xa0 = xb0) := by
  rw [Bool.eq_iff_iff, List.all_eq_true, decide_eq_true_iff]
  constructor
  · intro h
    apply List.ext_getElem?
    intro i
    rcases Nat.lt_or_ge i n with c | c
    · simpa using h i (List.mem_range.2 c)
    · rw [List.getElem?_eq_none (by omega), List.getElem?_eq_none (by omega)]
  · rintro rfl i _
    simp
theorem run_ne_arr {x y : Operand} (hu : P.underlying t = some (.array n e)) (he : P.underlying e = some (.int k)) (hc : P.cellsOf e = 1) (hi : (P.info? e).isSome = true) (hg : P.eqGuardType P.depth t = false) (ha : xa0.length = n) (hb : xb0.length = n) :
    ((do eqGuard .neq t x y (.agg (xa0.map (Value.int k)).toArray) (.agg (xb0.map (Value.int k)).toArray); binOp .neq t (.agg (xa0.map (Value.int k)).toArray) (.agg (xb0.map (Value.int k)).toArray) : Sem Value)).run P w = .ok (.bool (!decide (xa0 = xb0))) w := by
  obtain ⟨i, hi⟩ := Option.isSome_iff_exists.1 hi
  have h2 : (Op.equalIn 10000 t (.agg (xa0.map (Value.int k)).toArray) (.agg (xb0.map (Value.int k)).toArray)).run P w = .ok (decide (xa0 = xb0)) w := by
    rw [run_equalIn_array (P := P) w 9999 _ _ hu hi, hc, eqItems_run he 9998 ha hb _ (fun i hi => List.mem_range.1 hi), all_eq ha hb]
  have h3 : (Op.equal t (.agg (xa0.map (Value.int k)).toArray) (.agg (xb0.map (Value.int k)).toArray)).run P w = .ok (decide (xa0 = xb0)) w := h2
  simp [eqGuard, hg, binOp, h3]
theorem run_eq_arr {x y : Operand} (hu : P.underlying t = some (.array n e)) (he : P.underlying e = some (.int k)) (hc : P.cellsOf e = 1) (hi : (P.info? e).isSome = true) (hg : P.eqGuardType P.depth t = false) (ha : xa0.length = n) (hb : xb0.length = n) :
    ((do eqGuard .eql t x y (.agg (xa0.map (Value.int k)).toArray) (.agg (xb0.map (Value.int k)).toArray); binOp .eql t (.agg (xa0.map (Value.int k)).toArray) (.agg (xb0.map (Value.int k)).toArray) : Sem Value)).run P w = .ok (.bool (decide (xa0 = xb0))) w := by
  obtain ⟨i, hi⟩ := Option.isSome_iff_exists.1 hi
  have h2 : (Op.equalIn 10000 t (.agg (xa0.map (Value.int k)).toArray) (.agg (xb0.map (Value.int k)).toArray)).run P w = .ok (decide (xa0 = xb0)) w := by
    rw [run_equalIn_array (P := P) w 9999 _ _ hu hi, hc, eqItems_run he 9998 ha hb _ (fun i hi => List.mem_range.1 hi), all_eq ha hb]
  have h3 : (Op.equal t (.agg (xa0.map (Value.int k)).toArray) (.agg (xb0.map (Value.int k)).toArray)).run P w = .ok (decide (xa0 = xb0)) w := h2
  simp [eqGuard, hg, binOp, h3]
/-- an element's place and value, in whatever world -/
theorem rdI_at {v : Value} {l : List Int} (h : rdI k w v l) {i : Nat} (hi : i < l.length) : ∃ a : Addr, w.cell? a = some (.int k l[i]) ∧ ∀ (j : IntKind) (K : Value → M) (w' : World) (Q : Value → World → Prop), ia 1 v (.int j (i : Int)) K w' Q = K (.pointer (some a)) w' Q := by
  obtain ⟨p, c, rfl, h⟩ := h
  obtain ⟨a, rfl, hc⟩ := h i hi
  refine ⟨a.add i, hc, fun j K w' Q => ?_⟩
  rw [ia_e, Int.toNat_natCast, Nat.mul_one]
  apply propext
  constructor
  · rintro ⟨_, _, h⟩; exact h
  · intro h; exact ⟨by omega, by omega, h⟩
/-- a beginning of a row of the call's own copied over some of another's cells -/
theorem cpy {dT sT ty : TypeId} {elem : TypeId} {g o m g2 c1 c2 l2 : Nat} {cur cur2 : Array Value} {t2 : TypeId} {fr : Nat × Nat} {K : Value → M} {Q : Value → World → Prop} (hu : P.underlying dT = some (.slice elem)) (hs : (P.info? elem).map (·.size) = some 1)
    (hg : w.heap[g]? = some (.cells cur t (0, 0))) (hg2 : w.heap[g2]? = some (.cells cur2 t2 fr)) (hm : m ≤ l2) (h2 : m ≤ cur2.size) (hfit : o + m ≤ cur.size) (h1 : ∀ v ∈ cur2.toList, v.oneCell' = true)
    (kk : ∀ w', w'.heap[g]? = some (.cells (ovl cur.toList o (cur2.toList.take m)).toArray t (0, 0)) → Upd g w w' → K (.int .i64 m) w' Q) :
    sm P (Builtin.copy_ #[dT, sT] ty #[.slice (some ⟨g, o, none⟩) m c1, .slice (some ⟨g2, 0, none⟩) l2 c2]) K w Q := by
  have hl : (cur2.toList.take m).length = m := by rw [List.length_take, Array.length_toList]; omega
  have hr := run_copy_row (P := P) w dT sT ty elem g o m c1 ⟨g2, 0, none⟩ l2 c2 cur t (cur2.toList.take m) hu hs hg (by rw [hl]; exact (Nat.min_eq_right hm).symm) (fun j v hj => by
      rw [add_lit, Nat.zero_add, cell_of_blk hg2]
      have : j < m := by rcases Nat.lt_or_ge j m with c | c; exact c; rw [List.getElem?_eq_none (by omega)] at hj; cases hj
      rw [List.getElem?_take_of_lt this] at hj
      simpa using hj) (by rw [hl]; exact hfit) (fun v hv => h1 v (List.mem_of_mem_take hv))
  rw [hl] at hr
  obtain ⟨u1, u2⟩ := Upd_setRow (cs := (ovl cur.toList o (cur2.toList.take m)).toArray) hg
  refine ⟨_, _, hr, ?_⟩
  have e : (w.setRow g (cur.toList.take o ++ cur2.toList.take m ++ cur.toList.drop (o + m)).toArray) = w.setRow g (ovl cur.toList o (cur2.toList.take m)).toArray := by unfold ovl; rw [hl]
  rw [e]
  exact kk _ u2 u1
end
end Sh
end Go.Proofs.Ytlmiimojgledpaa

namespace Go.Proofs.Ytlmiimojgledpaa
open Sh RowKit Go.MapKept
structure Val where
  k : Int
  n : Int
  s : ByteArray
deriving DecidableEq
abbrev Row := List Val
def encV (a : Val) : List Value := [.int .i64 a.k, .int .i64 a.n, .string a.s]
def okV (a : Val) : Prop := (Lit.int .i64 a.k).wf = true ∧ (Lit.int .i64 a.n).wf = true ∧ a.s.size ≤ maxLen
def valV (a : Val) : Value := .agg (encV a).toArray
theorem encV_len (a : Val) : (encV a).length = 3 := rfl
theorem encV_one (a : Val) : ∀ c ∈ encV a, c.oneCell' = true := by intro c hc; simp [encV] at hc; rcases hc with rfl | rfl | rfl <;> rfl
theorem encV_inj {a b : Val} (h : encV a = encV b) : a = b := by
  obtain ⟨a1, a2, a3⟩ := a
  obtain ⟨b1, b2, b3⟩ := b
  simp only [encV, List.cons.injEq, Value.int.injEq, Value.string.injEq, true_and, and_true] at h
  obtain ⟨rfl, rfl, rfl⟩ := h
  rfl
/-- a row -/
def vR : RepT Val := fun _ cs a => cs = encV a ∧ okV a
theorem vR_st : Stable vR := fun _ _ _ _ _ h => h
def rowR : RepT Row := fun w cs r => ∃ v, cs = [v] ∧ rdS 3 vR w v r
theorem rowR_st : Stable rowR := by
  rintro w w' cs r hb ⟨v, rfl, h⟩
  exact ⟨v, rfl, rdS_below vR_st hb h⟩
abbrev rdR (w : World) (v : Value) (r : Row) : Prop := rdS 3 vR w v r
abbrev rdL (w : World) (v : Value) (l : List Row) : Prop := rdS 1 rowR w v l
section
variable {w w' : World} {Q : Value → World → Prop}
theorem rdR_b {v : Value} {r : Row} (hb : Below w.heap.size w w') (h : rdR w v r) : rdR w' v r := rdS_below vR_st hb h
theorem rdL_b {v : Value} {l : List Row} (hb : Below w.heap.size w w') (h : rdL w v l) : rdL w' v l := rdS_below rowR_st hb h
/-- a row among some, in whatever world behind -/
theorem row_at {W : World} {v : Value} {l : List Row} (h : rdL W v l) {i : Nat} (hi : i < l.length) : ∃ (ad : Addr) (rv : Value), rdR W rv l[i] ∧ (∀ w, Below W.heap.size W w → w.cell? ad = some rv) ∧
    ∀ (k : IntKind) (K : Value → M) (w' : World) (Q : Value → World → Prop), ia 1 v (.int k (i : Int)) K w' Q = K (.pointer (some ad)) w' Q := by
  obtain ⟨ad, es, he1, he2, ⟨rv, rfl, hr⟩, hia⟩ := rdS_at h hi
  refine ⟨ad, rv, hr, fun w hb => ?_, hia⟩
  have := cell_below hb (he2 0 rv rfl)
  rwa [add_zero'] at this
/-- a value of a row, in whatever world behind -/
theorem val_at {W : World} {v : Value} {r : Row} (h : rdR W v r) {i : Nat} (hi : i < r.length) : ∃ ad : Addr, okV r[i] ∧ (∀ w, Below W.heap.size W w → cellsAt w ad (encV r[i])) ∧
    ∀ (k : IntKind) (K : Value → M) (w' : World) (Q : Value → World → Prop), ia 3 v (.int k (i : Int)) K w' Q = K (.pointer (some ad)) w' Q := by
  obtain ⟨ad, es, he1, he2, ⟨rfl, ho⟩, hia⟩ := rdS_at h hi
  exact ⟨ad, ho, fun w hb j x hj => cell_below hb (he2 j x hj), hia⟩
theorem okV_all {W : World} {v : Value} {r : Row} (h : rdR W v r) : ∀ a ∈ r, okV a := by
  intro a ha
  obtain ⟨i, hi, rfl⟩ := List.mem_iff_getElem.1 ha
  exact (val_at h hi).choose_spec.1
theorem lnl_R {W w1 : World} {v : Value} {r : Row} (h : rdR W v r) : ∀ (K : Value → M) (Q : Value → World → Prop), lnl v K w1 Q = K (.int .i64 (r.length : Nat)) w1 Q := by
  intro K Q
  obtain ⟨p, c, rfl⟩ := rdS_len h
  rw [lnl_e]
theorem lnl_L {W w1 : World} {v : Value} {l : List Row} (h : rdL W v l) : ∀ (K : Value → M) (Q : Value → World → Prop), lnl v K w1 Q = K (.int .i64 (l.length : Nat)) w1 Q := by
  intro K Q
  obtain ⟨p, c, rfl⟩ := rdS_len h
  rw [lnl_e]
end
theorem u29 : Try.prog.underlying 29 = some (.int .i64) := by kernel_rfl
theorem u2 : Try.prog.underlying 2 = some (.int .i64) := by kernel_rfl
theorem u9 : Try.prog.underlying 9 = some .string := by kernel_rfl
theorem sl33 : slT Try.prog 33 31 (.agg #[.int .i64 0, .int .i64 0, .string ⟨#[]⟩]) 3 32 := ⟨by kernel_rfl, by kernel_rfl⟩
theorem sl22 : slT Try.prog 22 33 (.slice none 0 0) 1 24 := ⟨by kernel_rfl, by kernel_rfl⟩
theorem z22 : zeroIs Try.prog 22 (.slice none 0 0) := by unfold zeroIs; kernel_rfl
theorem pk29 : Try.prog.plainKey 29 = true := by kernel_rfl
theorem pk2 : Try.prog.plainKey 2 = true := by kernel_rfl
theorem pk9 : Try.prog.plainKey 9 = true := by kernel_rfl
theorem eqI {t : TypeId} {k : IntKind} (hu : Try.prog.underlying t = some (.int k)) (d : Nat) (a b : Int) (w : World) : (Op.equalIn (d + 1) t (.int k a) (.int k b)).run Try.prog w = .ok (decide (a = b)) w := by
  simp [Op.equalIn, underlying, hu]
  rfl
theorem eqS (d : Nat) (a b : ByteArray) (w : World) : (Op.equalIn (d + 1) 9 (.string a) (.string b)).run Try.prog w = .ok (decide (a = b)) w := by
  simp [Op.equalIn, underlying, u9]
  rw [Bool.eq_iff_iff, decide_eq_true_iff]
  obtain ⟨a⟩ := a
  obtain ⟨b⟩ := b
  show (a == b) = true ↔ _
  simp
theorem eq_flds (a b : Val) (w : World) : (Op.eqFields 9999 (encV a).toArray (encV b).toArray [{ name := "Kind", type := 29, offset := 0, embedded := false, tag := "", pkgPath := "", byteOffset := 0 },
          { name := "N", type := 2, offset := 1, embedded := false, tag := "", pkgPath := "", byteOffset := 8 },
          { name := "S", type := 9, offset := 2, embedded := false, tag := "", pkgPath := "", byteOffset := 16 }]).run Try.prog w = .ok (decide (a = b)) w := by
  have h := fE_cons (P := Try.prog) (w := w) (d := 9999) (xs := (encV a).toArray) (ys := (encV b).toArray) (f := { name := "Kind", type := 29, offset := 0, embedded := false, tag := "", pkgPath := "", byteOffset := 0 }) rfl pk29 (a := .int .i64 a.k) (b := .int .i64 b.k) rfl rfl (eqI u29 9998 _ _ w)
    (fE_cons (f := { name := "N", type := 2, offset := 1, embedded := false, tag := "", pkgPath := "", byteOffset := 8 }) rfl pk2 (a := .int .i64 a.n) (b := .int .i64 b.n) rfl rfl (eqI u2 9998 _ _ w)
      (fE_cons (f := { name := "S", type := 9, offset := 2, embedded := false, tag := "", pkgPath := "", byteOffset := 16 }) rfl pk9 (a := .string a.s) (b := .string b.s) rfl rfl (eqS 9998 _ _ w) fE_nil))
  rw [h]
  congr 1
  rw [Bool.eq_iff_iff]
  obtain ⟨a1, a2, a3⟩ := a
  obtain ⟨b1, b2, b3⟩ := b
  simp
theorem eq31 {x y : Operand} (a b : Val) (w : World) : ((do eqGuard .eql 31 x y (.agg (encV a).toArray) (.agg (encV b).toArray); binOp .eql 31 (.agg (encV a).toArray) (.agg (encV b).toArray) : Sem Value)).run Try.prog w = .ok (.bool (decide (a = b))) w :=
  run_eq_agg (P := Try.prog) Try.underlying31 (by kernel_rfl) (by kernel_rfl) (eq_flds a b w)
theorem run_ne_agg {P : Program} {w : World} {xs ys : Array Value} {r : Bool} {t : TypeId} {x y : Operand} {gs : Array Field} (hu : P.underlying t = some (.struct gs)) (hp : P.stoodInHeld t = false) (hg : P.eqGuardType P.depth t = false)
    (h : (Op.eqFields 9999 xs ys gs.toList).run P w = .ok r w) : ((do eqGuard .neq t x y (.agg xs) (.agg ys); binOp .neq t (.agg xs) (.agg ys) : Sem Value)).run P w = .ok (.bool (!r)) w := by
  have hf : P.fieldsOf t = gs := by simp [Program.fieldsOf, hu]
  have h2 : (Op.equalIn 10000 t (.agg xs) (.agg ys)).run P w = .ok r w := by
    rw [run_equalIn_struct (P := P) w 9999 t xs ys (by rw [hf]; exact hu) hp, hf]
    exact h
  have h3 : (Op.equal t (.agg xs) (.agg ys)).run P w = .ok r w := h2
  simp [eqGuard, hg, binOp, h3]
theorem ne31 {x y : Operand} (a b : Val) (w : World) : ((do eqGuard .neq 31 x y (.agg (encV a).toArray) (.agg (encV b).toArray); binOp .neq 31 (.agg (encV a).toArray) (.agg (encV b).toArray) : Sem Value)).run Try.prog w = .ok (.bool (!decide (a = b))) w :=
  run_ne_agg (P := Try.prog) Try.underlying31 (by kernel_rfl) (by kernel_rfl) (eq_flds a b w)
theorem ko31 (a : Val) (h : okV a) : ∃ l, keyOf Try.prog 31 (valV a) = some l := by
  obtain ⟨h1, h2, h3⟩ := h
  have hk : Try.prog.keyType 31 = true := by kernel_rfl
  have h0 : 0 < Try.prog.types.size := by decide +kernel
  have hsz : ∃ m, Try.prog.types.size + 1 = m + 2 := ⟨Try.prog.types.size - 1, by omega⟩
  obtain ⟨m, hm⟩ := hsz
  have hc29 : Try.prog.cellsOf 29 = 1 := by kernel_rfl
  have hc2 : Try.prog.cellsOf 2 = 1 := by kernel_rfl
  have hc9 : Try.prog.cellsOf 9 = 1 := by kernel_rfl
  have hc31 : Try.prog.cellsOf 31 = 3 := by kernel_rfl
  have hl : Try.prog.keyLits (m + 2) 31 (encV a) = some [.int .i64 a.k, .int .i64 a.n, .string a.s.data.toList] := by
    simp [Program.keyLits, Try.underlying31, hc31, hc29, hc2, hc9, encV, u29, u2, u9, h1, h2, h3]
  refine ⟨.string (keyBytes [.int .i64 a.k, .int .i64 a.n, .string a.s.data.toList]), ?_⟩
  unfold keyOf
  rw [Try.underlying31]
  have hf : (valV a).formed Try.prog 31 = true := by simp [Value.formed, valV, Try.underlying31, hc31, encV]
  simp only [hk, hf, Bool.and_self, if_true, hm]
  have : (valV a).cells.toList = encV a := by simp [valV, Value.cells]
  rw [this, hl]
  rfl
theorem KG : KeyG Try.prog 48 31 22 valV okV := ⟨by kernel_rfl, deep_law_gate (by kernel_rfl) (by decide +kernel) (by decide +kernel) (by kernel_rfl) (by kernel_rfl), ko31, fun a b h => encV_inj (by
  have : (encV a).toArray = (encV b).toArray := by simpa [valV] using h
  simpa using this)⟩
end Go.Proofs.Ytlmiimojgledpaa

namespace Go.Proofs.Ytlmiimojgledpaa
namespace Sh
open RowKit
theorem wf64 {a : Int} (h : (Lit.int .i64 a).wf = true) : -9223372036854775808 ≤ a ∧ a ≤ 9223372036854775807 := by
  simp [Lit.wf, IntKind.min, IntKind.max, IntKind.signed, IntKind.bits] at h
  omega
section
variable {H : Type} {enc : TypeId × Value → H} {P : Program}
theorem trodAll_below (hl : laidOutB P = true) {W W' : World} (hb : Below W.heap.size W W') : ∀ (ts : List TypeId) (vs : List Value) (ds : List (DataW H)) (ps : List MemPlace),
    (∀ t ∈ ts, P.readableRec t = true ∧ t < P.types.size) → DataW.TrodAll enc P W 0 (fun _ => true) true ts vs ds ps → (∀ x ∈ ps, x.block < W.heap.size) →
    DataW.TrodAll enc P W' 0 (fun b => decide (b < W.heap.size)) true ts vs ds ps := by
  intro ts
  induction ts with
  | nil =>
    intro vs ds ps _ h _
    match vs, ds, h with
    | [], [], h => exact h
  | cons t ts ih =>
    intro vs ds ps ht h hp
    match vs, ds, h with
    | v :: vs, d :: ds, ⟨p, q, h1, h2, h3⟩ =>
      subst h3
      exact ⟨p, q, Below.trod hl (ht t (by simp)).1 (ht t (by simp)).2 h1 hb (fun x hx => hp x (by simp [hx])), ih vs ds q (fun u hu => ht u (by simp [hu])) h2 (fun x hx => hp x (by simp [hx])), rfl⟩
theorem trodAll_len : ∀ (ts : List TypeId) (vs : List Value) (ds : List (DataW H)) (ps : List MemPlace) {W : World}, DataW.TrodAll enc P W 0 (fun _ => true) true ts vs ds ps → ds.length = ts.length := by
  intro ts
  induction ts with
  | nil => intro vs ds ps W h; match vs, ds, h with | [], [], h => rfl
  | cons t ts ih => intro vs ds ps W h; match vs, ds, h with | v :: vs, d :: ds, ⟨p, q, h1, h2, h3⟩ => simp [ih vs ds q h2]
theorem law_post {fn : Func} {s : ChangeSpec} {apart : Bool} {W W' : World} {args : Array Value} {ds gs : List (DataW H)} {before : List MemPlace} {tb : TypeId} (hv : s.vars = []) (hl : laidOutB P = true)
    (hp : ∀ t ∈ fn.params.toList, P.readableRec t = true ∧ t < P.types.size) (hr : fn.resultTypes = #[tb]) (hb : P.underlying tb = some .bool)
    (hs : ∀ ds : List (DataW H), ds.length = fn.params.toList.length → (s.fn H ds).results = [.lit (.bool true)] ∧ (s.fn H ds).args = ds ∧ (s.fn H ds).vars = [])
    (hW : DataW.Whole enc P fn.params.toList s.vars apart W args.toList ds gs before) (h : Below W.heap.size W W') :
    s.post enc P fn apart true false false W args (.bool true) W' := by
  have hW0 := hW
  obtain ⟨p, q, hA, hV, rfl, hfz, hnd⟩ := hW
  rw [hv] at hV
  have hg : gs = [] ∧ q = [] := by
    cases gs with
    | nil => exact ⟨rfl, hV⟩
    | cons g gs => exact hV.elim
  obtain ⟨rfl, rfl⟩ := hg
  obtain ⟨e1, e2, e3⟩ := hs ds (trodAll_len _ _ _ _ hA)
  refine ⟨ds, [], p ++ [], [], p, [], hW0, ?_, ?_, ?_, Below.frame h _, fun h => by cases h⟩
  · rw [hr, List.append_nil, e1]
    exact ⟨[], [], ⟨1, by simp [DataW.trod, hb, Value.cells]⟩, rfl, rfl⟩
  · rw [List.append_nil, e2]
    exact trodAll_below hl h _ _ _ _ hp hA (fun x hx => by have := hW0.lt x (by simp [hx]); simpa using this)
  · rw [List.append_nil, hv, e3]
    rfl
theorem law_lifted {C : Checked} {os : Os} {f : FuncId} {fn : Func} {s : ChangeSpec} {conds : List PathCond} {tb : TypeId}
    (own : ownKnob C.prog.godebug = none) (started : os.Started) (noInit : C.prog.inits.idxOf? f = none) (hfn : C.prog.funcs[f]? = some fn)
    (witness : ∃ (w : World) (tape : Tape) (i : Input), w.os = os ∧ (w.forCall tape i).Shaped C.prog ∧ i.vars = [] ∧ Input.okWide C.prog (w.forCall tape i) .any w.heap.size f i ∧
      s.pre6 enc C.prog fn conds false (w.forCall tape i).memory i.args ∧ ({} : Assume).holds C.prog (lone (Frame.enter C.prog f i.args .normal) [] (w.forCall tape i)))
    (hv : s.vars = []) (hl : laidOutB C.prog = true) (hp : fn.params.toList.all (fun t => C.prog.readableRec t && decide (t < C.prog.types.size)) = true) (hr : fn.resultTypes = #[tb]) (hb : C.prog.underlying tb = some .bool)
    (hs : ∀ ds : List (DataW H), ds.length = fn.params.toList.length → (s.fn H ds).results = [.lit (.bool true)] ∧ (s.fn H ds).args = ds ∧ (s.fn H ds).vars = [])
    (contract : ∀ (W : World) (base : Nat) (args : Array Value) (ds : List (DataW H)) (p : List MemPlace),
      (∀ (j : Nat) t v, fn.params[j]? = some t → args[j]? = some v → Value.okWide C.prog W .any base t v) →
      DataW.TrodAll enc C.prog W 0 (fun _ => true) true fn.params.toList args.toList ds p →
      (DataW.weightsEach C.prog fn.params.toList ds).all (· ≤ reachBytes) = true →
      Calls C.prog f args W (Rt fun v W' => v = .bool true ∧ Below W.heap.size W W')) :
    ReturnsInHanded {} C os f .any (s.pre6 enc C.prog fn conds false) (s.post enc C.prog fn false true false false) := by
  refine returnsInHanded_of_change_sized own started noInit hfn witness ?_
  intro W base args ds gs before hval hW _ hz _
  have hp' : ∀ t ∈ fn.params.toList, C.prog.readableRec t = true ∧ t < C.prog.types.size := fun t ht => by
    have := List.all_eq_true.1 hp t ht
    simpa using this
  obtain ⟨p, q, hA, hV, hq⟩ := hW
  have hW : DataW.Whole enc C.prog fn.params.toList s.vars false W args.toList ds gs before := ⟨p, q, hA, hV, hq⟩
  have hg : gs = [] := by
    rw [hv] at hV
    cases gs with
    | nil => rfl
    | cons g gs => exact hV.elim
  subst hg
  have hvt : s.plain.varTypes C.prog = [] := by
    simp [ChangeSpec.plain, DataSpec.varTypes, hv]
  rw [hvt, List.append_nil, List.append_nil] at hz
  refine (contract W base args ds p hval hA hz).mono fun e W' he => ?_
  cases e with
  | returned v =>
    obtain ⟨hv', hbel⟩ := he
    subst hv'
    exact ⟨_, rfl, law_post hv hl hp' hr hb hs hW hbel⟩
  | panicked c => exact he.elim
  | outgrown => exact he.elim
end
end Sh
end Go.Proofs.Ytlmiimojgledpaa

namespace Go.Proofs.Ytlmiimojgledpaa
namespace Sh
open RowKit ChangeShapes
/-- all arguments, told by R -/
def OpensA (P : Program) (ts : List TypeId) (α : Type) (R : World → List Value → α → Prop) (bulk : α → Nat) : Prop :=
  ∀ {H : Type} (enc : TypeId × Value → H) (W : World) (vs : List Value) (ds : List (DataW H)) (ps : List MemPlace) (base : Nat),
    (∀ (j : Nat) t v, ts[j]? = some t → vs[j]? = some v → Value.okWide P W .any base t v) →
    DataW.TrodAll enc P W 0 (fun _ => true) true ts vs ds ps → (DataW.weightsEach P ts ds).all (· ≤ reachBytes) = true → ∃ a, R W vs a ∧ bulk a ≤ Rows.uptoBulkAll ds
section
variable {P : Program}
theorem oa_nil : OpensA P [] Unit (fun _ vs _ => vs = []) (fun _ => 0) := by
  intro H enc W vs ds ps base hv h _
  match vs, ds, h with
  | [], [], _ => exact ⟨(), rfl, Nat.zero_le _⟩
theorem OpensA.mono {ts : List TypeId} {α β : Type} {R : World → List Value → α → Prop} {S : World → List Value → β → Prop} {b : α → Nat} {c : β → Nat} (h : OpensA P ts α R b)
    (f : ∀ W vs a, R W vs a → ∃ x, S W vs x ∧ c x ≤ b a) : OpensA P ts β S c := by
  intro H enc W vs ds ps base hv hd hw
  obtain ⟨a, h1, h2⟩ := h enc W vs ds ps base hv hd hw
  obtain ⟨y, h3, h4⟩ := f W vs a h1
  exact ⟨y, h3, Nat.le_trans h4 h2⟩
theorem okWide_base {W : World} {b : Nat} {t : TypeId} {v : Value} (h : Value.okWide P W .any b t v) : Value.okWide P W .any b t v := h
theorem oa_one {t : TypeId} {ts : List TypeId} {α β : Type} {R : RepT α} {S : World → List Value → β → Prop} {b : α → Nat} {c : β → Nat} (h : Opens P t α R b) (hs : isSc P t = true) (h1 : ∀ w cs a, R w cs a → ∃ v, cs = [v])
    (hr : OpensA P ts β S c) : OpensA P (t :: ts) (α × β) (fun w vs x => ∃ v r, vs = v :: r ∧ R w [v] x.1 ∧ S w r x.2) (fun x => b x.1 + c x.2) := by
  intro H enc W vs ds ps base hv hd hw
  match vs, ds, hd with
  | v :: vs, d :: ds, ⟨p, q, k1, k2, k3⟩ =>
    simp only [DataW.weightsEach, List.all_append, Bool.and_eq_true] at hw
    obtain ⟨a, e1, e2⟩ := open_one h hs h1 (hv 0 t v rfl rfl) k1 hw.1
    obtain ⟨a', e3, e4⟩ := hr enc W vs ds q base (fun j t v g1 g2 => hv (j + 1) t v g1 g2) k2 hw.2
    exact ⟨(a, a'), ⟨v, vs, rfl, e1, e3⟩, by simp only [Rows.uptoBulkAll]; omega⟩
theorem oa_agg {t : TypeId} {n : Nat} {ts : List TypeId} {α β : Type} {R : RepT α} {S : World → List Value → β → Prop} {b : α → Nat} {c : β → Nat} (h : Opens P t α R b) (hs : isAg P t n = true)
    (hr : OpensA P ts β S c) : OpensA P (t :: ts) (α × β) (fun w vs x => ∃ cs r, vs = .agg cs :: r ∧ R w cs.toList x.1 ∧ S w r x.2) (fun x => b x.1 + c x.2) := by
  intro H enc W vs ds ps base hv hd hw
  match vs, ds, hd with
  | v :: vs, d :: ds, ⟨p, q, k1, k2, k3⟩ =>
    simp only [DataW.weightsEach, List.all_append, Bool.and_eq_true] at hw
    obtain ⟨a, cs, rfl, e1, e2⟩ := open_agg h hs (hv 0 t v rfl rfl) k1 hw.1
    obtain ⟨a', e3, e4⟩ := hr enc W vs ds q base (fun j t v g1 g2 => hv (j + 1) t v g1 g2) k2 hw.2
    exact ⟨(a, a'), ⟨cs, vs, rfl, e1, e3⟩, by simp only [Rows.uptoBulkAll]; omega⟩
end
section
variable {H : Type} {enc : TypeId × Value → H}
theorem law_from {C : Checked} {os : Os} {f : FuncId} {fn : Func} {s : ChangeSpec} {conds : List PathCond} {tb : TypeId} {α : Type} {R : World → List Value → α → Prop} {b : α → Nat}
    (own : ownKnob C.prog.godebug = none) (started : os.Started) (noInit : C.prog.inits.idxOf? f = none) (hfn : C.prog.funcs[f]? = some fn)
    (witness : ∃ (w : World) (tape : Tape) (i : Input), w.os = os ∧ (w.forCall tape i).Shaped C.prog ∧ i.vars = [] ∧ Input.okWide C.prog (w.forCall tape i) .any w.heap.size f i ∧
      s.pre6 enc C.prog fn conds false (w.forCall tape i).memory i.args ∧ ({} : Assume).holds C.prog (lone (Frame.enter C.prog f i.args .normal) [] (w.forCall tape i)))
    (hv : s.vars = []) (hl : laidOutB C.prog = true) (hp : fn.params.toList.all (fun t => C.prog.readableRec t && decide (t < C.prog.types.size)) = true) (hr : fn.resultTypes = #[tb]) (hb : C.prog.underlying tb = some .bool)
    (hs : ∀ ds : List (DataW H), ds.length = fn.params.toList.length → (s.fn H ds).results = [.lit (.bool true)] ∧ (s.fn H ds).args = ds ∧ (s.fn H ds).vars = [])
    (oa : OpensA C.prog fn.params.toList α R b)
    (law : ∀ (W : World) (vs : List Value) (a : α), R W vs a → Calls C.prog f vs.toArray W (Rt fun v W' => v = .bool true ∧ Below W.heap.size W W')) :
    ReturnsInHanded {} C os f .any (s.pre6 enc C.prog fn conds false) (s.post enc C.prog fn false true false false) := by
  refine law_lifted own started noInit hfn witness hv hl hp hr hb hs ?_
  intro W base args ds p hval hA hz
  obtain ⟨a, h1, _⟩ := oa enc W args.toList ds p base (fun j t v h1 h2 => hval j t v (by simpa using h1) (by simpa using h2)) hA hz
  exact law W args.toList a h1
theorem law_from_upto {C : Checked} {os : Os} {f : FuncId} {fn : Func} {s : ChangeSpec} {conds : List PathCond} {tb : TypeId} {α : Type} {R : World → List Value → α → Prop} {b : α → Nat} {F : Stop.Interp}
    (own : ownKnob C.prog.godebug = none) (started : os.Started) (noInit : C.prog.inits.idxOf? f = none) (hfn : C.prog.funcs[f]? = some fn)
    (witness : ∃ (w : World) (tape : Tape) (i : Input), w.os = os ∧ (w.forCall tape i).Shaped C.prog ∧ i.vars = [] ∧ Input.okWide C.prog (w.forCall tape i) .any w.heap.size f i ∧
      (Rows.OpenSpec.upto s).pre6 enc C.prog fn conds false (w.forCall tape i).memory i.args ∧ ({} : Assume).holds C.prog (lone (Frame.enter C.prog f i.args .normal) [] (w.forCall tape i)))
    (hv : s.vars = []) (hl : laidOutB C.prog = true) (hp : fn.params.toList.all (fun t => C.prog.readableRec t && decide (t < C.prog.types.size)) = true) (hr : fn.resultTypes = #[tb]) (hb : C.prog.underlying tb = some .bool)
    (hs : ∀ ds : List (DataW H), ds.length = fn.params.toList.length → (s.fn H ds).results = [.lit (.bool true)] ∧ (s.fn H ds).args = ds ∧ (s.fn H ds).vars = [])
    (oa : OpensA C.prog fn.params.toList α R b)
    (law : ∀ (W : World) (vs : List Value) (a : α), R W vs a → b a ≤ 1048576 → Calls C.prog f vs.toArray W (Rt fun v W' => v = .bool true ∧ Below W.heap.size W W')) :
    ReturnsInHanded {} C os f .any ((Rows.OpenSpec.upto s).pre6 enc C.prog fn conds false) (((Rows.OpenSpec.upto s).at F).post enc C.prog fn false true false false) := by
  refine returnsInHanded_of_cond_sized (C := C) (s := Rows.OpenSpec.upto s) (k := Rows.uptoSmall) rfl own started noInit hfn witness ?_
  intro W base args ds gs before hval hW _ hk hz _
  have hp' : ∀ t ∈ fn.params.toList, C.prog.readableRec t = true ∧ t < C.prog.types.size := fun t ht => by
    have := List.all_eq_true.1 hp t ht
    simpa using this
  have hW0 : DataW.Whole enc C.prog fn.params.toList s.vars false W args.toList ds gs before := hW
  obtain ⟨p, q, hA, hV, hq⟩ := hW
  have hg : gs = [] := by
    have hV : DataW.TrodVars enc C.prog W (fun _ => true) s.vars gs q := hV
    rw [hv] at hV
    cases gs with
    | nil => rfl
    | cons g gs => exact hV.elim
  subst hg
  have hvt : (Rows.OpenSpec.upto s).bare.plain.varTypes C.prog = [] := by
    show s.plain.varTypes C.prog = []
    simp [ChangeSpec.plain, DataSpec.varTypes, hv]
  rw [hvt, List.append_nil, List.append_nil] at hz
  rw [List.append_nil] at hk
  obtain ⟨a, h1, h2⟩ := oa enc W args.toList ds p base (fun j t v h1 h2 => hval j t v (by simpa using h1) (by simpa using h2)) hA hz
  have hbk : Rows.uptoBulkAll ds ≤ 1048576 := of_decide_eq_true hk
  refine (law W args.toList a h1 (Nat.le_trans h2 hbk)).mono fun e W' he => ?_
  cases e with
  | returned v =>
    obtain ⟨hv', hbel⟩ := he
    subst hv'
    exact ⟨_, rfl, law_post hv hl hp' hr hb hs hW0 hbel⟩
  | panicked c => exact he.elim
  | outgrown => exact he.elim
end
end Sh
end Go.Proofs.Ytlmiimojgledpaa

namespace Go.Proofs.Ytlmiimojgledpaa
open Sh RowKit
theorem u3 : Try.prog.underlying 3 = some (.int .i64) := by kernel_rfl
theorem u33 : Try.prog.underlying 33 = some (.slice 31) := by kernel_rfl
theorem u22 : Try.prog.underlying 22 = some (.slice 33) := by kernel_rfl
theorem u23 : Try.prog.underlying 23 = some (.array 2 3) := by kernel_rfl
theorem xsc22 : isSc Try.prog 22 = true := by kernel_rfl
theorem xsc3 : isSc Try.prog 3 = true := by kernel_rfl
theorem xag23 : isAg Try.prog 23 2 = true := by kernel_rfl
theorem xag31 : isAg Try.prog 31 3 = true := by kernel_rfl
theorem len2 {cs : List Value} (h : cs.length = 2) : ∃ a b, cs = [a, b] := by
  match cs, h with
  | [a, b], _ => exact ⟨a, b, rfl⟩
theorem len3 {cs : List Value} (h : cs.length = 3) : ∃ a b c, cs = [a, b, c] := by
  match cs, h with
  | [a, b, c], _ => exact ⟨a, b, c, rfl⟩
theorem one_cell {x y : Value} (h : [x] = [y]) : x = y := (List.cons.inj h).1
theorem op31 : Opens Try.prog 31 Val vR (fun _ => 1) := by
  refine Opens.mono (op_struct Try.underlying31 (n := 3) (by kernel_rfl) (opf_cons (n := 1) (by kernel_rfl) (op_int u29) (opf_cons (n := 1) (by kernel_rfl) (op_int u2)
    (opf_cons (n := 1) (by kernel_rfl) (op_str u9) opf_nil)))) ?_
  rintro w cs ⟨a, b, n, ⟨⟩⟩ ⟨hl, ⟨h0, h0'⟩, ⟨h1, h1'⟩, ⟨h2, h2'⟩, -⟩
  obtain ⟨c0, c1, c2, rfl⟩ := len3 hl
  have e0 := one_cell (x := c0) h0
  have e1 := one_cell (x := c1) h1
  have e2 := one_cell (x := c2) h2
  have h2' : n.size ≤ reachBytes := h2'
  have hm : n.size ≤ maxLen := by unfold reachBytes at h2'; unfold maxLen; omega
  exact ⟨⟨a, b, n⟩, ⟨by rw [e0, e1, e2]; rfl, h0', h1', hm⟩, by simp⟩
theorem sum1 : ∀ l : List Val, (l.map fun _ => 1).sum = l.length
  | [] => rfl
  | _ :: l => by rw [List.map_cons, List.sum_cons, sum1 l, List.length_cons]; omega
/-- a row's bulk -/
def rB (r : Row) : Nat := r.length + 1
/-- a row, of so many bytes at most -/
def rowRz : RepT Row := fun w cs r => rowR w cs r ∧ r.length * 32 ≤ 140737488355328
theorem op33 : Opens Try.prog 33 Row rowRz rB := by
  refine Opens.mono (op_slice u33 (n := 3) (by kernel_rfl) op31) ?_
  rintro w cs l ⟨v, rfl, h, hs⟩
  have e : Try.prog.bytesOf 31 = 32 := by kernel_rfl
  rw [e] at hs
  refine ⟨l, ⟨⟨v, rfl, h⟩, by unfold reachBytes at hs; omega⟩, ?_⟩
  unfold rB
  rw [sum1]
  exact Nat.le_refl _
theorem op22 : Opens Try.prog 22 (List Row) (fun w cs l => ∃ v, cs = [v] ∧ rdL w v l ∧ ∀ r ∈ l, r.length * 32 ≤ 140737488355328) (fun l => (l.map rB).sum) := by
  refine Opens.mono (op_slice u22 (n := 1) (by kernel_rfl) op33) ?_
  rintro w cs l ⟨v, rfl, h, hs⟩
  refine ⟨l, ⟨v, rfl, rdS_mono (fun _ _ h => h.1) h, fun r hr => ?_⟩, by omega⟩
  obtain ⟨i, hi, rfl⟩ := List.mem_iff_getElem.1 hr
  obtain ⟨_, _, _, _, hz, _⟩ := rdS_at h hi
  exact hz.2
theorem sum_mem {l : List Row} {r : Row} (h : r ∈ l) : r.length ≤ (l.map rB).sum := by
  induction l with
  | nil => cases h
  | cons x l ih =>
    rw [List.map_cons, List.sum_cons]
    rcases List.mem_cons.1 h with rfl | h
    · unfold rB; omega
    · have := ih h; omega
theorem op23 : Opens Try.prog 23 (Int × Int) (fun _ cs x => cs = [.int .i64 x.1, .int .i64 x.2]) (fun _ => 0) := by
  refine Opens.mono (op_arr u23 (k := 2) (n := 1) (by kernel_rfl) (by kernel_rfl) (op_int u3)) ?_
  rintro w cs l ⟨hl, hm, h⟩
  obtain ⟨c0, c1, rfl⟩ := len2 hl
  match l, hm with
  | [a, b], _ =>
    have e0 := (h 0 (by simp)).1
    have e1 := (h 1 (by simp)).1
    simp at e0 e1
    exact ⟨(a, b), by rw [e0, e1], Nat.zero_le _⟩
/-- two lists and two columns -/
def RJ : World → List Value → List Row × List Row × (Int × Int) → Prop := fun W vs x => ∃ v u, vs = [v, u, .agg #[.int .i64 x.2.2.1, .int .i64 x.2.2.2]] ∧ rdL W v x.1 ∧ rdL W u x.2.1 ∧ (∀ r ∈ x.1, r.length * 32 ≤ 140737488355328) ∧ ∀ r ∈ x.2.1, r.length * 32 ≤ 140737488355328
def bJ : List Row × List Row × (Int × Int) → Nat := fun x => (x.1.map rB).sum + (x.2.1.map rB).sum
theorem agg_of {cs : Array Value} {l : List Value} (h : cs.toList = l) : cs = l.toArray := by rw [← h, Array.toArray_toList]
theorem oaJ : OpensA Try.prog [22, 22, 23] (List Row × List Row × (Int × Int)) RJ bJ := by
  refine OpensA.mono (oa_one op22 xsc22 (fun w cs a h => ⟨_, h.choose_spec.1⟩) (oa_one op22 xsc22 (fun w cs a h => ⟨_, h.choose_spec.1⟩) (oa_agg op23 xag23 oa_nil))) ?_
  rintro W vs ⟨l, l2, x, ⟨⟩⟩ ⟨v, r, rfl, ⟨v', hv, hr, hz⟩, v2, r2, rfl, ⟨v2', hv2, hr2, hz2⟩, cs, r3, rfl, h1, rfl⟩
  refine ⟨(l, l2, x), ⟨v, v2, by rw [agg_of h1], by rw [one_cell hv]; exact hr, by rw [one_cell hv2]; exact hr2, hz, hz2⟩, ?_⟩
  unfold bJ
  simp only
  omega
end Go.Proofs.Ytlmiimojgledpaa

namespace Go.Proofs.Ytlmiimojgledpaa
open Sh RowKit Go.MapKept
def lacksB (c : Int) (r : Row) : Bool := decide (c < 0 ∨ (r.length : Int) ≤ c)
section
variable {W w w' : World} {Q : Value → World → Prop}
theorem cf_p {P : Program} {f : FuncId} {z cap args : Array Value} {K : Value → M} (he : ∀ args w, (callFunc f args).run P w = .ok (.enter f args) w) (h : Calls P f (z ++ args ++ cap) w (Rt fun v w' => K v w' Q)) : cf P (.func (.func f) z cap) args K w Q :=
  ⟨f, z, cap, rfl, he _ _, h⟩
theorem f42_s {v : Value} {r : Row} (h : rdR W v r) (c : Int) (kk : Q (.bool (lacksB c r)) w) : f42 v (.int .i64 c) w Q := by
  unfold f42
  by_cases c1 : c < 0
  · have e : lacksB c r = true := decide_eq_true (.inl c1)
    rw [e] at kk
    simp only [↓reduceIte, ↓LL, LM, Value.cells, Nat.reduceAdd, Option.some.injEq, exists_eq_left', decide_true, decide_false, if_true, if_false, reduceCtorEq, cond_true, cond_false, c1]
    exact kk
  · by_cases c2 : (r.length : Int) ≤ c
    · have e : lacksB c r = true := decide_eq_true (.inr c2)
      rw [e] at kk
      simp only [↓reduceIte, ↓LL, LM, Value.cells, Nat.reduceAdd, Option.some.injEq, exists_eq_left', decide_true, decide_false, if_true, if_false, reduceCtorEq, cond_true, cond_false, c1, lnl_R h, c2]
      exact kk
    · have e : lacksB c r = false := decide_eq_false (by omega)
      rw [e] at kk
      simp only [↓reduceIte, ↓LL, LM, Value.cells, Nat.reduceAdd, Option.some.injEq, exists_eq_left', decide_true, decide_false, if_true, if_false, reduceCtorEq, cond_true, cond_false, c1, lnl_R h, c2]
      exact kk
/-- a function told of a row -/
def Tells (W : World) (g : Value) (pr : Row → Bool) : Prop := ∀ (rv : Value) (r : Row) (w : World) (K : Value → M) (Q : Value → World → Prop), Below W.heap.size W w → rdR w rv r → (∀ w', Below w.heap.size w w' → K (.bool (pr r)) w' Q) → cf Try.prog g #[rv] K w Q
theorem f54_loop {v g : Value} {l : List Row} {pr : Row → Bool} (h : rdL W v l) (hg : Tells W g pr) (hl : l.length ≤ 9223372036854775806) : ∀ (d m i : Nat) (w : World), i + d = l.length → d < m → Below W.heap.size W w → (∀ r ∈ l.take i, pr r = false) →
    (∀ w' (x : Int), Below W.heap.size W w' → (0 ≤ x ↔ l.any pr = true) → Q (.int .i64 x) w') →
    itr (fun _ _ _ _ => bot) (f54_b2 f54_j1) m v g (.int .i64 (l.length : Nat)) (.int .i64 (i : Int)) w Q := by
  intro d
  induction d with
  | zero =>
    intro m i w hi hm hb hno kk
    obtain ⟨m, rfl⟩ : ∃ x, m = x + 1 := ⟨m - 1, by omega⟩
    show f54_b2 f54_j1 _ _ _ _ _ w Q
    unfold f54_b2
    have c : ¬ (i : Int) < (l.length : Nat) := by omega
    simp only [↓reduceIte, ↓LL, LM, Value.cells, Nat.reduceAdd, Option.some.injEq, exists_eq_left', decide_true, decide_false, if_true, if_false, reduceCtorEq, cond_true, cond_false, c]
    unfold f54_j1
    try simp only [↓reduceIte, ↓LL, LM, Value.cells, Nat.reduceAdd, Option.some.injEq, exists_eq_left', decide_true, decide_false, if_true, if_false, reduceCtorEq, cond_true, cond_false]
    refine kk w (-1) hb ⟨fun h => by omega, fun h => ?_⟩
    rw [List.take_of_length_le (by omega)] at hno
    obtain ⟨r, hr, hp⟩ := List.any_eq_true.1 h
    rw [hno r hr] at hp; cases hp
  | succ d ih =>
    intro m i w hi hm hb hno kk
    obtain ⟨m, rfl⟩ : ∃ x, m = x + 1 := ⟨m - 1, by omega⟩
    show f54_b2 f54_j1 _ _ _ _ _ w Q
    unfold f54_b2
    have c : (i : Int) < (l.length : Nat) := by omega
    have hil : i < l.length := by omega
    obtain ⟨ad, rv, hr, hc, hia⟩ := row_at h hil
    have cw := hc w hb
    have h3 : IntKind.i64.wrap ((i : Int) + 1) = ((i + 1 : Nat) : Int) := by rw [w64 (by omega) (by omega)]; rfl
    simp only [↓reduceIte, ↓LL, LM, Value.cells, Nat.reduceAdd, Option.some.injEq, exists_eq_left', decide_true, decide_false, if_true, if_false, reduceCtorEq, cond_true, cond_false, c, hia, cw]
    refine hg rv l[i] w _ _ hb (rdR_b hb hr) fun w1 hb1 => ?_
    by_cases hp : pr l[i] = true
    · simp only [↓reduceIte, ↓LL, LM, Value.cells, Nat.reduceAdd, Option.some.injEq, exists_eq_left', decide_true, decide_false, if_true, if_false, reduceCtorEq, cond_true, cond_false, hp]
      exact kk w1 i (bt hb hb1) ⟨fun _ => List.any_eq_true.2 ⟨_, List.getElem_mem hil, hp⟩, fun _ => by omega⟩
    · have hpf : pr l[i] = false := by simpa using hp
      simp only [↓reduceIte, ↓LL, LM, Value.cells, Nat.reduceAdd, Option.some.injEq, exists_eq_left', decide_true, decide_false, if_true, if_false, reduceCtorEq, cond_true, cond_false, hpf, h3]
      refine ih m (i + 1) w1 (by omega) (by omega) (bt hb hb1) (fun r hr => ?_) kk
      rw [List.take_succ_eq_append_getElem hil] at hr
      rcases List.mem_append.1 hr with hr | hr
      · exact hno r hr
      · rw [List.mem_singleton] at hr; rw [hr]; exact hpf
theorem f43_s {v g : Value} {l : List Row} {pr : Row → Bool} (h : rdL w v l) (hg : Tells w g pr) (hl : l.length ≤ 9223372036854775806) (kk : ∀ w', Below w.heap.size w w' → Q (.bool (l.any pr)) w') : f43 v g w Q := by
  unfold f43 f54
  simp only [↓reduceIte, ↓LL, LM, Value.cells, Nat.reduceAdd, Option.some.injEq, exists_eq_left', decide_true, decide_false, if_true, if_false, reduceCtorEq, cond_true, cond_false, lnl_L h]
  refine ⟨_, f54_loop (W := w) h hg hl l.length (l.length + 1) 0 w (by omega) (by omega) (Below.refl _ _) (by simp) fun w' x hb hx => ?_⟩
  try simp only [↓reduceIte, ↓LL, LM, Value.cells, Nat.reduceAdd, Option.some.injEq, exists_eq_left', decide_true, decide_false, if_true, if_false, reduceCtorEq, cond_true, cond_false]
  have e : decide (0 ≤ x) = l.any pr := by rw [Bool.eq_iff_iff, decide_eq_true_iff]; exact hx
  rw [e]
  exact kk w' hb
theorem en44 : ∀ args w, (callFunc 44 args).run Try.prog w = .ok (.enter 44 args) w := enters_of Try.func44 (by kernel_rfl) rfl
theorem en46 : ∀ args w, (callFunc 46 args).run Try.prog w = .ok (.enter 46 args) w := enters_of Try.func46 (by kernel_rfl) rfl
theorem f26_s {v : Value} {l : List Row} (h : rdL w v l) (hl : l.length ≤ 9223372036854775806) (c : Int) (kk : ∀ w', Below w.heap.size w w' → Q (.bool (l.any (lacksB c))) w') : f26 v (.int .i64 c) w Q := by
  unfold f26
  have hb1 := b_psh w (.cells (Value.int .i64 c).cells 3)
  have blk := blk_psh_new (w := w) (o := .cells (Value.int .i64 c).cells 3)
  rw [bx_e]
  generalize psh w (.cells (Value.int .i64 c).cells 3) = w1 at *
  try simp only [↓reduceIte, ↓LL, LM, Value.cells, Nat.reduceAdd, Option.some.injEq, exists_eq_left', decide_true, decide_false, if_true, if_false, reduceCtorEq, cond_true, cond_false]
  refine f43_s (rdL_b hb1 h) (pr := lacksB c) ?_ hl fun w2 hb2 => ?_
  · intro rv r w2 K Q hb hr k
    refine cf_p en44 ?_
    refine s44 rv (.pointer (some ⟨w.heap.size, 0, none⟩)) w2 _ ?_
    unfold f44
    have hc : w2.cell? ⟨w.heap.size, 0, none⟩ = some (.int .i64 c) := by rw [cell_of_blk (stay hb blk)]; rfl
    simp only [↓reduceIte, ↓LL, LM, Value.cells, Nat.reduceAdd, Option.some.injEq, exists_eq_left', decide_true, decide_false, if_true, if_false, reduceCtorEq, cond_true, cond_false, hc]
    refine f42_s hr c ?_
    try simp only [↓reduceIte, ↓LL, LM, Value.cells, Nat.reduceAdd, Option.some.injEq, exists_eq_left', decide_true, decide_false, if_true, if_false, reduceCtorEq, cond_true, cond_false]
    exact k w2 (Below.refl _ _)
  · try simp only [↓reduceIte, ↓LL, LM, Value.cells, Nat.reduceAdd, Option.some.injEq, exists_eq_left', decide_true, decide_false, if_true, if_false, reduceCtorEq, cond_true, cond_false]
    exact kk w2 (bt hb1 hb2)
theorem f47_loop {x y : Value} {r s : Row} (hx : rdR W x r) (hy : rdR W y s) (hl : r.length = s.length) (hb' : r.length ≤ 9223372036854775806) : ∀ (d m i : Nat) (w : World), i + d = r.length → d < m → Below W.heap.size W w → r.take i = s.take i →
    (∀ w', Below W.heap.size W w' → Q (.bool (decide (r = s))) w') →
    itr (fun _ _ _ _ => bot) (f47_b2 f47_j1) m x y (.int .i64 (r.length : Nat)) (.int .i64 (i : Int)) w Q := by
  intro d
  induction d with
  | zero =>
    intro m i w hi hm hb he kk
    obtain ⟨m, rfl⟩ : ∃ x, m = x + 1 := ⟨m - 1, by omega⟩
    show f47_b2 f47_j1 _ _ _ _ _ w Q
    unfold f47_b2
    have c : ¬ (i : Int) < (r.length : Nat) := by omega
    simp only [↓reduceIte, ↓LL, LM, Value.cells, Nat.reduceAdd, Option.some.injEq, exists_eq_left', decide_true, decide_false, if_true, if_false, reduceCtorEq, cond_true, cond_false, c]
    unfold f47_j1
    try simp only [↓reduceIte, ↓LL, LM, Value.cells, Nat.reduceAdd, Option.some.injEq, exists_eq_left', decide_true, decide_false, if_true, if_false, reduceCtorEq, cond_true, cond_false]
    rw [List.take_of_length_le (by omega), List.take_of_length_le (by omega)] at he
    have := kk w hb
    rw [decide_eq_true he] at this
    exact this
  | succ d ih =>
    intro m i w hi hm hb he kk
    obtain ⟨m, rfl⟩ : ∃ x, m = x + 1 := ⟨m - 1, by omega⟩
    show f47_b2 f47_j1 _ _ _ _ _ w Q
    unfold f47_b2
    have c : (i : Int) < (r.length : Nat) := by omega
    have hir : i < r.length := by omega
    have his : i < s.length := by omega
    have hbd : Below W.heap.size W (drw w) := hb.trans ⟨rfl, rfl, rfl, Nat.le_refl _, fun _ _ => rfl⟩
    obtain ⟨ax, _, hcx, hax⟩ := val_at hx hir
    obtain ⟨ay, _, hcy, hay⟩ := val_at hy his
    have h3 : IntKind.i64.wrap ((i : Int) + 1) = ((i + 1 : Nat) : Int) := by rw [w64 (by omega) (by omega)]; rfl
    simp only [↓reduceIte, ↓LL, LM, Value.cells, Nat.reduceAdd, Option.some.injEq, exists_eq_left', decide_true, decide_false, if_true, if_false, reduceCtorEq, cond_true, cond_false, c, hax]
    refine ldn_at (hcx _ hbd) rfl ?_
    simp only [↓reduceIte, ↓LL, LM, Value.cells, Nat.reduceAdd, Option.some.injEq, exists_eq_left', decide_true, decide_false, if_true, if_false, reduceCtorEq, cond_true, cond_false, hay]
    refine ldn_at (hcy _ hbd) rfl ?_
    refine Eq.mpr (smr_run (ne31 r[i] s[i] (drw w))) ?_
    by_cases hv : r[i] = s[i]
    · simp only [↓reduceIte, ↓LL, LM, Value.cells, Nat.reduceAdd, Option.some.injEq, exists_eq_left', decide_true, decide_false, if_true, if_false, reduceCtorEq, cond_true, cond_false, hv, h3]
      refine ih m (i + 1) (drw w) (by omega) (by omega) hbd ?_ kk
      rw [List.take_succ_eq_append_getElem hir, List.take_succ_eq_append_getElem his, he, hv]
    · simp only [↓reduceIte, ↓LL, LM, Value.cells, Nat.reduceAdd, Option.some.injEq, exists_eq_left', decide_true, decide_false, if_true, if_false, reduceCtorEq, cond_true, cond_false, hv]
      have hne : r ≠ s := by rintro rfl; exact hv rfl
      have := kk (drw w) hbd
      rw [decide_eq_false hne] at this
      exact this
theorem f47_s {x y : Value} {r s : Row} (hx : rdR w x r) (hy : rdR w y s) (hb : r.length ≤ 9223372036854775806) (kk : ∀ w', Below w.heap.size w w' → Q (.bool (decide (r = s))) w') : f47 x y w Q := by
  unfold f47
  by_cases hl : r.length = s.length
  · simp only [↓reduceIte, ↓LL, LM, Value.cells, Nat.reduceAdd, Option.some.injEq, exists_eq_left', decide_true, decide_false, if_true, if_false, reduceCtorEq, cond_true, cond_false, lnl_R hx, lnl_R hy, hl, ne_eq]
    rw [← hl]
    exact ⟨_, f47_loop (W := w) hx hy hl hb r.length (r.length + 1) 0 w (by omega) (by omega) (Below.refl _ _) (by simp) kk⟩
  · have hne : r ≠ s := by rintro rfl; exact hl rfl
    have hli : ¬ ((r.length : Nat) : Int) = (s.length : Nat) := by omega
    simp only [↓reduceIte, ↓LL, LM, Value.cells, Nat.reduceAdd, Option.some.injEq, exists_eq_left', decide_true, decide_false, if_true, if_false, reduceCtorEq, cond_true, cond_false, lnl_R hx, lnl_R hy, hli, ne_eq]
    have := kk w (Below.refl _ _)
    rw [decide_eq_false hne] at this
    exact this
theorem f11_loop {x y : Value} {r s : Row} (hx : rdR W x r) (hy : rdR W y s) (hl : r.length = s.length) (hb' : r.length ≤ 9223372036854775806) : ∀ (d m i : Nat) (w : World), i + d = r.length → d < m → Below W.heap.size W w → r.take i = s.take i →
    (∀ w', Below W.heap.size W w' → Q (.bool (decide (r = s))) w') →
    itr (fun _ _ _ => bot) (f11_b2 f11_j1) m x y (.int .i64 (i : Int)) w Q := by
  intro d
  induction d with
  | zero =>
    intro m i w hi hm hb he kk
    obtain ⟨m, rfl⟩ : ∃ x, m = x + 1 := ⟨m - 1, by omega⟩
    show f11_b2 f11_j1 _ _ _ _ w Q
    unfold f11_b2
    have c : ¬ (i : Int) < (r.length : Nat) := by omega
    simp only [↓reduceIte, ↓LL, LM, Value.cells, Nat.reduceAdd, Option.some.injEq, exists_eq_left', decide_true, decide_false, if_true, if_false, reduceCtorEq, cond_true, cond_false, lnl_R hx, c]
    unfold f11_j1
    try simp only [↓reduceIte, ↓LL, LM, Value.cells, Nat.reduceAdd, Option.some.injEq, exists_eq_left', decide_true, decide_false, if_true, if_false, reduceCtorEq, cond_true, cond_false]
    rw [List.take_of_length_le (by omega), List.take_of_length_le (by omega)] at he
    have := kk w hb
    rw [decide_eq_true he] at this
    exact this
  | succ d ih =>
    intro m i w hi hm hb he kk
    obtain ⟨m, rfl⟩ : ∃ x, m = x + 1 := ⟨m - 1, by omega⟩
    show f11_b2 f11_j1 _ _ _ _ w Q
    unfold f11_b2
    have c : (i : Int) < (r.length : Nat) := by omega
    have hir : i < r.length := by omega
    have his : i < s.length := by omega
    have hbd : Below W.heap.size W (drw w) := hb.trans ⟨rfl, rfl, rfl, Nat.le_refl _, fun _ _ => rfl⟩
    obtain ⟨ax, _, hcx, hax⟩ := val_at hx hir
    obtain ⟨ay, _, hcy, hay⟩ := val_at hy his
    have h3 : IntKind.i64.wrap ((i : Int) + 1) = ((i + 1 : Nat) : Int) := by rw [w64 (by omega) (by omega)]; rfl
    simp only [↓reduceIte, ↓LL, LM, Value.cells, Nat.reduceAdd, Option.some.injEq, exists_eq_left', decide_true, decide_false, if_true, if_false, reduceCtorEq, cond_true, cond_false, lnl_R hx, c, hax]
    refine ldn_at (hcx _ hbd) rfl ?_
    simp only [↓reduceIte, ↓LL, LM, Value.cells, Nat.reduceAdd, Option.some.injEq, exists_eq_left', decide_true, decide_false, if_true, if_false, reduceCtorEq, cond_true, cond_false, hay]
    refine ldn_at (hcy _ hbd) rfl ?_
    refine Eq.mpr (smr_run (ne31 r[i] s[i] (drw w))) ?_
    by_cases hv : r[i] = s[i]
    · simp only [↓reduceIte, ↓LL, LM, Value.cells, Nat.reduceAdd, Option.some.injEq, exists_eq_left', decide_true, decide_false, if_true, if_false, reduceCtorEq, cond_true, cond_false, hv, h3]
      refine ih m (i + 1) (drw w) (by omega) (by omega) hbd ?_ kk
      rw [List.take_succ_eq_append_getElem hir, List.take_succ_eq_append_getElem his, he, hv]
    · simp only [↓reduceIte, ↓LL, LM, Value.cells, Nat.reduceAdd, Option.some.injEq, exists_eq_left', decide_true, decide_false, if_true, if_false, reduceCtorEq, cond_true, cond_false, hv]
      have hne : r ≠ s := by rintro rfl; exact hv rfl
      have := kk (drw w) hbd
      rw [decide_eq_false hne] at this
      exact this
theorem f11_s {x y : Value} {r s : Row} (hx : rdR w x r) (hy : rdR w y s) (hb : r.length ≤ 9223372036854775806) (kk : ∀ w', Below w.heap.size w w' → Q (.bool (decide (r = s))) w') : f11 x y w Q := by
  unfold f11
  by_cases hl : r.length = s.length
  · simp only [↓reduceIte, ↓LL, LM, Value.cells, Nat.reduceAdd, Option.some.injEq, exists_eq_left', decide_true, decide_false, if_true, if_false, reduceCtorEq, cond_true, cond_false, lnl_R hx, lnl_R hy, hl, ne_eq]
    exact ⟨_, f11_loop (W := w) hx hy hl hb r.length (r.length + 1) 0 w (by omega) (by omega) (Below.refl _ _) (by simp) kk⟩
  · have hne : r ≠ s := by rintro rfl; exact hl rfl
    have hli : ¬ ((r.length : Nat) : Int) = (s.length : Nat) := by omega
    simp only [↓reduceIte, ↓LL, LM, Value.cells, Nat.reduceAdd, Option.some.injEq, exists_eq_left', decide_true, decide_false, if_true, if_false, reduceCtorEq, cond_true, cond_false, lnl_R hx, lnl_R hy, hli, ne_eq]
    have := kk w (Below.refl _ _)
    rw [decide_eq_false hne] at this
    exact this
end
end Go.Proofs.Ytlmiimojgledpaa

namespace Go.Proofs.Ytlmiimojgledpaa
open Sh RowKit Go.MapKept
theorem sn_eq {t e : TypeId} {p : Option Addr} {n c : Nat} {x y : Operand} {w : World} (h : Try.prog.underlying t = some (.slice e)) :
    ((do eqGuard .eql t x y (.slice p n c) (.slice none 0 0); binOp .eql t (.slice p n c) (.slice none 0 0) : Sem Value)).run Try.prog w = .ok (.bool p.isNone) w := by
  have h1 : (Op.equalIn 10000 t (.slice p n c) (.slice none 0 0)).run Try.prog w = .ok p.isNone w := by
    have h0 : ∀ d, (Op.equalIn (d + 1) t (.slice p n c) (.slice none 0 0)).run Try.prog w = .ok p.isNone w := by
      intro d
      cases p <;> simp [Op.equalIn, run_underlying h]
    exact h0 9999
  have h2 : (Op.equal t (.slice p n c) (.slice none 0 0)).run Try.prog w = .ok p.isNone w := h1
  simp [eqGuard, binOp, h2]
/-- a row of the call's own -/
def ownR (B : Nat) (w : World) (v : Value) (r : Row) : Prop := ownE B 31 3 encV w v r ∧ ∀ a ∈ r, okV a
/-- a row that stays: of the arguments, or the call's own -/
def RowK (W : World) (w : World) (v : Value) (r : Row) : Prop := rdR W v r ∨ ownR W.heap.size w v r
/-- what a deed may do to others' rows -/
structure Keeps (W w w' : World) : Prop where
  b : Below W.heap.size w w'
  o : ∀ (k : Nat) (cur : Array Value), w.heap[k]? = some (.cells cur 31 (0, 0)) → w'.heap[k]? = some (.cells cur 31 (0, 0))
section
variable {W w w' w2 : World} {Q : Value → World → Prop}
theorem ownR_rd {B : Nat} {v : Value} {r : Row} (h : ownR B w v r) : rdR w v r := by
  rcases ownE_rd encV_len (by decide) h.1 with h1 | ⟨a, c, rfl, hc, h1⟩
  · exact .inl h1
  · refine .inr ⟨a, c, rfl, hc, fun i hi => ?_⟩
    obtain ⟨es, e1, e2, e3⟩ := h1 i hi
    exact ⟨es, e1, e2, e3, h.2 _ (List.getElem_mem hi)⟩
theorem RowK.rd {v : Value} {r : Row} (h : RowK W w v r) (hb : Below W.heap.size W w) : rdR w v r := by
  rcases h with h | h
  · exact rdR_b hb h
  · exact ownR_rd h
theorem Keeps.refl (W w : World) : Keeps W w w := ⟨Below.refl _ _, fun _ _ h => h⟩
theorem Keeps.trans (h : Keeps W w w') (k : Keeps W w' w2) : Keeps W w w2 := ⟨h.b.trans k.b, fun i c hc => k.o i c (h.o i c hc)⟩
theorem Keeps.of_below (h : Below w.heap.size w w') (hW : W.heap.size ≤ w.heap.size) : Keeps W w w' := ⟨h.mono hW, fun k c hc => stay h hc⟩
theorem ownR_keep {v : Value} {r : Row} {B : Nat} (h : ownR B w v r) (hk : Keeps W w w') : ownR B w' v r := by
  refine ⟨ownE_stay h.1 (fun g hg => ?_), h.2⟩
  obtain ⟨_, _, cur, hc⟩ := ownE_blk h.1 g hg
  rw [hk.o g cur hc, hc]
theorem RowK.keep {v : Value} {r : Row} (h : RowK W w v r) (hk : Keeps W w w') : RowK W w' v r := h.imp id (fun h => ownR_keep h hk)
/-- rows of the call's own list -/
def OL (W w : World) (v : Value) (l : List Row) : Prop := ∃ xs : List Value, ownV W.heap.size 33 w v xs ∧ xs.length = l.length ∧ ∀ (i : Nat) (x : Value) (r : Row), xs[i]? = some x → l[i]? = some r → RowK W w x r
theorem OL_nil : OL W w (.slice none 0 0) [] := ⟨[], ownV_nil, rfl, fun i x r h => by simp at h⟩
theorem OL.rd {v : Value} {l : List Row} (h : OL W w v l) (hb : Below W.heap.size W w) : rdL w v l := by
  obtain ⟨xs, ho, hl, hr⟩ := h
  rcases ownV_cases ho with ⟨rfl, rfl⟩ | ⟨g, cap, cur, rfl, hg, hblk, hn, hm, hs, ht⟩
  · exact .inl ⟨rfl, List.length_eq_zero_iff.1 (by simpa using hl.symm)⟩
  · refine .inr ⟨⟨g, 0, none⟩, cap, by rw [hl], by omega, fun i hi => ?_⟩
    have hix : i < xs.length := by omega
    refine ⟨[xs[i]], rfl, fun j u hj => ?_, xs[i], rfl, (hr i xs[i] l[i] (List.getElem?_eq_getElem hix) (List.getElem?_eq_getElem hi)).rd hb⟩
    have : j = 0 := by
      rcases Nat.eq_zero_or_pos j with c | c
      · exact c
      · rw [List.getElem?_eq_none (by simp; omega)] at hj; cases hj
    subst this
    rw [add_zero', add_lit, Nat.zero_add, Nat.mul_one, cell_of_blk hblk]
    have h1 : (cur.toList.take xs.length)[i]? = xs[i]? := by rw [ht]
    rw [List.getElem?_take_of_lt hix] at h1
    rw [← Array.getElem?_toList, h1, List.getElem?_eq_getElem hix]
    simpa using hj
theorem OL.keep {v : Value} {l : List Row} (h : OL W w v l) (hb : Below w.heap.size w w') (hW : W.heap.size ≤ w.heap.size) : OL W w' v l := by
  obtain ⟨xs, ho, hl, hr⟩ := h
  exact ⟨xs, ownV_below ho hb, hl, fun i x r h1 h2 => (hr i x r h1 h2).keep (Keeps.of_below hb hW)⟩
/-- one more -/
theorem ap_L {v x : Value} {l : List Row} {r : Row} {K : Value → M} (h : OL W w v l) (hx : RowK W w x r) (hxs : ∃ p n c, x = .slice p n c) (hb : Below W.heap.size W w) (hl : l.length + 1 ≤ 1000000) (kk : ∀ v' w', OL W w' v' (l ++ [r]) → Keeps W w w' → K v' w' Q) :
    sm Try.prog (Instr.buildSlice 22 1 #[(0, x)]) (fun u => sm Try.prog (Builtin.append_ #[22, 22] 22 #[v, u]) K) w Q := by
  obtain ⟨xs, ho, hlx, hr⟩ := h
  obtain ⟨p, n, c, rfl⟩ := hxs
  refine ap_V (x := .slice p n c) sl22 rfl rfl rfl ho (by unfold maxLen; omega) (by omega) hb.size fun v' w' ho' hf hsz hos hown => ?_
  have hk : Keeps W w w' := by
    refine ⟨⟨hos.1, hos.2.1, hos.2.2, hsz, fun k hk => hf k (Nat.lt_of_lt_of_le hk hb.size) (fun e => by have := (ownV_lt ho k e).1; omega)⟩, fun k cur hc => ?_⟩
    rw [hf k (blk_lt hc) (fun e => ?_)]
    · exact hc
    · obtain ⟨_, _, cur', hc'⟩ := ownV_lt ho k e
      rw [hc] at hc'; cases hc'
  refine kk v' w' ⟨xs ++ [.slice p n c], ho', by simp [hlx], fun i x' r' h1 h2 => ?_⟩ hk
  rw [List.getElem?_append] at h1 h2
  split at h1
  · rename_i hi
    rw [if_pos (by omega)] at h2
    exact (hr i x' r' h1 h2).keep hk
  · rename_i hi
    rw [if_neg (by omega)] at h2
    have hi0 : i - xs.length = 0 := by
      rcases Nat.eq_zero_or_pos (i - xs.length) with c | c
      · exact c
      · rw [List.getElem?_eq_none (by simp; omega)] at h1; cases h1
    rw [hi0] at h1
    rw [← hlx, hi0] at h2
    cases h1; cases h2
    exact hx.keep hk
theorem rd_eR {v : Value} {r : Row} (h : rdR w v r) : rdS 3 (eR encV) w v r := rdS_mono (fun _ _ h => h.1) h
theorem ownE_lenv {B : Nat} {v : Value} {r : Row} (h : ownR B w v r) : ∃ p n c, v = .slice p n c := by
  rcases rdS_len (ownR_rd h) with ⟨p, c, rfl⟩
  exact ⟨_, _, _, rfl⟩
/-- a row cloned -/
theorem f30_s {v : Value} {r : Row} (h : rdR w v r) (hsz : r.length * 32 ≤ 140737488355328) (kk : ∀ w' u, ownR w.heap.size w' u r → Below w.heap.size w w' → Q u w') : f30 v w Q := by
  unfold f30
  obtain ⟨p, c, hv⟩ := rdS_len h
  refine Eq.mpr (smr_run (by rw [hv]; exact sn_eq Try.underlying33)) ?_
  cases p with
  | none =>
    have hr0 : r = [] := by
      rcases h with ⟨_, h⟩ | ⟨a, c', e, _⟩
      · exact h
      · rw [hv] at e; cases e
    subst hr0
    simp only [↓reduceIte, ↓LL, LM, Value.cells, Nat.reduceAdd, Option.some.injEq, exists_eq_left', decide_true, decide_false, if_true, if_false, reduceCtorEq, cond_true, cond_false, Option.isNone]
    exact kk w _ ⟨ownE_nil, by simp⟩ (Below.refl _ w)
  | some a =>
    simp only [↓reduceIte, ↓LL, LM, Value.cells, Nat.reduceAdd, Option.some.injEq, exists_eq_left', decide_true, decide_false, if_true, if_false, reduceCtorEq, cond_true, cond_false, Option.isNone]
    have hb1 : (Instr.buildSlice 33 0 #[]).run Try.prog w = .ok (.slice (some ⟨w.heap.size, 0, none⟩) 0 0) (psh w (.cells #[] 31)) := by
      obtain ⟨i, h1, h2, h3, h4, h5⟩ := slT_info sl33
      simp only [Instr.buildSlice, underlying, Sem.run_bind, run_program, Result.andThen_ok, h1, Sem.run_pure, sizeOf, typeInfo, h2, h4, zeroValue, h3]
      have e0 : Array.map (fun (_ : Nat) => (default : Value)) (Array.range 0) = #[] := by apply Array.eq_empty_of_size_eq_zero; simp
      simp [Instr.fill, newRow, newObj, psh, Sem.run, e0]
      try rw [e0]
      try rfl
    refine ⟨_, _, hb1, ?_⟩
    have b1 := b_psh w (.cells #[] 31)
    have o1 : ownE w.heap.size 31 3 encV (psh w (.cells #[] 31)) (.slice (some ⟨w.heap.size, 0, none⟩) 0 0) ([] : Row) := ⟨by simp, .inr ⟨w.heap.size, 0, #[], rfl, Nat.le_refl _, blk_psh_new, Nat.le_refl _, by unfold maxLen; omega, by simp, by simp⟩⟩
    refine ap_E (m := r) sl33 rfl (by decide) encV_len encV_one o1 (rd_eR (rdR_b b1 h)) (by unfold maxLen; simp; omega) (by simpa using hsz) b1.size fun v2 w2 o2 g2 _ => ?_
    simp only [↓reduceIte, ↓LL, LM, Value.cells, Nat.reduceAdd, Option.some.injEq, exists_eq_left', decide_true, decide_false, if_true, if_false, reduceCtorEq, cond_true, cond_false]
    rw [List.nil_append] at o2
    exact kk w2 v2 ⟨o2, okV_all h⟩ (b1.grown g2 b1.size (fun k hk => (ownE_blk o1 k hk).1))
/-- whether a row is one of some -/
theorem f29_s {v x : Value} {l : List Row} {r : Row} (h : rdL w v l) (hx : rdR w x r) (hl : l.length ≤ 9223372036854775806) (hr : r.length ≤ 9223372036854775806) (kk : ∀ w', Below w.heap.size w w' → Q (.bool (l.any fun s => decide (r = s))) w') : f29 v x w Q := by
  unfold f29
  obtain ⟨p, c, hv⟩ := rdS_len hx
  have hb1 := b_psh w (.cells x.cells 33)
  have blk := blk_psh_new (w := w) (o := .cells x.cells 33)
  rw [bx_e]
  generalize psh w (.cells x.cells 33) = w1 at *
  try simp only [↓reduceIte, ↓LL, LM, Value.cells, Nat.reduceAdd, Option.some.injEq, exists_eq_left', decide_true, decide_false, if_true, if_false, reduceCtorEq, cond_true, cond_false]
  refine f43_s (rdL_b hb1 h) (pr := fun s => decide (r = s)) ?_ hl fun w2 hb2 => ?_
  · intro rv s w2 K Q hb hs k
    refine cf_p en46 ?_
    refine s46 rv (.pointer (some ⟨w.heap.size, 0, none⟩)) w2 _ ?_
    unfold f46
    have hc : w2.cell? ⟨w.heap.size, 0, none⟩ = some x := by rw [cell_of_blk (stay hb blk), hv]; rfl
    simp only [↓reduceIte, ↓LL, LM, Value.cells, Nat.reduceAdd, Option.some.injEq, exists_eq_left', decide_true, decide_false, if_true, if_false, reduceCtorEq, cond_true, cond_false, hc]
    refine f47_s (rdR_b (bt hb1 hb) hx) hs hr fun w3 hb3 => ?_
    try simp only [↓reduceIte, ↓LL, LM, Value.cells, Nat.reduceAdd, Option.some.injEq, exists_eq_left', decide_true, decide_false, if_true, if_false, reduceCtorEq, cond_true, cond_false]
    exact k w3 hb3
  · try simp only [↓reduceIte, ↓LL, LM, Value.cells, Nat.reduceAdd, Option.some.injEq, exists_eq_left', decide_true, decide_false, if_true, if_false, reduceCtorEq, cond_true, cond_false]
    exact kk w2 (bt hb1 hb2)
/-- each once -/
def once : List Row → List Row → List Row
  | out, [] => out
  | out, r :: l => once (if out.any (fun s => decide (r = s)) then out else out ++ [r]) l
theorem once_len : ∀ (l out : List Row), (once out l).length ≤ out.length + l.length
  | [], out => by simp [once]
  | r :: l, out => by
    unfold once
    have := once_len l (if out.any (fun s => decide (r = s)) then out else out ++ [r])
    split at this
    · rename_i c; rw [if_pos c]; simp; omega
    · rename_i c; rw [if_neg c]; simp at this ⊢; omega
theorem f14_loop {v : Value} {l : List Row} (h : rdL W v l) (hl : l.length ≤ 100000) (hsz : ∀ r ∈ l, r.length * 32 ≤ 140737488355328) : ∀ (d m i : Nat) (w : World) (u : Value) (out : List Row), i + d = l.length → d < m → Below W.heap.size W w → OL W w u out → out.length ≤ i →
    (∀ w' u', Below W.heap.size W w' → OL W w' u' (once out (l.drop i)) → Q u' w') →
    itr (fun _ _ _ _ => bot) (f14_b2 f14_j1) m u v (.int .i64 (l.length : Nat)) (.int .i64 (i : Int)) w Q := by
  intro d
  induction d with
  | zero =>
    intro m i w u out hi hm hb ho hoi kk
    obtain ⟨m, rfl⟩ : ∃ x, m = x + 1 := ⟨m - 1, by omega⟩
    show f14_b2 f14_j1 _ _ _ _ _ w Q
    unfold f14_b2
    have c : ¬ (i : Int) < (l.length : Nat) := by omega
    simp only [↓reduceIte, ↓LL, LM, Value.cells, Nat.reduceAdd, Option.some.injEq, exists_eq_left', decide_true, decide_false, if_true, if_false, reduceCtorEq, cond_true, cond_false, c]
    unfold f14_j1
    simp only [↓reduceIte, ↓LL, LM, Value.cells, Nat.reduceAdd, Option.some.injEq, exists_eq_left', decide_true, decide_false, if_true, if_false, reduceCtorEq, cond_true, cond_false]
    refine kk w u hb ?_
    rw [List.drop_of_length_le (by omega)]
    exact ho
  | succ d ih =>
    intro m i w u out hi hm hb ho hoi kk
    obtain ⟨m, rfl⟩ : ∃ x, m = x + 1 := ⟨m - 1, by omega⟩
    show f14_b2 f14_j1 _ _ _ _ _ w Q
    unfold f14_b2
    have c : (i : Int) < (l.length : Nat) := by omega
    have hil : i < l.length := by omega
    obtain ⟨ad, rv, hr, hc, hia⟩ := row_at h hil
    have cw := hc w hb
    have hrl := hsz l[i] (List.getElem_mem hil)
    have h3 : IntKind.i64.wrap ((i : Int) + 1) = ((i + 1 : Nat) : Int) := by rw [w64 (by omega) (by omega)]; rfl
    have hdrop : l.drop i = l[i] :: l.drop (i + 1) := List.drop_eq_getElem_cons hil
    simp only [↓reduceIte, ↓LL, LM, Value.cells, Nat.reduceAdd, Option.some.injEq, exists_eq_left', decide_true, decide_false, if_true, if_false, reduceCtorEq, cond_true, cond_false, c, hia, cw]
    refine f29_s (ho.rd hb) (rdR_b hb hr) (by omega) (by omega) fun w1 hb1 => ?_
    have b1 := bt hb hb1
    have o1 := ho.keep hb1 hb.size
    by_cases ha : (out.any fun s => decide (l[i] = s)) = true
    · simp only [↓reduceIte, ↓LL, LM, Value.cells, Nat.reduceAdd, Option.some.injEq, exists_eq_left', decide_true, decide_false, if_true, if_false, reduceCtorEq, cond_true, cond_false, ha]
      unfold f14_j3
      simp only [↓reduceIte, ↓LL, LM, Value.cells, Nat.reduceAdd, Option.some.injEq, exists_eq_left', decide_true, decide_false, if_true, if_false, reduceCtorEq, cond_true, cond_false, h3]
      refine ih m (i + 1) w1 u out (by omega) (by omega) b1 o1 (by omega) fun w' u' hb' ho' => kk w' u' hb' ?_
      rw [hdrop]; unfold once; rw [if_pos ha]; exact ho'
    · have haf : (out.any fun s => decide (l[i] = s)) = false := Bool.eq_false_iff.2 ha
      simp only [↓reduceIte, ↓LL, LM, Value.cells, Nat.reduceAdd, Option.some.injEq, exists_eq_left', decide_true, decide_false, if_true, if_false, reduceCtorEq, cond_true, cond_false, haf]
      refine f30_s (rdR_b b1 hr) hrl fun w2 x hx hb2 => ?_
      have b2 := bt b1 hb2
      have o2 := o1.keep hb2 b1.size
      try simp only [↓reduceIte, ↓LL, LM, Value.cells, Nat.reduceAdd, Option.some.injEq, exists_eq_left', decide_true, decide_false, if_true, if_false, reduceCtorEq, cond_true, cond_false]
      refine ap_L o2 (r := l[i]) (.inr ⟨ownE_weak hx.1 b1.size, hx.2⟩) (ownE_lenv hx) b2 (by omega) fun u' w3 o3 k3 => ?_
      unfold f14_j3
      simp only [↓reduceIte, ↓LL, LM, Value.cells, Nat.reduceAdd, Option.some.injEq, exists_eq_left', decide_true, decide_false, if_true, if_false, reduceCtorEq, cond_true, cond_false, h3]
      refine ih m (i + 1) w3 u' (out ++ [l[i]]) (by omega) (by omega) (b2.trans k3.b) o3 (by simp; omega) fun w' u' hb' ho' => kk w' u' hb' ?_
      rw [hdrop]; unfold once; rw [if_neg ha]; exact ho'
theorem f14_s {v : Value} {l : List Row} (h : rdL w v l) (hl : l.length ≤ 100000) (hsz : ∀ r ∈ l, r.length * 32 ≤ 140737488355328) (kk : ∀ w' u', Below w.heap.size w w' → OL w w' u' (once [] l) → Q u' w') : f14 v w Q := by
  unfold f14
  simp only [↓reduceIte, ↓LL, LM, Value.cells, Nat.reduceAdd, Option.some.injEq, exists_eq_left', decide_true, decide_false, if_true, if_false, reduceCtorEq, cond_true, cond_false, lnl_L h]
  exact ⟨_, f14_loop (W := w) h hl hsz l.length (l.length + 1) 0 w _ [] (by omega) (by omega) (Below.refl _ _) OL_nil (by simp) fun w' u' hb ho => kk w' u' hb (by simpa using ho)⟩
end
end Go.Proofs.Ytlmiimojgledpaa

namespace Go.Proofs.Ytlmiimojgledpaa
open Sh RowKit Go.MapKept
section
variable {W w w' : World} {Q : Value → World → Prop}
theorem cap0 : (Builtin.cap_ #[33] 3 #[.slice none 0 0]).run Try.prog w = .ok (.int .i64 0) w := by kernel_rfl
theorem sll_cut {g k c n : Nat} {K : Value → M} {x : Int} (hn : 0 < c) (hx : x = 0) (kk : K (.slice (some ⟨g, 0, none⟩) 0 c) w Q) : sll n (.slice (some ⟨g, 0, none⟩) k c) none (some (.int .i64 x)) K w Q := by
  subst hx
  refine ⟨some ⟨g, 0, none⟩, k, c, 0, 0, rfl, ⟨.i64, 0, rfl, by omega, by omega, rfl⟩, rfl, ?_⟩
  rw [if_neg (by omega), Nat.zero_mul]
  exact kk
theorem sll_nil {n : Nat} {K : Value → M} (kk : K (.slice none 0 0) w Q) : sll n (.slice none 0 0) none (some (.int .i64 0)) K w Q := by
  refine ⟨none, 0, 0, 0, 0, rfl, ⟨.i64, 0, rfl, by omega, by omega, rfl⟩, rfl, ?_⟩
  exact kk
/-- room for a row -/
theorem f45_s {n : Nat} (hn : n * 32 ≤ 140737488355328) (kk : ∀ w' u, ownR w.heap.size w' u [] → Below w.heap.size w w' → Q u w') : f45 (.slice none 0 0) (.int .i64 (n : Int)) w Q := by
  unfold f45
  have h0 : ¬ (n : Int) < 0 := by omega
  simp only [↓reduceIte, ↓LL, LM, Value.cells, Nat.reduceAdd, Option.some.injEq, exists_eq_left', decide_true, decide_false, if_true, if_false, reduceCtorEq, cond_true, cond_false, h0]
  refine ⟨_, _, cap0, ?_⟩
  have e1 : IntKind.i64.wrap ((0 : Int) - ((0 : Nat) : Int)) = 0 := rfl
  have e2 : IntKind.i64.wrap ((n : Int) - 0) = (n : Int) := by rw [w64 (by omega) (by omega)]; omega
  by_cases hz : n = 0
  · subst hz
    have e3 : IntKind.i64.wrap ((((0 : Nat) : Int)) - 0) = 0 := rfl
    simp only [↓reduceIte, ↓LL, LM, Value.cells, Nat.reduceAdd, Option.some.injEq, exists_eq_left', decide_true, decide_false, if_true, if_false, reduceCtorEq, cond_true, cond_false, e1, e3, Int.lt_irrefl]
    unfold f45_j1
    simp only [↓reduceIte, ↓LL, LM, Value.cells, Nat.reduceAdd, Option.some.injEq, exists_eq_left', decide_true, decide_false, if_true, if_false, reduceCtorEq, cond_true, cond_false]
    exact kk w _ ⟨ownE_nil, by simp⟩ (Below.refl _ w)
  · have hp : (0 : Int) < (n : Int) := by omega
    simp only [↓reduceIte, ↓LL, LM, Value.cells, Nat.reduceAdd, Option.some.injEq, exists_eq_left', decide_true, decide_false, if_true, if_false, reduceCtorEq, cond_true, cond_false, e1, e2, hp]
    refine ⟨_, _, cap0, ?_⟩
    refine sll_nil ?_
    obtain ⟨i, h1, h2, h3, h4, h5⟩ := slT_info sl33
    have hr := Go.Lib.run_append_nil_zeros (P := Try.prog) w 33 3 33 31 i _ .i64 .i64 h1 (by kernel_rfl) h2 h3 n (by omega) (by rw [h4]; decide) (by omega) (by rw [h5]; omega)
    refine ⟨_, _, hr, ?_⟩
    have hge := grownCap_ge w n 0 31
    have hle := grownCap_le_maxLen w n 0 31 (by unfold maxLen; omega)
    generalize hc : grownCap w n 0 31 = cp at *
    generalize hcur : (Builtin.zeroCells (Value.agg #[Value.int IntKind.i64 0, Value.int IntKind.i64 0, Value.string { data := #[] }]).cells n ++ Builtin.zeroCells (Value.agg #[Value.int IntKind.i64 0, Value.int IntKind.i64 0, Value.string { data := #[] }]).cells (cp - n)) = cur
    have hsz : cur.size = cp * 3 := by
      rw [← hcur, Array.size_append, size_zeroCells, size_zeroCells]
      show n * 3 + (cp - n) * 3 = cp * 3
      omega
    have hb : Below w.heap.size w (w.drew.alloc (.cells cur 31)) := by
      refine ⟨rfl, rfl, rfl, ?_, fun k hk => ?_⟩
      · simp
      · exact Below.heap_alloc w.drew _ k hk
    have hblk : (w.drew.alloc (.cells cur 31)).heap[w.heap.size]? = some (.cells cur 31 (0, 0)) := blk_psh_new (w := w.drew)
    simp only [↓reduceIte, ↓LL, LM, Value.cells, Nat.reduceAdd, Option.some.injEq, exists_eq_left', decide_true, decide_false, if_true, if_false, reduceCtorEq, cond_true, cond_false]
    refine sll_cut (by omega) rfl ?_
    unfold f45_j1
    simp only [↓reduceIte, ↓LL, LM, Value.cells, Nat.reduceAdd, Option.some.injEq, exists_eq_left', decide_true, decide_false, if_true, if_false, reduceCtorEq, cond_true, cond_false]
    refine kk _ _ ⟨⟨by simp, .inr ⟨w.heap.size, cp, cur, rfl, Nat.le_refl _, hblk, Nat.zero_le _, hle, hsz, by simp⟩⟩, by simp⟩ hb
def lenS (l : List Row) : Nat := (l.map List.length).sum
theorem lenS_take {l : List Row} {i : Nat} (h : i < l.length) : lenS (l.take (i + 1)) = lenS (l.take i) + l[i].length := by
  unfold lenS
  rw [List.take_succ_eq_append_getElem h, List.map_append, List.sum_append]
  simp
theorem lenS_le (l : List Row) (i : Nat) : lenS (l.take i) ≤ lenS l := by
  unfold lenS
  conv => rhs; rw [← List.take_append_drop i l, List.map_append, List.sum_append]
  omega
theorem flat_len' (l : List Row) : l.flatten.length = lenS l := by unfold lenS; rw [List.length_flatten]
theorem f27_add {v : Value} {l : List Row} (h : rdL W v l) (hl : l.length ≤ 100000) (hN : lenS l * 32 ≤ 140737488355328) {x9 : Value} : ∀ (d m i : Nat) (w : World), i + d = l.length → d < m → Below W.heap.size W w →
    (∀ w', Below W.heap.size W w' → f27_j1 x9 (.int .i64 (lenS l : Nat)) w' Q) →
    itr (fun _ _ _ _ _ => bot) (f27_b2 f27_j1) m x9 (.int .i64 (lenS (l.take i) : Nat)) v (.int .i64 (l.length : Nat)) (.int .i64 (i : Int)) w Q := by
  intro d
  induction d with
  | zero =>
    intro m i w hi hm hb kk
    obtain ⟨m, rfl⟩ : ∃ x, m = x + 1 := ⟨m - 1, by omega⟩
    show f27_b2 f27_j1 _ _ _ _ _ _ w Q
    unfold f27_b2
    have c : ¬ (i : Int) < (l.length : Nat) := by omega
    simp only [↓reduceIte, ↓LL, LM, Value.cells, Nat.reduceAdd, Option.some.injEq, exists_eq_left', decide_true, decide_false, if_true, if_false, reduceCtorEq, cond_true, cond_false, c]
    rw [List.take_of_length_le (by omega)]
    exact kk w hb
  | succ d ih =>
    intro m i w hi hm hb kk
    obtain ⟨m, rfl⟩ : ∃ x, m = x + 1 := ⟨m - 1, by omega⟩
    show f27_b2 f27_j1 _ _ _ _ _ _ w Q
    unfold f27_b2
    have c : (i : Int) < (l.length : Nat) := by omega
    have hil : i < l.length := by omega
    obtain ⟨ad, rv, hr, hc, hia⟩ := row_at h hil
    have cw := hc w hb
    have h3 : IntKind.i64.wrap ((i : Int) + 1) = ((i + 1 : Nat) : Int) := by rw [w64 (by omega) (by omega)]; rfl
    have ht := lenS_take hil
    have hle := lenS_le l (i + 1)
    have h4 : IntKind.i64.wrap (((lenS (l.take i) : Nat) : Int) + (l[i].length : Nat)) = ((lenS (l.take (i + 1)) : Nat) : Int) := by rw [w64 (by omega) (by omega)]; omega
    have h5 : ¬ ((lenS (l.take (i + 1)) : Nat) : Int) < 0 := by omega
    simp only [↓reduceIte, ↓LL, LM, Value.cells, Nat.reduceAdd, Option.some.injEq, exists_eq_left', decide_true, decide_false, if_true, if_false, reduceCtorEq, cond_true, cond_false, c, hia, cw, lnl_R hr, h3, h4, h5]
    exact ih m (i + 1) w (by omega) (by omega) hb kk
theorem f27_app {v : Value} {l : List Row} (h : rdL W v l) (hl : l.length ≤ 100000) (hN : lenS l * 32 ≤ 140737488355328) : ∀ (d m i : Nat) (w : World) (u : Value), i + d = l.length → d < m → Below W.heap.size W w → ownR W.heap.size w u (l.take i).flatten →
    (∀ w' u', Below W.heap.size W w' → ownR W.heap.size w' u' l.flatten → Q u' w') →
    itr (fun _ _ _ _ => bot) (f27_b4 f27_j3) m u v (.int .i64 (l.length : Nat)) (.int .i64 (i : Int)) w Q := by
  intro d
  induction d with
  | zero =>
    intro m i w u hi hm hb ho kk
    obtain ⟨m, rfl⟩ : ∃ x, m = x + 1 := ⟨m - 1, by omega⟩
    show f27_b4 f27_j3 _ _ _ _ _ w Q
    unfold f27_b4
    have c : ¬ (i : Int) < (l.length : Nat) := by omega
    simp only [↓reduceIte, ↓LL, LM, Value.cells, Nat.reduceAdd, Option.some.injEq, exists_eq_left', decide_true, decide_false, if_true, if_false, reduceCtorEq, cond_true, cond_false, c]
    unfold f27_j3
    simp only [↓reduceIte, ↓LL, LM, Value.cells, Nat.reduceAdd, Option.some.injEq, exists_eq_left', decide_true, decide_false, if_true, if_false, reduceCtorEq, cond_true, cond_false]
    rw [List.take_of_length_le (by omega)] at ho
    exact kk w u hb ho
  | succ d ih =>
    intro m i w u hi hm hb ho kk
    obtain ⟨m, rfl⟩ : ∃ x, m = x + 1 := ⟨m - 1, by omega⟩
    show f27_b4 f27_j3 _ _ _ _ _ w Q
    unfold f27_b4
    have c : (i : Int) < (l.length : Nat) := by omega
    have hil : i < l.length := by omega
    obtain ⟨ad, rv, hr, hc, hia⟩ := row_at h hil
    have cw := hc w hb
    have h3 : IntKind.i64.wrap ((i : Int) + 1) = ((i + 1 : Nat) : Int) := by rw [w64 (by omega) (by omega)]; rfl
    have ht := lenS_take hil
    have hle := lenS_le l (i + 1)
    simp only [↓reduceIte, ↓LL, LM, Value.cells, Nat.reduceAdd, Option.some.injEq, exists_eq_left', decide_true, decide_false, if_true, if_false, reduceCtorEq, cond_true, cond_false, c, hia, cw]
    refine ap_E (m := l[i]) sl33 rfl (by decide) encV_len encV_one ho.1 (rd_eR (rdR_b hb hr)) (by rw [flat_len']; unfold maxLen; omega) (by rw [flat_len']; omega) hb.size fun v2 w2 o2 g2 _ => ?_
    have b2 := hb.grown g2 hb.size (fun k hk => (ownE_blk ho.1 k hk).1)
    have ef : (l.take i).flatten ++ l[i] = (l.take (i + 1)).flatten := by rw [List.take_succ_eq_append_getElem hil, List.flatten_append, List.flatten_singleton]
    rw [ef] at o2
    simp only [↓reduceIte, ↓LL, LM, Value.cells, Nat.reduceAdd, Option.some.injEq, exists_eq_left', decide_true, decide_false, if_true, if_false, reduceCtorEq, cond_true, cond_false, h3]
    refine ih m (i + 1) w2 v2 (by omega) (by omega) b2 ⟨o2, fun a ha => ?_⟩ kk
    rw [← ef] at ha
    rcases List.mem_append.1 ha with ha | ha
    · exact ho.2 a ha
    · exact okV_all hr a ha
/-- rows one behind another, as one new row -/
theorem f27_s {v : Value} {l : List Row} (h : rdL w v l) (hl : l.length ≤ 100000) (hN : lenS l * 32 ≤ 140737488355328) (kk : ∀ w' u, Below w.heap.size w w' → ownR w.heap.size w' u l.flatten → Q u w') : f27 v w Q := by
  unfold f27
  simp only [↓reduceIte, ↓LL, LM, Value.cells, Nat.reduceAdd, Option.some.injEq, exists_eq_left', decide_true, decide_false, if_true, if_false, reduceCtorEq, cond_true, cond_false, lnl_L h]
  have z : (.int .i64 0 : Value) = .int .i64 ((lenS (l.take 0) : Nat) : Int) := by simp [lenS]
  refine ⟨l.length + 1, ?_⟩
  have := f27_add (W := w) (Q := Q) (x9 := v) h hl hN l.length (l.length + 1) 0 w (by omega) (by omega) (Below.refl _ _) fun w1 hb1 => ?_
  · rw [← z] at this
    exact this
  unfold f27_j1
  try simp only [↓reduceIte, ↓LL, LM, Value.cells, Nat.reduceAdd, Option.some.injEq, exists_eq_left', decide_true, decide_false, if_true, if_false, reduceCtorEq, cond_true, cond_false]
  refine f45_s hN fun w2 u ho hb2 => ?_
  have b2 := bt hb1 hb2
  simp only [↓reduceIte, ↓LL, LM, Value.cells, Nat.reduceAdd, Option.some.injEq, exists_eq_left', decide_true, decide_false, if_true, if_false, reduceCtorEq, cond_true, cond_false, lnl_L (rdL_b b2 h)]
  exact ⟨_, f27_app (W := w) h hl hN l.length (l.length + 1) 0 w2 u (by omega) (by omega) b2 ⟨ownE_weak ho.1 hb1.size, by simp⟩ fun w' u' hb' ho' => kk w' u' hb' ho'⟩
theorem f9_s {v : Value} {l : List Row} (h : rdL w v l) (kk : ∀ v', rdL w v' (l.take 80) → Q v' w) : f9 v w Q := by
  unfold f9
  simp only [↓reduceIte, ↓LL, LM, Value.cells, Nat.reduceAdd, Option.some.injEq, exists_eq_left', decide_true, decide_false, if_true, if_false, reduceCtorEq, cond_true, cond_false, lnl_L h]
  have e : (if (80 : Int) < (l.length : Nat) then 80 else ((l.length : Nat) : Int)) = ((min l.length 80 : Nat) : Int) := by omega
  rw [e]
  refine sll_S h (by omega) fun v' hv' => ?_
  have e2 : l.take (min l.length 80) = l.take 80 := by
    rcases Nat.lt_or_ge l.length 80 with c | c
    · rw [Nat.min_eq_left (by omega), List.take_of_length_le (Nat.le_refl _), List.take_of_length_le (by omega)]
    · rw [Nat.min_eq_right c]
  rw [e2] at hv'
  try simp only [↓reduceIte, ↓LL, LM, Value.cells, Nat.reduceAdd, Option.some.injEq, exists_eq_left', decide_true, decide_false, if_true, if_false, reduceCtorEq, cond_true, cond_false]
  exact kk v' hv'
def numV (n : Int) : Val := ⟨1, n, ⟨#[]⟩⟩
theorem build31 (n : Int) (w : World) : (Instr.build 31 #[(0, .int .i64 1), (1, .int .i64 n)]).run Try.prog w = .ok (.agg (encV (numV n)).toArray) w := by
  kernel_rfl
theorem f25_s {n : Int} (kk : ∀ w', Below w.heap.size w w' → Q (.agg (encV (numV n)).toArray) w') : f25 (.int .i64 n) w Q := by
  unfold f25
  rw [al_e]
  have b2 := b_psh w (.cells #[.int .i64 0, .int .i64 0, .string ⟨#[]⟩] 31)
  have blk := blk_psh_new (w := w) (o := .cells #[.int .i64 0, .int .i64 0, .string ⟨#[]⟩] 31)
  generalize psh w (.cells #[.int .i64 0, .int .i64 0, .string ⟨#[]⟩] 31) = w1 at *
  rw [smr_run (build31 n w1)]
  refine stn_box blk rfl rfl (by simpa using encV_one (numV n)) fun w2 h2 hu2 => ?_
  refine ldn_box h2 rfl ?_
  simp only [↓reduceIte, ↓LL, LM, Value.cells, Nat.reduceAdd, Option.some.injEq, exists_eq_left', decide_true, decide_false, if_true, if_false, reduceCtorEq, cond_true, cond_false]
  exact kk w2 (b2.trans (hu2.below (Nat.le_refl _)))
end
end Go.Proofs.Ytlmiimojgledpaa

namespace Go.Proofs.Ytlmiimojgledpaa
open Sh RowKit Go.MapKept
abbrev SV := Option Addr × Nat × Nat
def slV (x : SV) : Value := .slice x.1 x.2.1 x.2.2
def encSl (x : SV) : List Value := [slV x]
theorem encSl_len (x : SV) : (encSl x).length = 1 := rfl
theorem encSl_one (x : SV) : ∀ c ∈ encSl x, c.oneCell' = true := by intro c hc; simp [encSl] at hc; rw [hc]; rfl
def colV (c : Nat) (r : Row) : Val := (r[c]?).getD ⟨0, 0, ⟨#[]⟩⟩
theorem colV_get {c : Nat} {r : Row} (h : c < r.length) : colV c r = r[c] := by unfold colV; rw [List.getElem?_eq_getElem h]; rfl
def Rows (W : World) (sl : List SV) (rs : List Row) : Prop := sl.length = rs.length ∧ ∀ (i : Nat) (x : SV) (r : Row), sl[i]? = some x → rs[i]? = some r → rdR W (slV x) r
section
variable {α : Type} [DecidableEq α]
theorem lk_put {L : List (α × Value)} {k k' : α} {v : Value} : lk (put L k v) k' = if k' = k then some v else lk L k' := by
  unfold put
  split
  · rename_i h
    have gen : ∀ L : List (α × Value), lk (L.map (fun p => if p.1 = k then (k, v) else p)) k' = if k' = k then (if k ∈ L.map (·.1) then some v else none) else lk L k' := by
      intro L
      induction L with
      | nil => simp [lk]
      | cons p L ih =>
        obtain ⟨a, u⟩ := p
        rw [List.map_cons]
        by_cases ha : a = k
        · rw [if_pos ha, lk_cons, lk_cons, ih]
          by_cases hk : k' = k
          · subst hk; simp [ha]
          · have : ¬ k = k' := fun e => hk e.symm
            have h2 : ¬ a = k' := fun e => hk (by rw [← e, ha])
            simp [hk, this, h2]
        · rw [if_neg ha, lk_cons, lk_cons, ih]
          by_cases hk : k' = k
          · subst hk
            have h2 : ¬ k' = a := fun e => ha e.symm
            have h3 : (k' ∈ List.map (fun x => x.1) ((a, u) :: L)) ↔ (k' ∈ List.map (fun x => x.1) L) := by
              rw [List.map_cons, List.mem_cons]
              exact ⟨fun h => h.resolve_left h2, .inr⟩
            rw [if_neg ha, if_pos rfl, if_pos rfl]
            by_cases h4 : k' ∈ List.map (fun x => x.1) L
            · rw [if_pos h4, if_pos (h3.2 h4)]
            · rw [if_neg h4, if_neg (fun e => h4 (h3.1 e))]
          · simp [hk]
    rw [gen, if_pos h]
  · rename_i h
    have gen : ∀ L : List (α × Value), lk (L ++ [(k, v)]) k' = (lk L k').or (if k' = k then some v else none) := by
      intro L
      induction L with
      | nil =>
        rw [List.nil_append, lk_cons]
        by_cases hk : k' = k
        · subst hk; simp [lk]
        · have : ¬ k = k' := fun e => hk e.symm
          simp [lk, hk, this]
      | cons p L ih =>
        obtain ⟨a, u⟩ := p
        rw [List.cons_append, lk_cons, lk_cons, ih]
        split <;> simp
    rw [gen]
    by_cases hk : k' = k
    · subst hk
      have : lk L k' = none := lk_none.2 fun p hp e => h (e ▸ List.mem_map.2 ⟨p, hp, rfl⟩)
      simp [this]
    · simp [hk]
theorem put_mem {L : List (α × Value)} {k : α} {v : Value} {p : α × Value} (h : p ∈ put L k v) : p = (k, v) ∨ p ∈ L := by
  unfold put at h
  split at h
  · obtain ⟨q, hq, e⟩ := List.mem_map.1 h
    split at e
    · exact .inl e.symm
    · exact .inr (e ▸ hq)
  · rcases List.mem_append.1 h with h | h
    · exact .inr h
    · exact .inl (List.mem_singleton.1 h)
end
/-- the rows by a column's value -/
structure BY (W : World) (w : World) (m c : Nat) (bs : List Row) : Prop where
  mB : W.heap.size ≤ m
  ex : ∃ L : List (Val × Value), MapAt valV w m L ∧ (∀ p ∈ L, okV p.1) ∧
    (∀ k v, lk L k = some v → ∃ sl, ownE W.heap.size 33 1 encSl w v sl ∧ Rows W sl (bs.filter fun r => decide (colV c r = k))) ∧
    (∀ k, lk L k = none → (bs.filter fun r => decide (colV c r = k)) = []) ∧
    ∀ k v k' v' g, lk L k = some v → lk L k' = some v' → v.ownBlock = some g → v'.ownBlock = some g → k = k'
section
variable {W w w' : World} {Q : Value → World → Prop}
theorem own_rdL {v : Value} {sl : List SV} {rs : List Row} {B : Nat} (h : ownE B 33 1 encSl w v sl) (hr : Rows W sl rs) (hb : Below W.heap.size W w) : rdL w v rs := by
  rcases ownE_rd encSl_len (by decide) h with ⟨rfl, rfl⟩ | ⟨a, c, rfl, hc, h1⟩
  · exact .inl ⟨rfl, List.length_eq_zero_iff.1 (by rw [← hr.1]; rfl)⟩
  · refine .inr ⟨a, c, by rw [hr.1], by rw [← hr.1]; exact hc, fun i hi => ?_⟩
    have his : i < sl.length := by rw [hr.1]; exact hi
    obtain ⟨es, e1, e2, e3⟩ := h1 i his
    exact ⟨es, e1, e2, slV sl[i], e3, rdR_b hb (hr.2 i sl[i] rs[i] (List.getElem?_eq_getElem his) (List.getElem?_eq_getElem hi))⟩
theorem slV_of {v : Value} {r : Row} (h : rdR w v r) : ∃ x : SV, v = slV x := by
  obtain ⟨p, c, rfl⟩ := rdS_len h
  exact ⟨(p, r.length, c), rfl⟩
theorem okc {r : Row} {W : World} {v : Value} {c : Nat} (h : rdR W v r) (hc : c < r.length) : okV (colV c r) := by rw [colV_get hc]; exact okV_all h _ (List.getElem_mem hc)
/-- one row more -/
theorem by_step {m c : Nat} {bs : List Row} {rv : Value} {r : Row} {K0 : M} (h : BY W w m c bs) (hr : rdR W rv r) (hc : c < r.length) (hb : Below W.heap.size W w) (hl : bs.length ≤ 1000)
    (kk : ∀ w', BY W w' m c (bs ++ [r]) → Below W.heap.size W w' → K0 w' Q) :
    (sm Try.prog (Instr.buildSlice 22 1 #[(0, rv)]) fun t40 =>
    sm Try.prog (Instr.mapEntry 48 (.map (some m)) (.agg (encV (colV c r)).toArray)) fun t41 =>
    ex 0 t41 fun t38 =>
    sm Try.prog (Builtin.append_ #[22, 22] 22 #[t38, t40]) fun t42 =>
    ex 1 t41 fun t43 =>
    smu Try.prog (Instr.entryStore 48 (.map (some m)) t43 t42) K0) w Q := by
  obtain ⟨L, hm, hok, hsome, hnone, hdis⟩ := h.ex
  obtain ⟨x, rfl⟩ := slV_of hr
  have hk := okc hr hc
  generalize hkey : colV c r = key at *
  have hml := hm.lt
  refine bsl1 sl22 rfl rfl ?_
  have b1 := b_psh w (.cells #[slV x] 33)
  have blk := blk_psh_new (w := w) (o := .cells #[slV x] 33)
  have hm1 := hm.below b1
  generalize psh w (.cells #[slV x] 33) = w1 at *
  refine ent_map (kv := valV) KG hm1 hok z22 key hk fun w2 st hent hu2 => ?_
  have b2 : Below W.heap.size W w2 := (hb.trans (b1.mono hb.size)).trans (hu2.below h.mB)
  have hne2 : w.heap.size ≠ m := by omega
  have blk2 : w2.heap[w.heap.size]? = some (.cells #[slV x] 33 (0, 0)) := by rw [hu2.block _ hne2]; exact blk
  have g0 : (#[(lk L key).getD (.slice none 0 0), (.int .i64 (st : Nat) : Value)] : Array Value)[0]? = some ((lk L key).getD (.slice none 0 0)) := rfl
  have g1 : (#[(lk L key).getD (.slice none 0 0), (.int .i64 (st : Nat) : Value)] : Array Value)[1]? = some (.int .i64 (st : Nat)) := rfl
  have keepB : ∀ v sl, ownE W.heap.size 33 1 encSl w v sl → ownE W.heap.size 33 1 encSl w2 v sl := by
    intro v sl ho
    refine ownE_stay (ownE_below ho b1) (fun g hg => hu2.block g (fun e => ?_))
    obtain ⟨_, _, cur, hcur⟩ := ownE_blk (ownE_below ho b1) g hg
    obtain ⟨es, clock, hmm, _⟩ := hm1
    rw [e, hmm] at hcur; cases hcur
  obtain ⟨sl0, ho0, hR0⟩ : ∃ sl, ownE W.heap.size 33 1 encSl w2 ((lk L key).getD (.slice none 0 0)) sl ∧ Rows W sl (bs.filter fun r => decide (colV c r = key)) := by
    cases hlk : lk L key with
    | none => exact ⟨[], ownE_nil, by rw [hnone key hlk]; exact ⟨rfl, fun i x r h => by simp at h⟩⟩
    | some v =>
      obtain ⟨sl, h1, h2⟩ := hsome key v hlk
      exact ⟨sl, keepB v sl h1, h2⟩
  have hsl0 : sl0.length ≤ 1000 := by rw [hR0.1]; exact Nat.le_trans (List.length_filter_le _ _) hl
  generalize hv0 : (lk L key).getD (.slice none 0 0) = v0 at *
  simp only [↓reduceIte, ↓LL, LM, Value.cells, Nat.reduceAdd, Option.some.injEq, exists_eq_left', decide_true, decide_false, if_true, if_false, reduceCtorEq, cond_true, cond_false, g0]
  refine ap_E (m := [x]) sl22 rfl (by decide) encSl_len encSl_one ho0 (rd_lit (x := x) (enc := encSl) (n := 1) rfl blk2) (by simp; unfold maxLen; omega) (by simp; omega) b2.size fun v3 w3 o3 gr hv3 => ?_
  have b3 := b2.grown gr b2.size (fun k hk => (ownE_blk ho0 k hk).1)
  have hm2 : m < w2.heap.size := hent.lt
  have hmv : v0.ownBlock ≠ some m := by
    intro e
    obtain ⟨_, _, cur, hcur⟩ := ownE_blk ho0 m e
    obtain ⟨es, clock, hmm, _⟩ := hent
    rw [hmm] at hcur; cases hcur
  have hent3 := hent.stay (w' := w3) (gr.block m hm2 (fun e => hmv e.symm))
  simp only [↓reduceIte, ↓LL, LM, Value.cells, Nat.reduceAdd, Option.some.injEq, exists_eq_left', decide_true, decide_false, if_true, if_false, reduceCtorEq, cond_true, cond_false, g1]
  refine sto_map KG hent3 v3 fun w4 hm4 hu4 => ?_
  rw [put_ent] at hm4
  have b4 := b3.trans (hu4.below h.mB)
  have keep4 : ∀ v sl, ownE W.heap.size 33 1 encSl w3 v sl → ownE W.heap.size 33 1 encSl w4 v sl := by
    intro v sl ho
    refine ownE_stay ho (fun g hg => hu4.block g (fun e => ?_))
    obtain ⟨_, _, cur, hcur⟩ := ownE_blk ho g hg
    obtain ⟨es, clock, hmm, _⟩ := hent3
    rw [e, hmm] at hcur; cases hcur
  refine kk w4 ⟨h.mB, put L key v3, hm4, ?_, ?_, ?_, ?_⟩ b4
  · intro p hp
    rcases put_mem hp with rfl | hp
    · exact hk
    · exact hok p hp
  · intro k v hlk
    rw [lk_put] at hlk
    have hf : (bs ++ [r]).filter (fun r => decide (colV c r = k)) = bs.filter (fun r => decide (colV c r = k)) ++ (if key = k then [r] else []) := by
      rw [List.filter_append]
      congr 1
      simp [List.filter_cons, hkey]
    by_cases e : k = key
    · subst e
      rw [if_pos rfl] at hlk
      cases hlk
      refine ⟨sl0 ++ [x], keep4 _ _ o3, ?_⟩
      rw [hf, if_pos rfl]
      refine ⟨by simp [hR0.1], fun i y s h1 h2 => ?_⟩
      rw [List.getElem?_append] at h1 h2
      split at h1
      · rename_i hi
        rw [if_pos (by rw [← hR0.1]; exact hi)] at h2
        exact hR0.2 i y s h1 h2
      · rename_i hi
        rw [if_neg (by rw [← hR0.1]; exact hi)] at h2
        have hi0 : i - sl0.length = 0 := by
          rcases Nat.eq_zero_or_pos (i - sl0.length) with c | c
          · exact c
          · rw [List.getElem?_eq_none (by simp; omega)] at h1; cases h1
        rw [hi0] at h1
        rw [← hR0.1, hi0] at h2
        cases h1; cases h2
        exact hr
    · rw [if_neg e] at hlk
      obtain ⟨sl, h1, h2⟩ := hsome k v hlk
      refine ⟨sl, keep4 _ _ (ownE_stay (keepB v sl h1) (fun g hg => gr.block g (ownE_blk (keepB v sl h1) g hg).2.1 (fun e2 => ?_))), ?_⟩
      · have hv0s : lk L key = some v0 := by
          cases hlk2 : lk L key with
          | none =>
            rw [hlk2] at hv0
            rw [← hv0] at e2; cases e2
          | some v' => rw [hlk2] at hv0; rw [← hv0]; rfl
        exact e (hdis k v key v0 g hlk hv0s hg e2.symm)
      · rw [hf, if_neg (fun e2 => e e2.symm), List.append_nil]
        exact h2
  · intro k hlk
    rw [lk_put] at hlk
    by_cases e : k = key
    · rw [if_pos e] at hlk; cases hlk
    · rw [if_neg e] at hlk
      rw [List.filter_append, hnone k hlk, List.nil_append]
      simp [List.filter_cons, hkey]
      exact fun e2 => e e2.symm
  · intro k v k' v' g h1 h2 hg hg'
    have lt2 : ∀ k v, lk L k = some v → ∀ g, v.ownBlock = some g → g < w2.heap.size := by
      intro k v hlk g hg
      obtain ⟨sl, h1, _⟩ := hsome k v hlk
      exact (ownE_blk (keepB v sl h1) g hg).2.1
    have v0s : ∀ g, v0.ownBlock = some g → lk L key = some v0 := by
      intro g hg
      cases hlk2 : lk L key with
      | none => rw [hlk2] at hv0; rw [← hv0] at hg; cases hg
      | some v' => rw [hlk2] at hv0; rw [← hv0]; rfl
    have three : ∀ k v g, lk L k = some v → v.ownBlock = some g → v3.ownBlock = some g → k = key := by
      intro k v g hlk hg h3
      rcases hv3 with e | e
      · rw [e] at h3
        exact hdis k v key v0 g hlk (v0s g h3) hg h3
      · rw [e] at h3
        cases h3
        exact absurd (lt2 k v hlk _ hg) (Nat.lt_irrefl _)
    rw [lk_put] at h1 h2
    by_cases e1 : k = key
    · by_cases e2 : k' = key
      · rw [e1, e2]
      · rw [if_pos e1] at h1; cases h1
        rw [if_neg e2] at h2
        rw [e1]; exact (three k' v' g h2 hg' hg).symm
    · rw [if_neg e1] at h1
      by_cases e2 : k' = key
      · rw [if_pos e2] at h2; cases h2
        rw [e2]; exact three k v g h1 hg hg'
      · rw [if_neg e2] at h2
        exact hdis k v k' v' g h1 h2 hg hg'
end
end Go.Proofs.Ytlmiimojgledpaa

namespace Go.Proofs.Ytlmiimojgledpaa
open Sh RowKit Go.MapKept
def joinR (ca cb : Nat) (b : List Row) (r : Row) : List Row := (b.filter fun s => decide (colV cb s = colV ca r)).map fun s => r ++ s
def joinL (ca cb : Nat) (a b : List Row) : List Row := a.flatMap (joinR ca cb b)
theorem joinR_len (ca cb : Nat) (b : List Row) (r : Row) : (joinR ca cb b r).length ≤ b.length := by
  unfold joinR; rw [List.length_map]; exact List.length_filter_le _ _
theorem joinL_take {ca cb : Nat} {a b : List Row} {i : Nat} (h : i < a.length) : joinL ca cb (a.take (i + 1)) b = joinL ca cb (a.take i) b ++ joinR ca cb b a[i] := by
  unfold joinL
  rw [List.take_succ_eq_append_getElem h, List.flatMap_append, List.flatMap_singleton]
theorem joinL_len {ca cb : Nat} {b : List Row} : ∀ a : List Row, (joinL ca cb a b).length ≤ a.length * b.length
  | [] => by simp [joinL]
  | r :: a => by
    have h1 := joinR_len ca cb b r
    have h2 := joinL_len (ca := ca) (cb := cb) (b := b) a
    unfold joinL at h2 ⊢
    rw [List.flatMap_cons, List.length_append, List.length_cons, Nat.add_mul]
    omega
theorem lit2 (x y : SV) (w : World) : (Instr.buildSlice 22 2 #[(0, slV x), (1, slV y)]).run Try.prog w = .ok (.slice (some ⟨w.heap.size, 0, none⟩) 2 2) (psh w (.cells #[slV x, slV y] 33)) := by
  kernel_rfl
section
variable {W w w' : World} {Q : Value → World → Prop}
theorem rd_two {x y : SV} {r s : Row} {g : Nat} (h : w.heap[g]? = some (.cells #[slV x, slV y] 33 (0, 0))) (hx : rdR w (slV x) r) (hy : rdR w (slV y) s) : rdL w (.slice (some ⟨g, 0, none⟩) 2 2) [r, s] := by
  refine .inr ⟨⟨g, 0, none⟩, 2, rfl, Nat.le_refl _, fun i hi => ?_⟩
  have hi2 : i < 2 := hi
  match i, hi2 with
  | 0, _ =>
    refine ⟨[slV x], rfl, fun j u hj => ?_, slV x, rfl, hx⟩
    match j, hj with
    | 0, hj => rw [Nat.zero_mul, add_zero', add_zero', cell_of_blk h]; simpa using hj
  | 1, _ =>
    refine ⟨[slV y], rfl, fun j u hj => ?_, slV y, rfl, hy⟩
    match j, hj with
    | 0, hj => rw [add_zero', Nat.one_mul, add_lit, Nat.zero_add, cell_of_blk h]; simpa using hj
theorem f10_in {V : World} {va vf rv : Value} {fs : List Row} {r : Row} {ca m0 i0 : Value} {la : Value} (hf : rdL V vf fs) (hr : rdR V rv r) (hN : r.length ≤ 1048576) (hNs : ∀ s ∈ fs, s.length ≤ 1048576) (out0 : List Row) (hlen : out0.length + fs.length ≤ 10000) (j5 : Value → Value → Value → Value → Value → Value → M) :
    ∀ (d m i : Nat) (w : World) (u : Value), i + d = fs.length → d < m → Below V.heap.size V w → OL V w u (out0 ++ (fs.take i).map fun s => r ++ s) →
    (∀ w' u', Below V.heap.size V w' → OL V w' u' (out0 ++ fs.map fun s => r ++ s) → j5 ca m0 u' va la i0 w' Q) →
    itr (fun _ _ _ _ _ _ _ _ _ _ => bot) (f10_b6 j5) m ca m0 u rv va la i0 vf (.int .i64 (fs.length : Nat)) (.int .i64 (i : Int)) w Q := by
  intro d
  induction d with
  | zero =>
    intro m i w u hi hm hb ho kk
    obtain ⟨m, rfl⟩ : ∃ x, m = x + 1 := ⟨m - 1, by omega⟩
    show f10_b6 j5 _ _ _ _ _ _ _ _ _ _ _ w Q
    unfold f10_b6
    have c : ¬ (i : Int) < (fs.length : Nat) := by omega
    simp only [↓reduceIte, ↓LL, LM, Value.cells, Nat.reduceAdd, Option.some.injEq, exists_eq_left', decide_true, decide_false, if_true, if_false, reduceCtorEq, cond_true, cond_false, c]
    rw [List.take_of_length_le (by omega)] at ho
    exact kk w u hb ho
  | succ d ih =>
    intro m i w u hi hm hb ho kk
    obtain ⟨m, rfl⟩ : ∃ x, m = x + 1 := ⟨m - 1, by omega⟩
    show f10_b6 j5 _ _ _ _ _ _ _ _ _ _ _ w Q
    unfold f10_b6
    have c : (i : Int) < (fs.length : Nat) := by omega
    have hil : i < fs.length := by omega
    obtain ⟨ad, sv, hs, hc, hia⟩ := row_at hf hil
    have cw := hc w hb
    have hsl := hNs _ (List.getElem_mem hil)
    obtain ⟨x, rfl⟩ := slV_of hr
    obtain ⟨y, rfl⟩ := slV_of hs
    have h3 : IntKind.i64.wrap ((i : Int) + 1) = ((i + 1 : Nat) : Int) := by rw [w64 (by omega) (by omega)]; rfl
    simp only [↓reduceIte, ↓LL, LM, Value.cells, Nat.reduceAdd, Option.some.injEq, exists_eq_left', decide_true, decide_false, if_true, if_false, reduceCtorEq, cond_true, cond_false, c, hia, cw]
    refine ⟨_, _, lit2 x y w, ?_⟩
    have b1 := b_psh w (.cells #[slV x, slV y] 33)
    have blk := blk_psh_new (w := w) (o := .cells #[slV x, slV y] 33)
    have hbv := bt hb b1
    have r2 := rd_two blk (rdR_b hbv hr) (rdR_b hbv hs)
    try simp only [↓reduceIte, ↓LL, LM, Value.cells, Nat.reduceAdd, Option.some.injEq, exists_eq_left', decide_true, decide_false, if_true, if_false, reduceCtorEq, cond_true, cond_false]
    refine f27_s r2 (by simp) (by simp [lenS]; omega) fun w2 z hb2 hz => ?_
    have b2 := bt hbv hb2
    have o2 := (ho.keep b1 hb.size).keep hb2 hbv.size
    have ez : [r, fs[i]].flatten = r ++ fs[i] := by simp
    rw [ez] at hz
    try simp only [↓reduceIte, ↓LL, LM, Value.cells, Nat.reduceAdd, Option.some.injEq, exists_eq_left', decide_true, decide_false, if_true, if_false, reduceCtorEq, cond_true, cond_false]
    refine ap_L o2 (r := r ++ fs[i]) (.inr ⟨ownE_weak hz.1 hbv.size, hz.2⟩) (ownE_lenv hz) b2 (by simp; omega) fun u' w3 o3 k3 => ?_
    have el : (out0 ++ (fs.take i).map fun s => r ++ s) ++ [r ++ fs[i]] = out0 ++ (fs.take (i + 1)).map fun s => r ++ s := by
      rw [List.take_succ_eq_append_getElem hil, List.map_append, List.append_assoc]; rfl
    rw [el] at o3
    simp only [↓reduceIte, ↓LL, LM, Value.cells, Nat.reduceAdd, Option.some.injEq, exists_eq_left', decide_true, decide_false, if_true, if_false, reduceCtorEq, cond_true, cond_false, h3]
    exact ih m (i + 1) w3 u' (by omega) (by omega) (b2.trans k3.b) o3 kk
theorem f10_out {V W : World} {va : Value} {a b : List Row} {m cb : Nat} {ca : Int} (ha : rdL V va a) (hby : BY W V m cb b) (hWV : Below W.heap.size W V) (hca : ∀ r ∈ a, 0 ≤ ca ∧ ca < r.length) (hla : a.length ≤ 80) (hlb : b.length ≤ 80) (hNa : ∀ s ∈ a, s.length ≤ 1048576) (hNb : ∀ s ∈ b, s.length ≤ 1048576) :
    ∀ (d n i : Nat) (w : World) (u : Value), i + d = a.length → d < n → Below V.heap.size V w → OL V w u (joinL ca.toNat cb (a.take i) b) →
    (∀ w' u', Below V.heap.size V w' → OL V w' u' (joinL ca.toNat cb a b) → Q (.tuple #[u', .int .i64 0]) w') →
    itr (fun _ _ _ _ _ _ => bot) (f10_b4 f10_j3) n (.int .i64 ca) (.map (some m)) u va (.int .i64 (a.length : Nat)) (.int .i64 (i : Int)) w Q := by
  intro d
  induction d with
  | zero =>
    intro n i w u hi hm hb ho kk
    obtain ⟨n, rfl⟩ : ∃ x, n = x + 1 := ⟨n - 1, by omega⟩
    show f10_b4 f10_j3 _ _ _ _ _ _ _ w Q
    unfold f10_b4
    have c : ¬ (i : Int) < (a.length : Nat) := by omega
    simp only [↓reduceIte, ↓LL, LM, Value.cells, Nat.reduceAdd, Option.some.injEq, exists_eq_left', decide_true, decide_false, if_true, if_false, reduceCtorEq, cond_true, cond_false, c]
    unfold f10_j3
    simp only [↓reduceIte, ↓LL, LM, Value.cells, Nat.reduceAdd, Option.some.injEq, exists_eq_left', decide_true, decide_false, if_true, if_false, reduceCtorEq, cond_true, cond_false]
    rw [List.take_of_length_le (by omega)] at ho
    exact kk w u hb ho
  | succ d ih =>
    intro n i w u hi hm hb ho kk
    obtain ⟨n, rfl⟩ : ∃ x, n = x + 1 := ⟨n - 1, by omega⟩
    show f10_b4 f10_j3 _ _ _ _ _ _ _ w Q
    unfold f10_b4
    have c : (i : Int) < (a.length : Nat) := by omega
    have hil : i < a.length := by omega
    obtain ⟨ad, rv, hr, hc, hia⟩ := row_at ha hil
    have cw := hc w hb
    have hmem := List.getElem_mem hil
    obtain ⟨hca0, hca1⟩ := hca _ hmem
    have hcr : ca.toNat < a[i].length := by omega
    obtain ⟨ad2, hok, hc2, hia3⟩ := val_at hr hcr
    have ec : ca = ((ca.toNat : Nat) : Int) := by omega
    have hia2 : ∀ (K : Value → M) (w' : World), ia 3 rv (.int .i64 ca) K w' Q = K (.pointer (some ad2)) w' Q := fun K w' => by rw [ec]; exact hia3 _ K w' Q
    clear ec
    generalize hcn : ca.toNat = cn at *
    have h3 : IntKind.i64.wrap ((i : Int) + 1) = ((i + 1 : Nat) : Int) := by rw [w64 (by omega) (by omega)]; rfl
    simp only [↓reduceIte, ↓LL, LM, Value.cells, Nat.reduceAdd, Option.some.injEq, exists_eq_left', decide_true, decide_false, if_true, if_false, reduceCtorEq, cond_true, cond_false, c, hia, cw, hia2]
    refine ldn_at (hc2 w hb) rfl ?_
    obtain ⟨L, hm0, hokL, hsome, hnone, _⟩ := hby.ex
    have hmw := hm0.below hb
    rw [← colV_get hcr] at hok ⊢
    refine Eq.mpr (look_vG (kv := valV) KG hmw hokL z22 (colV cn a[i]) hok) ?_
    obtain ⟨vf, hvf, hrf⟩ : ∃ vf, (lk L (colV cn a[i])).getD (.slice none 0 0) = vf ∧ rdL V vf (b.filter fun s => decide (colV cb s = colV cn a[i])) := by
      cases hlk : lk L (colV cn a[i]) with
      | none => exact ⟨_, rfl, by rw [hnone _ hlk]; exact .inl ⟨rfl, rfl⟩⟩
      | some v =>
        obtain ⟨sl, h1, h2⟩ := hsome _ v hlk
        exact ⟨_, rfl, own_rdL h1 h2 hWV⟩
    rw [hvf]
    have hjl := joinL_len (ca := cn) (cb := cb) (b := b) (a.take i)
    have hmul : (a.take i).length * b.length ≤ 80 * 80 := Nat.mul_le_mul (by rw [List.length_take]; omega) hlb
    have hfl := List.length_filter_le (fun s => decide (colV cb s = colV cn a[i])) b
    simp only [↓reduceIte, ↓LL, LM, Value.cells, Nat.reduceAdd, Option.some.injEq, exists_eq_left', decide_true, decide_false, if_true, if_false, reduceCtorEq, cond_true, cond_false, lnl_L hrf]
    refine ⟨_, f10_in (V := V) hrf hr (hNa _ hmem) (fun s hs => hNb s ((List.mem_filter.1 hs).1)) (joinL cn cb (a.take i) b) (by omega) _ (b.filter fun s => decide (colV cb s = colV cn a[i])).length ((b.filter fun s => decide (colV cb s = colV cn a[i])).length + 1) 0 w u (by omega) (by omega) hb (by simpa using ho) fun w1 u1 b1 o1 => ?_⟩
    unfold f10_j5
    simp only [↓reduceIte, ↓LL, LM, Value.cells, Nat.reduceAdd, Option.some.injEq, exists_eq_left', decide_true, decide_false, if_true, if_false, reduceCtorEq, cond_true, cond_false, h3]
    refine ih n (i + 1) w1 u1 (by omega) (by omega) b1 ?_ kk
    rw [joinL_take hil]
    exact o1
theorem f10_by {W : World} {va vb : Value} {b : List Row} {m : Nat} {cb : Int} {ca : Value} (hb' : rdL W vb b) (hcb : ∀ r ∈ b, 0 ≤ cb ∧ cb < r.length) (hlb : b.length ≤ 80) (j1 : Value → Value → Value → M) :
    ∀ (d n i : Nat) (w : World), i + d = b.length → d < n → Below W.heap.size W w → BY W w m cb.toNat (b.take i) →
    (∀ w', Below W.heap.size W w' → BY W w' m cb.toNat b → j1 va ca (.map (some m)) w' Q) →
    itr (fun _ _ _ _ _ _ _ => bot) (f10_b2 j1) n va ca (.int .i64 cb) (.map (some m)) vb (.int .i64 (b.length : Nat)) (.int .i64 (i : Int)) w Q := by
  intro d
  induction d with
  | zero =>
    intro n i w hi hm hb ho kk
    obtain ⟨n, rfl⟩ : ∃ x, n = x + 1 := ⟨n - 1, by omega⟩
    show f10_b2 j1 _ _ _ _ _ _ _ _ w Q
    unfold f10_b2
    have c : ¬ (i : Int) < (b.length : Nat) := by omega
    simp only [↓reduceIte, ↓LL, LM, Value.cells, Nat.reduceAdd, Option.some.injEq, exists_eq_left', decide_true, decide_false, if_true, if_false, reduceCtorEq, cond_true, cond_false, c]
    rw [List.take_of_length_le (by omega)] at ho
    exact kk w hb ho
  | succ d ih =>
    intro n i w hi hm hb ho kk
    obtain ⟨n, rfl⟩ : ∃ x, n = x + 1 := ⟨n - 1, by omega⟩
    show f10_b2 j1 _ _ _ _ _ _ _ _ w Q
    unfold f10_b2
    have c : (i : Int) < (b.length : Nat) := by omega
    have hil : i < b.length := by omega
    obtain ⟨ad, rv, hr, hc, hia⟩ := row_at hb' hil
    have cw := hc w hb
    obtain ⟨hcb0, hcb1⟩ := hcb _ (List.getElem_mem hil)
    have hcr : cb.toNat < b[i].length := by omega
    obtain ⟨ad2, hok, hc2, hia3⟩ := val_at hr hcr
    have ec : cb = ((cb.toNat : Nat) : Int) := by omega
    have hia2 : ∀ (K : Value → M) (w' : World), ia 3 rv (.int .i64 cb) K w' Q = K (.pointer (some ad2)) w' Q := fun K w' => by rw [ec]; exact hia3 _ K w' Q
    clear ec
    generalize hcn : cb.toNat = cn at *
    have h3 : IntKind.i64.wrap ((i : Int) + 1) = ((i + 1 : Nat) : Int) := by rw [w64 (by omega) (by omega)]; rfl
    simp only [↓reduceIte, ↓LL, LM, Value.cells, Nat.reduceAdd, Option.some.injEq, exists_eq_left', decide_true, decide_false, if_true, if_false, reduceCtorEq, cond_true, cond_false, c, hia, cw, hia2]
    refine ldn_at (hc2 w hb) rfl ?_
    rw [← colV_get hcr]
    refine by_step ho hr hcr hb (by rw [List.length_take]; omega) fun w1 ho1 hb1 => ?_
    simp only [↓reduceIte, ↓LL, LM, Value.cells, Nat.reduceAdd, Option.some.injEq, exists_eq_left', decide_true, decide_false, if_true, if_false, reduceCtorEq, cond_true, cond_false, h3]
    refine ih n (i + 1) w1 (by omega) (by omega) hb1 ?_ kk
    rw [List.take_succ_eq_append_getElem hil]
    exact ho1
theorem not_lacks {l : List Row} {c : Int} (h : l.any (lacksB c) = false) : ∀ r ∈ l, 0 ≤ c ∧ c < r.length := by
  intro r hr
  have := List.any_eq_false.1 h r hr
  unfold lacksB at this
  simp at this
  omega
theorem f10_s {va vb : Value} {a b : List Row} (ca cb : Int) (ha : rdL w va a) (hb : rdL w vb b) (hla : a.length ≤ 80) (hlb : b.length ≤ 80) (hNa : ∀ s ∈ a, s.length ≤ 1048576) (hNb : ∀ s ∈ b, s.length ≤ 1048576)
    (k7 : (a.any (lacksB ca) || b.any (lacksB cb)) = true → ∀ w', Below w.heap.size w w' → Q (.tuple #[.slice none 0 0, .int .i64 7]) w')
    (k0 : (∀ r ∈ a, 0 ≤ ca ∧ ca < r.length) → (∀ r ∈ b, 0 ≤ cb ∧ cb < r.length) → ∀ w' u, Below w.heap.size w w' → rdL w' u (joinL ca.toNat cb.toNat a b) → Q (.tuple #[u, .int .i64 0]) w') : f10 va vb (.int .i64 ca) (.int .i64 cb) w Q := by
  unfold f10
  simp only [↓reduceIte, ↓LL, LM, Value.cells, Nat.reduceAdd, Option.some.injEq, exists_eq_left', decide_true, decide_false, if_true, if_false, reduceCtorEq, cond_true, cond_false]
  refine f26_s ha (by omega) ca fun w1 hb1 => ?_
  by_cases c1 : a.any (lacksB ca) = true
  · simp only [↓reduceIte, ↓LL, LM, Value.cells, Nat.reduceAdd, Option.some.injEq, exists_eq_left', decide_true, decide_false, if_true, if_false, reduceCtorEq, cond_true, cond_false, c1]
    exact k7 (by rw [c1]; rfl) w1 hb1
  have c1f : a.any (lacksB ca) = false := Bool.eq_false_iff.2 c1
  simp only [↓reduceIte, ↓LL, LM, Value.cells, Nat.reduceAdd, Option.some.injEq, exists_eq_left', decide_true, decide_false, if_true, if_false, reduceCtorEq, cond_true, cond_false, c1f]
  refine f26_s (rdL_b hb1 hb) (by omega) cb fun w2 hb2 => ?_
  have b2 := bt hb1 hb2
  by_cases c2 : b.any (lacksB cb) = true
  · simp only [↓reduceIte, ↓LL, LM, Value.cells, Nat.reduceAdd, Option.some.injEq, exists_eq_left', decide_true, decide_false, if_true, if_false, reduceCtorEq, cond_true, cond_false, c2]
    exact k7 (by rw [c2]; simp) w2 b2
  have c2f : b.any (lacksB cb) = false := Bool.eq_false_iff.2 c2
  have n1 := not_lacks c1f
  have n2 := not_lacks c2f
  simp only [↓reduceIte, ↓LL, LM, Value.cells, Nat.reduceAdd, Option.some.injEq, exists_eq_left', decide_true, decide_false, if_true, if_false, reduceCtorEq, cond_true, cond_false, c2f]
  refine mm_map (kv := valV) fun w3 hm3 hb3 => ?_
  have b3 := bt b2 hb3
  have rb3 := rdL_b b3 hb
  have ra3 := rdL_b b3 ha
  simp only [↓reduceIte, ↓LL, LM, Value.cells, Nat.reduceAdd, Option.some.injEq, exists_eq_left', decide_true, decide_false, if_true, if_false, reduceCtorEq, cond_true, cond_false, lnl_L rb3]
  refine ⟨_, f10_by (W := w2) (m := w2.heap.size) (cb := cb) (ca := .int .i64 ca) (va := va) (rdL_b b2 hb) n2 hlb f10_j1 b.length (b.length + 1) 0 w3 (by omega) (by omega) hb3 ⟨Nat.le_refl _, [], hm3, by simp, by simp [lk], by simp, by simp [lk]⟩ fun w4 hb4 hby => ?_⟩
  have b4 := bt b2 hb4
  have ra4 := rdL_b b4 ha
  unfold f10_j1
  simp only [↓reduceIte, ↓LL, LM, Value.cells, Nat.reduceAdd, Option.some.injEq, exists_eq_left', decide_true, decide_false, if_true, if_false, reduceCtorEq, cond_true, cond_false, lnl_L ra4]
  refine ⟨_, f10_out (V := w4) (W := w2) ra4 hby hb4 n1 hla hlb hNa hNb a.length (a.length + 1) 0 w4 (.slice none 0 0) (by omega) (by omega) (Below.refl _ _) (by simpa [joinL] using OL_nil) fun w5 u b5 o5 => ?_⟩
  exact k0 n1 n2 w5 u (bt b4 b5) (o5.rd b5)
end
end Go.Proofs.Ytlmiimojgledpaa

namespace Go.Proofs.Ytlmiimojgledpaa
open Sh RowKit Go.MapKept
theorem lit33_1 (a : Val) (w : World) : (Instr.buildSlice 33 1 #[(0, .agg (encV a).toArray)]).run Try.prog w = .ok (.slice (some ⟨w.heap.size, 0, none⟩) 1 1) (psh w (.cells (encV a).toArray 31)) := by
  kernel_rfl
theorem lit33_2 (a b : Val) (w : World) : (Instr.buildSlice 33 2 #[(0, .agg (encV a).toArray), (1, .agg (encV b).toArray)]).run Try.prog w = .ok (.slice (some ⟨w.heap.size, 0, none⟩) 2 2) (psh w (.cells (encV a ++ encV b).toArray 31)) := by
  kernel_rfl
theorem okn {n : Int} (h0 : 0 ≤ n) (h1 : n ≤ 1000) : okV (numV n) := ⟨rfl, by unfold Lit.wf numV; simp [IntKind.min, IntKind.max, IntKind.signed, IntKind.bits]; omega, by show (0 : Nat) ≤ maxLen; omega⟩
section
variable {w : World} {Q : Value → World → Prop}
theorem rd_lit1 {g : Nat} {a : Val} (h : w.heap[g]? = some (.cells (encV a).toArray 31 (0, 0))) (hok : okV a) : rdR w (.slice (some ⟨g, 0, none⟩) 1 1) [a] :=
  ownR_rd (B := 0) ⟨⟨rfl, .inr ⟨g, 1, _, rfl, Nat.zero_le _, h, Nat.le_refl _, by unfold maxLen; omega, rfl, rfl⟩⟩, by simpa using hok⟩
theorem rd_lit2 {g : Nat} {a b : Val} (h : w.heap[g]? = some (.cells (encV a ++ encV b).toArray 31 (0, 0))) (hok : okV a) (hok2 : okV b) : rdR w (.slice (some ⟨g, 0, none⟩) 2 2) [a, b] :=
  ownR_rd (B := 0) ⟨⟨rfl, .inr ⟨g, 2, _, rfl, Nat.zero_le _, h, Nat.le_refl _, by unfold maxLen; omega, rfl, rfl⟩⟩, by
    intro x hx
    simp at hx
    rcases hx with rfl | rfl
    · exact hok
    · exact hok2⟩
theorem nv_eq {n m : Int} : numV n = numV m ↔ n = m := by simp [numV]
theorem f8_s (kk : ∀ w', Below w.heap.size w w' → Q (.bool true) w') : f8 w Q := by
  unfold f8
  simp only [↓reduceIte, ↓LL, LM, Value.cells, Nat.reduceAdd, Option.some.injEq, exists_eq_left', decide_true, decide_false, if_true, if_false, reduceCtorEq, cond_true, cond_false]
  refine f25_s fun w1 b1 => ?_
  refine ⟨_, _, lit33_1 _ w1, ?_⟩
  have c1 := b_psh w1 (.cells (encV (numV 1)).toArray 31)
  have r1 := rd_lit1 (blk_psh_new (w := w1) (o := .cells (encV (numV 1)).toArray 31)) (okn (by omega) (by omega))
  generalize psh w1 (.cells (encV (numV 1)).toArray 31) = w2 at *
  have b2 := bt b1 c1
  try simp only [↓reduceIte, ↓LL, LM, Value.cells, Nat.reduceAdd, Option.some.injEq, exists_eq_left', decide_true, decide_false, if_true, if_false, reduceCtorEq, cond_true, cond_false]
  refine f25_s fun w3 c3 => ?_
  have b3 := bt b2 c3
  refine ⟨_, _, lit33_1 _ w3, ?_⟩
  have c4 := b_psh w3 (.cells (encV (numV 2)).toArray 31)
  have r2 := rd_lit1 (blk_psh_new (w := w3) (o := .cells (encV (numV 2)).toArray 31)) (okn (by omega) (by omega))
  have r1 := rdR_b (bt c3 c4) r1
  generalize psh w3 (.cells (encV (numV 2)).toArray 31) = w4 at *
  have b4 := bt b3 c4
  try simp only [↓reduceIte, ↓LL, LM, Value.cells, Nat.reduceAdd, Option.some.injEq, exists_eq_left', decide_true, decide_false, if_true, if_false, reduceCtorEq, cond_true, cond_false]
  refine ⟨_, _, lit2 (some ⟨w1.heap.size, 0, none⟩, 1, 1) (some ⟨w3.heap.size, 0, none⟩, 1, 1) w4, ?_⟩
  have c5 := b_psh w4 (.cells #[slV (some ⟨w1.heap.size, 0, none⟩, 1, 1), slV (some ⟨w3.heap.size, 0, none⟩, 1, 1)] 33)
  have rA := rd_two (x := (some ⟨w1.heap.size, 0, none⟩, 1, 1)) (y := (some ⟨w3.heap.size, 0, none⟩, 1, 1)) (blk_psh_new (w := w4) (o := .cells #[slV (some ⟨w1.heap.size, 0, none⟩, 1, 1), slV (some ⟨w3.heap.size, 0, none⟩, 1, 1)] 33)) (rdR_b c5 r1) (rdR_b c5 r2)
  generalize psh w4 (.cells #[slV (some ⟨w1.heap.size, 0, none⟩, 1, 1), slV (some ⟨w3.heap.size, 0, none⟩, 1, 1)] 33) = w5 at *
  have b5 := bt b4 c5
  try simp only [↓reduceIte, ↓LL, LM, Value.cells, Nat.reduceAdd, Option.some.injEq, exists_eq_left', decide_true, decide_false, if_true, if_false, reduceCtorEq, cond_true, cond_false]
  refine f25_s fun w6 c6 => ?_
  try simp only [↓reduceIte, ↓LL, LM, Value.cells, Nat.reduceAdd, Option.some.injEq, exists_eq_left', decide_true, decide_false, if_true, if_false, reduceCtorEq, cond_true, cond_false]
  refine f25_s fun w7 c7 => ?_
  have d7 := bt c6 c7
  refine ⟨_, _, lit33_2 _ _ w7, ?_⟩
  have c8 := b_psh w7 (.cells (encV (numV 2) ++ encV (numV 7)).toArray 31)
  have r3 := rd_lit2 (blk_psh_new (w := w7) (o := .cells (encV (numV 2) ++ encV (numV 7)).toArray 31)) (okn (by omega) (by omega)) (okn (by omega) (by omega))
  generalize psh w7 (.cells (encV (numV 2) ++ encV (numV 7)).toArray 31) = w8 at *
  have d8 := bt d7 c8
  try simp only [↓reduceIte, ↓LL, LM, Value.cells, Nat.reduceAdd, Option.some.injEq, exists_eq_left', decide_true, decide_false, if_true, if_false, reduceCtorEq, cond_true, cond_false]
  refine f25_s fun w9 c9 => ?_
  try simp only [↓reduceIte, ↓LL, LM, Value.cells, Nat.reduceAdd, Option.some.injEq, exists_eq_left', decide_true, decide_false, if_true, if_false, reduceCtorEq, cond_true, cond_false]
  refine f25_s fun w10 c10 => ?_
  have c910 := bt c9 c10
  refine ⟨_, _, lit33_2 _ _ w10, ?_⟩
  have c11 := b_psh w10 (.cells (encV (numV 2) ++ encV (numV 8)).toArray 31)
  have r4 := rd_lit2 (blk_psh_new (w := w10) (o := .cells (encV (numV 2) ++ encV (numV 8)).toArray 31)) (okn (by omega) (by omega)) (okn (by omega) (by omega))
  have r3 := rdR_b (bt c910 c11) r3
  generalize psh w10 (.cells (encV (numV 2) ++ encV (numV 8)).toArray 31) = w11 at *
  have d11 := bt d8 (bt c910 c11)
  try simp only [↓reduceIte, ↓LL, LM, Value.cells, Nat.reduceAdd, Option.some.injEq, exists_eq_left', decide_true, decide_false, if_true, if_false, reduceCtorEq, cond_true, cond_false]
  refine ⟨_, _, lit2 (some ⟨w7.heap.size, 0, none⟩, 2, 2) (some ⟨w10.heap.size, 0, none⟩, 2, 2) w11, ?_⟩
  have c12 := b_psh w11 (.cells #[slV (some ⟨w7.heap.size, 0, none⟩, 2, 2), slV (some ⟨w10.heap.size, 0, none⟩, 2, 2)] 33)
  have rB := rd_two (x := (some ⟨w7.heap.size, 0, none⟩, 2, 2)) (y := (some ⟨w10.heap.size, 0, none⟩, 2, 2)) (blk_psh_new (w := w11) (o := .cells #[slV (some ⟨w7.heap.size, 0, none⟩, 2, 2), slV (some ⟨w10.heap.size, 0, none⟩, 2, 2)] 33)) (rdR_b c12 r3) (rdR_b c12 r4)
  generalize psh w11 (.cells #[slV (some ⟨w7.heap.size, 0, none⟩, 2, 2), slV (some ⟨w10.heap.size, 0, none⟩, 2, 2)] 33) = w12 at *
  have d12 := bt d11 c12
  have rA := rdL_b d12 rA
  have b12 := bt b5 d12
  try simp only [↓reduceIte, ↓LL, LM, Value.cells, Nat.reduceAdd, Option.some.injEq, exists_eq_left', decide_true, decide_false, if_true, if_false, reduceCtorEq, cond_true, cond_false]
  refine f10_s (a := [[numV 1], [numV 2]]) (b := [[numV 2, numV 7], [numV 2, numV 8]]) 0 0 rA rB (by simp) (by simp) (by simp) (by simp) (fun h => absurd h (by simp [lacksB])) (fun _ _ w13 u c13 ru => ?_)
  have b13 := bt b12 c13
  have ej : joinL (0 : Int).toNat (0 : Int).toNat [[numV 1], [numV 2]] [[numV 2, numV 7], [numV 2, numV 8]] = [[numV 2, numV 2, numV 7], [numV 2, numV 2, numV 8]] := by
    simp [joinL, joinR, colV, nv_eq, List.filter_cons]
  rw [ej] at ru
  have rd := rdL_b (w' := drw w13) ⟨rfl, rfl, rfl, Nat.le_refl _, fun _ _ => rfl⟩ ru
  have bd : Below w.heap.size w (drw w13) := b13.trans ⟨rfl, rfl, rfl, Nat.le_refl _, fun _ _ => rfl⟩
  have get0 : ∀ a b : Value, (#[a, b] : Array Value)[0]? = some a := fun _ _ => rfl
  have get1 : ∀ a b : Value, (#[a, b] : Array Value)[1]? = some b := fun _ _ => rfl
  obtain ⟨ad, rv, hr, hc, hia⟩ := row_at rd (i := 1) (by simp)
  have hcw := hc _ (Below.refl _ _)
  have hia' : ∀ (K : Value → M) (w' : World), ia 1 u (.int .i64 1) K w' Q = K (.pointer (some ad)) w' Q := fun K w' => hia .i64 K w' Q
  obtain ⟨ad2, _, hc2, hia2⟩ := val_at hr (i := 2) (by simp)
  have hia2' : ∀ (K : Value → M) (w' : World), ia 3 rv (.int .i64 2) K w' Q = K (.pointer (some ad2)) w' Q := fun K w' => hia2 .i64 K w' Q
  generalize hwd : drw w13 = wd at *
  have l2 : (([[numV 2, numV 2, numV 7], [numV 2, numV 2, numV 8]] : List Row).length : Int) = 2 := rfl
  have l3 : ((([[numV 2, numV 2, numV 7], [numV 2, numV 2, numV 8]] : List Row)[1].length : Nat) : Int) = 3 := rfl
  simp only [↓reduceIte, ↓LL, LM, Value.cells, Nat.reduceAdd, Option.some.injEq, exists_eq_left', decide_true, decide_false, if_true, if_false, reduceCtorEq, cond_true, cond_false, get0, get1, hwd, lnl_L rd, l2, hia', hcw, lnl_R hr, l3, hia2']
  refine ldn_at (hc2 _ (Below.refl _ _)) rfl ?_
  try simp only [↓reduceIte, ↓LL, LM, Value.cells, Nat.reduceAdd, Option.some.injEq, exists_eq_left', decide_true, decide_false, if_true, if_false, reduceCtorEq, cond_true, cond_false]
  refine f25_s fun w14 c14 => ?_
  try rw [kp_e]
  refine ⟨fun _ => by rw [Kldn_e]; exact ⟨rfl, fun j v hj => hc2 _ c14 j v (by simpa using hj)⟩, ?_⟩
  try rw [kp_e]
  refine ⟨fun _ => by rw [Kld_e]; exact hc _ c14, ?_⟩
  have b14 := bt bd c14
  have e8 : decide ((([[numV 2, numV 2, numV 7], [numV 2, numV 2, numV 8]] : List Row)[1])[2] = numV 8) = true := by simp
  try simp only [↓reduceIte, ↓LL, LM, Value.cells, Nat.reduceAdd, Option.some.injEq, exists_eq_left', decide_true, decide_false, if_true, if_false, reduceCtorEq, cond_true, cond_false]
  refine Eq.mpr (smr_run (eq31 _ _ w14)) ?_
  rw [e8]
  try simp only [↓reduceIte, ↓LL, LM, Value.cells, Nat.reduceAdd, Option.some.injEq, exists_eq_left', decide_true, decide_false, if_true, if_false, reduceCtorEq, cond_true, cond_false]
  refine f25_s fun w15 c15 => ?_
  have b15 := bt b14 c15
  have one : ∀ (wz : World), Below wz.heap.size wz (psh wz (.cells (encV (numV 1)).toArray 31)) ∧ rdR (psh wz (.cells (encV (numV 1)).toArray 31)) (slV (some ⟨wz.heap.size, 0, none⟩, 1, 1)) [numV 1] :=
    fun wz => ⟨b_psh _ _, rd_lit1 (blk_psh_new (w := wz) (o := .cells (encV (numV 1)).toArray 31)) (okn (by omega) (by omega))⟩
  constructor
  · try simp only [↓reduceIte, ↓LL, LM, Value.cells, Nat.reduceAdd, Option.some.injEq, exists_eq_left', decide_true, decide_false, if_true, if_false, reduceCtorEq, cond_true, cond_false]
    refine ⟨_, _, lit33_1 _ w15, ?_⟩
    obtain ⟨m1, q1⟩ := one w15
    generalize psh w15 (.cells (encV (numV 1)).toArray 31) = w16 at *
    try simp only [↓reduceIte, ↓LL, LM, Value.cells, Nat.reduceAdd, Option.some.injEq, exists_eq_left', decide_true, decide_false, if_true, if_false, reduceCtorEq, cond_true, cond_false]
    refine f25_s fun w17 c17 => ?_
    refine ⟨_, _, lit33_1 _ w17, ?_⟩
    obtain ⟨m2, q2⟩ := one w17
    generalize psh w17 (.cells (encV (numV 1)).toArray 31) = w18 at *
    try simp only [↓reduceIte, ↓LL, LM, Value.cells, Nat.reduceAdd, Option.some.injEq, exists_eq_left', decide_true, decide_false, if_true, if_false, reduceCtorEq, cond_true, cond_false]
    refine ⟨_, _, lit2 (some ⟨w15.heap.size, 0, none⟩, 1, 1) (some ⟨w17.heap.size, 0, none⟩, 1, 1) w18, ?_⟩
    have e1 := b_psh w18 (.cells #[slV (some ⟨w15.heap.size, 0, none⟩, 1, 1), slV (some ⟨w17.heap.size, 0, none⟩, 1, 1)] 33)
    have rz := rd_two (blk_psh_new (w := w18) (o := .cells #[slV (some ⟨w15.heap.size, 0, none⟩, 1, 1), slV (some ⟨w17.heap.size, 0, none⟩, 1, 1)] 33)) (rdR_b e1 (rdR_b (bt c17 m2) q1)) (rdR_b e1 q2)
    try simp only [↓reduceIte, ↓LL, LM, Value.cells, Nat.reduceAdd, Option.some.injEq, exists_eq_left', decide_true, decide_false, if_true, if_false, reduceCtorEq, cond_true, cond_false]
    refine f14_s rz (by simp) (by simp) fun wo u' ho hol => ?_
    have eo : once [] [[numV 1], [numV 1]] = [[numV 1]] := by simp [once]
    rw [eo] at hol
    try simp only [↓reduceIte, ↓LL, LM, Value.cells, Nat.reduceAdd, Option.some.injEq, exists_eq_left', decide_true, decide_false, if_true, if_false, reduceCtorEq, cond_true, cond_false, lnl_L (hol.rd ho), List.length_cons, List.length_nil]
    exact kk wo (bt (bt (bt (bt (bt b15 m1) c17) m2) e1) ho)
  · try simp only [↓reduceIte, ↓LL, LM, Value.cells, Nat.reduceAdd, Option.some.injEq, exists_eq_left', decide_true, decide_false, if_true, if_false, reduceCtorEq, cond_true, cond_false]
    refine f25_s fun w16 c16 => ?_
    have b16 := bt b15 c16
    constructor
    · try simp only [↓reduceIte, ↓LL, LM, Value.cells, Nat.reduceAdd, Option.some.injEq, exists_eq_left', decide_true, decide_false, if_true, if_false, reduceCtorEq, cond_true, cond_false]
      refine ⟨_, _, lit33_1 _ w16, ?_⟩
      obtain ⟨m1, q1⟩ := one w16
      generalize psh w16 (.cells (encV (numV 1)).toArray 31) = w17 at *
      try simp only [↓reduceIte, ↓LL, LM, Value.cells, Nat.reduceAdd, Option.some.injEq, exists_eq_left', decide_true, decide_false, if_true, if_false, reduceCtorEq, cond_true, cond_false]
      refine ⟨_, _, lit33_1 _ w17, ?_⟩
      obtain ⟨m2, q2⟩ := one w17
      generalize psh w17 (.cells (encV (numV 1)).toArray 31) = w18 at *
      try simp only [↓reduceIte, ↓LL, LM, Value.cells, Nat.reduceAdd, Option.some.injEq, exists_eq_left', decide_true, decide_false, if_true, if_false, reduceCtorEq, cond_true, cond_false]
      refine ⟨_, _, lit2 (some ⟨w16.heap.size, 0, none⟩, 1, 1) (some ⟨w17.heap.size, 0, none⟩, 1, 1) w18, ?_⟩
      have e1 := b_psh w18 (.cells #[slV (some ⟨w16.heap.size, 0, none⟩, 1, 1), slV (some ⟨w17.heap.size, 0, none⟩, 1, 1)] 33)
      have rz := rd_two (blk_psh_new (w := w18) (o := .cells #[slV (some ⟨w16.heap.size, 0, none⟩, 1, 1), slV (some ⟨w17.heap.size, 0, none⟩, 1, 1)] 33)) (rdR_b e1 (rdR_b m2 q1)) (rdR_b e1 q2)
      try simp only [↓reduceIte, ↓LL, LM, Value.cells, Nat.reduceAdd, Option.some.injEq, exists_eq_left', decide_true, decide_false, if_true, if_false, reduceCtorEq, cond_true, cond_false]
      refine f14_s rz (by simp) (by simp) fun wo u' ho hol => ?_
      have eo : once [] [[numV 1], [numV 1]] = [[numV 1]] := by simp [once]
      rw [eo] at hol
      try simp only [↓reduceIte, ↓LL, LM, Value.cells, Nat.reduceAdd, Option.some.injEq, exists_eq_left', decide_true, decide_false, if_true, if_false, reduceCtorEq, cond_true, cond_false, lnl_L (hol.rd ho), List.length_cons, List.length_nil]
      exact kk wo (bt (bt (bt (bt b16 m1) m2) e1) ho)
    · try simp only [↓reduceIte, ↓LL, LM, Value.cells, Nat.reduceAdd, Option.some.injEq, exists_eq_left', decide_true, decide_false, if_true, if_false, reduceCtorEq, cond_true, cond_false]
      refine ⟨_, _, lit33_1 _ w16, ?_⟩
      obtain ⟨m1, q1⟩ := one w16
      generalize psh w16 (.cells (encV (numV 1)).toArray 31) = w17 at *
      try simp only [↓reduceIte, ↓LL, LM, Value.cells, Nat.reduceAdd, Option.some.injEq, exists_eq_left', decide_true, decide_false, if_true, if_false, reduceCtorEq, cond_true, cond_false]
      refine ⟨_, _, lit33_1 _ w17, ?_⟩
      obtain ⟨m2, q2⟩ := one w17
      generalize psh w17 (.cells (encV (numV 1)).toArray 31) = w18 at *
      try simp only [↓reduceIte, ↓LL, LM, Value.cells, Nat.reduceAdd, Option.some.injEq, exists_eq_left', decide_true, decide_false, if_true, if_false, reduceCtorEq, cond_true, cond_false]
      refine ⟨_, _, lit2 (some ⟨w17.heap.size, 0, none⟩, 1, 1) (some ⟨w16.heap.size, 0, none⟩, 1, 1) w18, ?_⟩
      have e1 := b_psh w18 (.cells #[slV (some ⟨w17.heap.size, 0, none⟩, 1, 1), slV (some ⟨w16.heap.size, 0, none⟩, 1, 1)] 33)
      have rz := rd_two (blk_psh_new (w := w18) (o := .cells #[slV (some ⟨w17.heap.size, 0, none⟩, 1, 1), slV (some ⟨w16.heap.size, 0, none⟩, 1, 1)] 33)) (rdR_b e1 q2) (rdR_b e1 (rdR_b m2 q1))
      try simp only [↓reduceIte, ↓LL, LM, Value.cells, Nat.reduceAdd, Option.some.injEq, exists_eq_left', decide_true, decide_false, if_true, if_false, reduceCtorEq, cond_true, cond_false]
      refine f14_s rz (by simp) (by simp) fun wo u' ho hol => ?_
      have eo : once [] [[numV 1], [numV 1]] = [[numV 1]] := by simp [once]
      rw [eo] at hol
      try simp only [↓reduceIte, ↓LL, LM, Value.cells, Nat.reduceAdd, Option.some.injEq, exists_eq_left', decide_true, decide_false, if_true, if_false, reduceCtorEq, cond_true, cond_false, lnl_L (hol.rd ho), List.length_cons, List.length_nil]
      exact kk wo (bt (bt (bt (bt b16 m1) m2) e1) ho)
end
end Go.Proofs.Ytlmiimojgledpaa

set_option maxRecDepth 20000
namespace Go.Proofs.Ytlmiimojgledpaa
open Sh RowKit Go.MapKept
section
variable {W w w' : World} {Q : Value → World → Prop}
theorem val_col {v : Value} {r : Row} (h : rdR W v r) {c : Int} (hc : 0 ≤ c ∧ c < r.length) : ∃ ad : Addr, (∀ w, Below W.heap.size W w → cellsAt w ad (encV (colV c.toNat r))) ∧ ∀ (K : Value → M) (w' : World) (Q : Value → World → Prop), ia 3 v (.int .i64 c) K w' Q = K (.pointer (some ad)) w' Q := by
  have hn : c.toNat < r.length := by omega
  obtain ⟨ad, _, h1, h2⟩ := val_at h hn
  refine ⟨ad, fun w hb => by rw [colV_get hn]; exact h1 w hb, fun K w' Q => ?_⟩
  have e : c = ((c.toNat : Nat) : Int) := by omega
  rw [e]; exact h2 _ K w' Q
theorem iaa0 {g : Nat} {K : Value → M} : iaa 2 1 (.pointer (some ⟨g, 0, none⟩)) (.int .i64 0) K w Q = K (.pointer (some ⟨g, 0, none⟩)) w Q := by
  apply propext
  constructor
  · rintro ⟨a, k, j, h1, h2, h3, h4, h5⟩
    cases h1; cases h2
    exact h5
  · intro h
    exact ⟨_, _, _, rfl, rfl, by omega, by omega, h⟩
theorem iaa1 {g : Nat} {K : Value → M} : iaa 2 1 (.pointer (some ⟨g, 0, none⟩)) (.int .i64 1) K w Q = K (.pointer (some ⟨g, 1, none⟩)) w Q := by
  apply propext
  constructor
  · rintro ⟨a, k, j, h1, h2, h3, h4, h5⟩
    cases h1; cases h2
    exact h5
  · intro h
    exact ⟨_, _, _, rfl, rfl, by omega, by omega, h⟩
theorem joinR_take {ca cb : Nat} {b : List Row} {r : Row} {k : Nat} (h : k < b.length) : joinR ca cb (b.take (k + 1)) r = joinR ca cb (b.take k) r ++ (if colV cb b[k] = colV ca r then [r ++ b[k]] else []) := by
  unfold joinR
  rw [List.take_succ_eq_append_getElem h, List.filter_append, List.map_append]
  congr 1
  by_cases c : colV cb b[k] = colV ca r <;> simp [c]
theorem join_at {ca cb : Nat} {a b : List Row} {i k : Nat} (hi : i < a.length) (hk : k < b.length) (hm : colV cb b[k] = colV ca a[i]) :
    (joinL ca cb a b)[(joinL ca cb (a.take i) b).length + (joinR ca cb (b.take k) a[i]).length]? = some (a[i] ++ b[k]) := by
  have h1 : joinL ca cb a b = joinL ca cb (a.take (i + 1)) b ++ joinL ca cb (a.drop (i + 1)) b := by
    unfold joinL; rw [← List.flatMap_append, List.take_append_drop]
  have h2 : joinR ca cb b a[i] = joinR ca cb (b.take (k + 1)) a[i] ++ joinR ca cb (b.drop (k + 1)) a[i] := by
    unfold joinR; rw [← List.map_append, ← List.filter_append, List.take_append_drop]
  rw [h1, joinL_take hi, h2, joinR_take hk, if_pos hm, List.append_assoc, List.append_assoc, List.append_assoc, List.getElem?_append_right (by omega), Nat.add_sub_cancel_left, List.getElem?_append_right (by omega), Nat.sub_self]
  rfl
theorem f3_in {V : World} {va vb vl : Value} {a b : List Row} {ca cb : Int} {g : Nat} (ha : rdL V va a) (hb : rdL V vb b) (hl : rdL V vl (joinL ca.toNat cb.toNat a b)) (hca : ∀ r ∈ a, 0 ≤ ca ∧ ca < r.length) (hcb : ∀ r ∈ b, 0 ≤ cb ∧ cb < r.length)
    (hat : ∀ w, Below V.heap.size V w → w.cell? ⟨g, 0, none⟩ = some (.int .i64 ca) ∧ w.cell? ⟨g, 1, none⟩ = some (.int .i64 cb)) (hla : a.length ≤ 80) (hlb : b.length ≤ 80) (hNa : ∀ s ∈ a, s.length ≤ 1048576) (hNb : ∀ s ∈ b, s.length ≤ 1048576) {i : Nat} (hi : i < a.length)
    (j3 : Value → Value → Value → Value → Value → Value → M) : ∀ (d m k : Nat) (w : World), k + d = b.length → d < m → Below V.heap.size V w →
    (∀ w', Below V.heap.size V w' → j3 va vb (.pointer (some ⟨g, 0, none⟩)) vl (.int .i64 ((joinL ca.toNat cb.toNat (a.take (i + 1)) b).length : Nat)) (.int .i64 (i : Int)) w' Q) →
    itr (fun _ _ _ _ _ _ _ => bot) (f3_b4 j3) m va vb (.pointer (some ⟨g, 0, none⟩)) vl (.int .i64 (((joinL ca.toNat cb.toNat (a.take i) b).length + (joinR ca.toNat cb.toNat (b.take k) a[i]).length : Nat) : Int)) (.int .i64 (i : Int)) (.int .i64 (k : Int)) w Q := by
  intro d
  induction d with
  | zero =>
    intro m k w hk hm hbw kk
    obtain ⟨m, rfl⟩ : ∃ x, m = x + 1 := ⟨m - 1, by omega⟩
    show f3_b4 j3 _ _ _ _ _ _ _ _ w Q
    unfold f3_b4
    have c : ¬ (k : Int) < (b.length : Nat) := by omega
    try simp only [↓reduceIte, ↓LL, LM, Value.cells, Nat.reduceAdd, Option.some.injEq, exists_eq_left', decide_true, decide_false, if_true, if_false, reduceCtorEq, cond_true, cond_false, lnl_L hb, c]
    have := kk w hbw
    rw [joinL_take hi, List.length_append] at this
    have eb : b.take k = b := List.take_of_length_le (by omega)
    rw [eb]
    exact this
  | succ d ih =>
    intro m k w hk hm hbw kk
    obtain ⟨m, rfl⟩ : ∃ x, m = x + 1 := ⟨m - 1, by omega⟩
    show f3_b4 j3 _ _ _ _ _ _ _ _ w Q
    unfold f3_b4
    have c : (k : Int) < (b.length : Nat) := by omega
    have hkb : k < b.length := by omega
    have hbd : Below V.heap.size V (drw w) := hbw.trans ⟨rfl, rfl, rfl, Nat.le_refl _, fun _ _ => rfl⟩
    obtain ⟨ada, rva, hra, hc1, hia1⟩ := row_at ha hi
    obtain ⟨adb, rvb, hrb, hc2, hia2⟩ := row_at hb hkb
    obtain ⟨da, hda, hiaa⟩ := val_col hra (hca _ (List.getElem_mem hi))
    obtain ⟨db, hdb, hiab⟩ := val_col hrb (hcb _ (List.getElem_mem hkb))
    have k1 := hc1 _ hbd
    have k2 := hc2 _ hbd
    obtain ⟨q1, q2⟩ := hat _ hbd
    have h3 : IntKind.i64.wrap ((k : Int) + 1) = ((k + 1 : Nat) : Int) := by rw [w64 (by omega) (by omega)]; rfl
    have hna := hNa _ (List.getElem_mem hi)
    have hnb := hNb _ (List.getElem_mem hkb)
    have hjt := joinR_take (ca := ca.toNat) (cb := cb.toNat) (r := a[i]) hkb
    have hlen1 := joinL_len (ca := ca.toNat) (cb := cb.toNat) (b := b) (a.take i)
    have hlen2 := joinR_len ca.toNat cb.toNat (b.take k) a[i]
    have hmul : (a.take i).length * b.length ≤ 80 * 80 := Nat.mul_le_mul (by rw [List.length_take]; omega) hlb
    have hbk : (b.take k).length ≤ 80 := by rw [List.length_take]; omega
    try simp only [↓reduceIte, ↓LL, LM, Value.cells, Nat.reduceAdd, Option.some.injEq, exists_eq_left', decide_true, decide_false, if_true, if_false, reduceCtorEq, cond_true, cond_false, lnl_L hb, c, hia1, k1, iaa0, q1, hiaa]
    refine ldn_at (hda _ hbd) rfl ?_
    try simp only [↓reduceIte, ↓LL, LM, Value.cells, Nat.reduceAdd, Option.some.injEq, exists_eq_left', decide_true, decide_false, if_true, if_false, reduceCtorEq, cond_true, cond_false, hia2, k2, iaa1, q2, hiab]
    refine ldn_at (hdb _ hbd) rfl ?_
    try simp only [↓reduceIte, ↓LL, LM, Value.cells, Nat.reduceAdd, Option.some.injEq, exists_eq_left', decide_true, decide_false, if_true, if_false, reduceCtorEq, cond_true, cond_false]
    refine Eq.mpr (smr_run (eq31 _ _ (drw w))) ?_
    have tail : ∀ w2, Below V.heap.size V w2 → ∀ n : Nat, n = (joinL ca.toNat cb.toNat (a.take i) b).length + (joinR ca.toNat cb.toNat (b.take (k + 1)) a[i]).length →
        f3_j5 (itr (fun _ _ _ _ _ _ _ => bot) (f3_b4 j3) m) va vb (.pointer (some ⟨g, 0, none⟩)) vl (.int .i64 (n : Int)) (.int .i64 (i : Int)) (.int .i64 (k : Int)) w2 Q := by
      intro w2 hb2 n hn
      subst hn
      unfold f3_j5
      try simp only [↓reduceIte, ↓LL, LM, Value.cells, Nat.reduceAdd, Option.some.injEq, exists_eq_left', decide_true, decide_false, if_true, if_false, reduceCtorEq, cond_true, cond_false, h3]
      exact ih m (k + 1) w2 (by omega) (by omega) hb2 kk
    by_cases hm' : colV ca.toNat a[i] = colV cb.toNat b[k]
    · rw [if_pos hm'.symm] at hjt
      have hat2 := join_at (ca := ca.toNat) (cb := cb.toNat) hi hkb hm'.symm
      generalize hn : (joinL ca.toNat cb.toNat (a.take i) b).length + (joinR ca.toNat cb.toNat (b.take k) a[i]).length = n at *
      obtain ⟨hnl, hln⟩ := List.getElem?_eq_some_iff.1 hat2
      obtain ⟨adl, rvl, hrl, hc3, hia3⟩ := row_at hl hnl
      rw [hln] at hrl
      have hbdd : Below V.heap.size V (drw (drw w)) := hbd.trans ⟨rfl, rfl, rfl, Nat.le_refl _, fun _ _ => rfl⟩
      have k1' := hc1 _ hbdd
      have k2' := hc2 _ hbdd
      have k3' := hc3 _ hbdd
      have hlt : ¬ (((joinL ca.toNat cb.toNat a b).length : Nat) : Int) ≤ (n : Int) := by omega
      have hsum : IntKind.i64.wrap (((a[i].length : Nat) : Int) + (b[k].length : Nat)) = (((a[i] ++ b[k]).length : Nat) : Int) := by rw [w64 (by omega) (by omega), List.length_append]; omega
      try simp only [↓reduceIte, ↓LL, LM, Value.cells, Nat.reduceAdd, Option.some.injEq, exists_eq_left', decide_true, decide_false, if_true, if_false, reduceCtorEq, cond_true, cond_false, decide_eq_true hm', lnl_L hl, hlt, hia3, k3', lnl_R hrl, hia1, k1', lnl_R hra, hia2, k2', lnl_R hrb, hsum, ne_eq]
      refine sll_S (rdR_b hbdd hrl) (by rw [List.length_append]; omega) fun v1 hv1 => ?_
      rw [List.take_left] at hv1
      try simp only [↓reduceIte, ↓LL, LM, Value.cells, Nat.reduceAdd, Option.some.injEq, exists_eq_left', decide_true, decide_false, if_true, if_false, reduceCtorEq, cond_true, cond_false, hia1, k1']
      refine f11_s hv1 (rdR_b hbdd hra) (by omega) fun w3 hb3 => ?_
      have b3 := bt hbdd hb3
      have k1'' := hc1 _ b3
      have k2'' := hc2 _ b3
      have k3'' := hc3 _ b3
      try simp only [↓reduceIte, ↓LL, LM, Value.cells, Nat.reduceAdd, Option.some.injEq, exists_eq_left', decide_true, decide_false, if_true, if_false, reduceCtorEq, cond_true, cond_false, hia3, k3'', hia1, k1'', lnl_R hra]
      refine sll_drop (rdR_b b3 hrl) (by rw [List.length_append]; omega) fun v2 hv2 _ _ => ?_
      rw [List.drop_left] at hv2
      try simp only [↓reduceIte, ↓LL, LM, Value.cells, Nat.reduceAdd, Option.some.injEq, exists_eq_left', decide_true, decide_false, if_true, if_false, reduceCtorEq, cond_true, cond_false, hia2, k2'']
      refine f11_s hv2 (rdR_b b3 hrb) (by omega) fun w4 hb4 => ?_
      have h4 : IntKind.i64.wrap ((n : Int) + 1) = ((n + 1 : Nat) : Int) := by rw [w64 (by omega) (by omega)]; rfl
      try simp only [↓reduceIte, ↓LL, LM, Value.cells, Nat.reduceAdd, Option.some.injEq, exists_eq_left', decide_true, decide_false, if_true, if_false, reduceCtorEq, cond_true, cond_false, h4]
      refine tail w4 (bt b3 hb4) (n + 1) ?_
      rw [hjt, List.length_append, ← hn]
      simp; omega
    · rw [if_neg (fun e => hm' e.symm), List.append_nil] at hjt
      try simp only [↓reduceIte, ↓LL, LM, Value.cells, Nat.reduceAdd, Option.some.injEq, exists_eq_left', decide_true, decide_false, if_true, if_false, reduceCtorEq, cond_true, cond_false, decide_eq_false hm']
      exact tail (drw w) hbd _ (by rw [hjt])
end
end Go.Proofs.Ytlmiimojgledpaa

set_option maxRecDepth 20000
namespace Go.Proofs.Ytlmiimojgledpaa
open Sh RowKit Go.MapKept
section
variable {W w w' : World} {Q : Value → World → Prop}
theorem f3_out {V : World} {va vb vl : Value} {a b : List Row} {ca cb : Int} {g : Nat} (ha : rdL V va a) (hb : rdL V vb b) (hl : rdL V vl (joinL ca.toNat cb.toNat a b)) (hca : ∀ r ∈ a, 0 ≤ ca ∧ ca < r.length) (hcb : ∀ r ∈ b, 0 ≤ cb ∧ cb < r.length)
    (hat : ∀ w, Below V.heap.size V w → w.cell? ⟨g, 0, none⟩ = some (.int .i64 ca) ∧ w.cell? ⟨g, 1, none⟩ = some (.int .i64 cb)) (hla : a.length ≤ 80) (hlb : b.length ≤ 80) (hNa : ∀ s ∈ a, s.length ≤ 1048576) (hNb : ∀ s ∈ b, s.length ≤ 1048576) :
    ∀ (d m i : Nat) (w : World), i + d = a.length → d < m → Below V.heap.size V w →
    (∀ w', Below V.heap.size V w' → Q (.bool true) w') →
    itr (fun _ _ _ _ _ _ => bot) (f3_b2 f3_j1) m va vb (.pointer (some ⟨g, 0, none⟩)) vl (.int .i64 ((joinL ca.toNat cb.toNat (a.take i) b).length : Nat)) (.int .i64 (i : Int)) w Q := by
  intro d
  induction d with
  | zero =>
    intro m i w hi hm hbw kk
    obtain ⟨m, rfl⟩ : ∃ x, m = x + 1 := ⟨m - 1, by omega⟩
    show f3_b2 f3_j1 _ _ _ _ _ _ _ w Q
    unfold f3_b2
    have c : ¬ (i : Int) < (a.length : Nat) := by omega
    try simp only [↓reduceIte, ↓LL, LM, Value.cells, Nat.reduceAdd, Option.some.injEq, exists_eq_left', decide_true, decide_false, if_true, if_false, reduceCtorEq, cond_true, cond_false, lnl_L ha, c]
    unfold f3_j1
    have ea : a.take i = a := List.take_of_length_le (by omega)
    rw [ea]
    try simp only [↓reduceIte, ↓LL, LM, Value.cells, Nat.reduceAdd, Option.some.injEq, exists_eq_left', decide_true, decide_false, if_true, if_false, reduceCtorEq, cond_true, cond_false, lnl_L hl]
    exact kk w hbw
  | succ d ih =>
    intro m i w hi hm hbw kk
    obtain ⟨m, rfl⟩ : ∃ x, m = x + 1 := ⟨m - 1, by omega⟩
    show f3_b2 f3_j1 _ _ _ _ _ _ _ w Q
    unfold f3_b2
    have c : (i : Int) < (a.length : Nat) := by omega
    have hia : i < a.length := by omega
    have h3 : IntKind.i64.wrap ((i : Int) + 1) = ((i + 1 : Nat) : Int) := by rw [w64 (by omega) (by omega)]; rfl
    try simp only [↓reduceIte, ↓LL, LM, Value.cells, Nat.reduceAdd, Option.some.injEq, exists_eq_left', decide_true, decide_false, if_true, if_false, reduceCtorEq, cond_true, cond_false, lnl_L ha, c]
    refine ⟨b.length + 1, ?_⟩
    have := f3_in (Q := Q) ha hb hl hca hcb hat hla hlb hNa hNb hia (f3_j3 (itr (fun _ _ _ _ _ _ => bot) (f3_b2 f3_j1) m)) b.length (b.length + 1) 0 w (by omega) (by omega) hbw fun w' hb' => ?_
    · have e0 : (joinR ca.toNat cb.toNat (b.take 0) a[i]).length = 0 := by simp [joinR]
      rw [e0, Nat.add_zero] at this
      exact this
    · unfold f3_j3
      try simp only [↓reduceIte, ↓LL, LM, Value.cells, Nat.reduceAdd, Option.some.injEq, exists_eq_left', decide_true, decide_false, if_true, if_false, reduceCtorEq, cond_true, cond_false, h3]
      exact ih m (i + 1) w' (by omega) (by omega) hb' kk
theorem f3_s {va vb : Value} {a b : List Row} {ca cb : Int} (ha : rdL w va a) (hb : rdL w vb b) (hNa : ∀ s ∈ a, s.length ≤ 1048576) (hNb : ∀ s ∈ b, s.length ≤ 1048576) (kk : ∀ w', Below w.heap.size w w' → Q (.bool true) w') :
    f3 va vb (.agg #[.int .i64 ca, .int .i64 cb]) w Q := by
  unfold f3
  have b1 := b_psh w (.cells (Value.agg #[.int .i64 ca, .int .i64 cb]).cells 23)
  have blk := blk_psh_new (w := w) (o := .cells (Value.agg #[.int .i64 ca, .int .i64 cb]).cells 23)
  rw [bx_e]
  generalize psh w (.cells (Value.agg #[.int .i64 ca, .int .i64 cb]).cells 23) = w1 at *
  try simp only [↓reduceIte, ↓LL, LM, Value.cells, Nat.reduceAdd, Option.some.injEq, exists_eq_left', decide_true, decide_false, if_true, if_false, reduceCtorEq, cond_true, cond_false]
  refine f8_s fun w2 c2 => ?_
  have b2 := bt b1 c2
  have blk2 := stay c2 blk
  try simp only [↓reduceIte, ↓LL, LM, Value.cells, Nat.reduceAdd, Option.some.injEq, exists_eq_left', decide_true, decide_false, if_true, if_false, reduceCtorEq, cond_true, cond_false]
  refine f9_s (rdL_b b2 ha) fun va' ha' => ?_
  try simp only [↓reduceIte, ↓LL, LM, Value.cells, Nat.reduceAdd, Option.some.injEq, exists_eq_left', decide_true, decide_false, if_true, if_false, reduceCtorEq, cond_true, cond_false]
  refine f9_s (rdL_b b2 hb) fun vb' hb' => ?_
  have hla : (a.take 80).length ≤ 80 := by rw [List.length_take]; omega
  have hlb : (b.take 80).length ≤ 80 := by rw [List.length_take]; omega
  have hNa' : ∀ s ∈ a.take 80, s.length ≤ 1048576 := fun s hs => hNa s (List.mem_of_mem_take hs)
  have hNb' : ∀ s ∈ b.take 80, s.length ≤ 1048576 := fun s hs => hNb s (List.mem_of_mem_take hs)
  generalize a.take 80 = a' at *
  generalize b.take 80 = b' at *
  have hat : ∀ w', Below w2.heap.size w2 w' → w'.cell? ⟨w.heap.size, 0, none⟩ = some (.int .i64 ca) ∧ w'.cell? ⟨w.heap.size, 1, none⟩ = some (.int .i64 cb) := by
    intro w' hb'
    have := stay hb' blk2
    constructor <;> (rw [cell_of_blk this]; rfl)
  obtain ⟨q1, q2⟩ := hat w2 (Below.refl _ _)
  try simp only [↓reduceIte, ↓LL, LM, Value.cells, Nat.reduceAdd, Option.some.injEq, exists_eq_left', decide_true, decide_false, if_true, if_false, reduceCtorEq, cond_true, cond_false, iaa0, iaa1, q1, q2]
  have get0 : ∀ x y : Value, (#[x, y] : Array Value)[0]? = some x := fun _ _ => rfl
  have get1 : ∀ x y : Value, (#[x, y] : Array Value)[1]? = some y := fun _ _ => rfl
  refine f10_s (w := w2) ca cb ha' hb' hla hlb hNa' hNb' (fun _ w3 c3 => ?_) (fun n1 n2 w3 u c3 ru => ?_)
  · try simp only [↓reduceIte, ↓LL, LM, Value.cells, Nat.reduceAdd, Option.some.injEq, exists_eq_left', decide_true, decide_false, if_true, if_false, reduceCtorEq, cond_true, cond_false, get0, get1]
    exact kk w3 (bt b2 c3)
  · try simp only [↓reduceIte, ↓LL, LM, Value.cells, Nat.reduceAdd, Option.some.injEq, exists_eq_left', decide_true, decide_false, if_true, if_false, reduceCtorEq, cond_true, cond_false, get0, get1, ne_eq]
    exact ⟨_, f3_out (V := w3) (rdL_b c3 ha') (rdL_b c3 hb') ru n1 n2 (fun w' hb' => hat w' (bt c3 hb')) hla hlb hNa' hNb' a'.length (a'.length + 1) 0 w3 (by omega) (by omega) (Below.refl _ _) fun w' hb' => kk w' (bt (bt b2 c3) hb')⟩
end
end Go.Proofs.Ytlmiimojgledpaa

set_option maxRecDepth 20000
namespace Go.Proofs.Ytlmiimojgledpaa
open Sh RowKit Go.MapKept
section
variable {W w w' : World} {Q : Value → World → Prop}
theorem f28_loop {v : Value} {l : List Row} {c : Int} (h : rdL W v l) (hl : l.length ≤ 1000000) : ∀ (d m i : Nat) (w : World), i + d = l.length → d < m → (l.take i).any (lacksB c) = false →
    Q (.bool (!(l.any (lacksB c)))) w → Below W.heap.size W w →
    itr (fun _ _ _ => bot) (f28_b2 f28_j1) m v (.int .i64 c) (.int .i64 (i : Int)) w Q := by
  intro d
  induction d with
  | zero =>
    intro m i w hi hm hno kk hb
    obtain ⟨m, rfl⟩ : ∃ x, m = x + 1 := ⟨m - 1, by omega⟩
    show f28_b2 f28_j1 _ _ _ _ w Q
    unfold f28_b2
    have cc : ¬ (i : Int) < (l.length : Nat) := by omega
    try simp only [↓reduceIte, ↓LL, LM, Value.cells, Nat.reduceAdd, Option.some.injEq, exists_eq_left', decide_true, decide_false, if_true, if_false, reduceCtorEq, cond_true, cond_false, lnl_L h, cc]
    unfold f28_j1
    try simp only [↓reduceIte, ↓LL, LM, Value.cells, Nat.reduceAdd, Option.some.injEq, exists_eq_left', decide_true, decide_false, if_true, if_false, reduceCtorEq, cond_true, cond_false]
    have e : l.take i = l := List.take_of_length_le (by omega)
    rw [e] at hno
    rw [hno] at kk
    exact kk
  | succ d ih =>
    intro m i w hi hm hno kk hb
    obtain ⟨m, rfl⟩ : ∃ x, m = x + 1 := ⟨m - 1, by omega⟩
    show f28_b2 f28_j1 _ _ _ _ w Q
    unfold f28_b2
    have cc : (i : Int) < (l.length : Nat) := by omega
    have hil : i < l.length := by omega
    obtain ⟨ad, rv, hr, hc, hia⟩ := row_at h hil
    have cw := hc w hb
    have h3 : IntKind.i64.wrap ((i : Int) + 1) = ((i + 1 : Nat) : Int) := by rw [w64 (by omega) (by omega)]; rfl
    by_cases c1 : lacksB c l[i] = true
    · have ht : l.any (lacksB c) = true := List.any_eq_true.2 ⟨_, List.getElem_mem hil, c1⟩
      rw [ht] at kk
      by_cases c2 : c < 0
      · try simp only [↓reduceIte, ↓LL, LM, Value.cells, Nat.reduceAdd, Option.some.injEq, exists_eq_left', decide_true, decide_false, if_true, if_false, reduceCtorEq, cond_true, cond_false, lnl_L h, cc, c2]
        exact kk
      · have c3 : (l[i].length : Int) ≤ c := by
          have := of_decide_eq_true c1
          omega
        try simp only [↓reduceIte, ↓LL, LM, Value.cells, Nat.reduceAdd, Option.some.injEq, exists_eq_left', decide_true, decide_false, if_true, if_false, reduceCtorEq, cond_true, cond_false, lnl_L h, cc, c2, hia, cw, lnl_R hr, c3]
        exact kk
    · have c1f : lacksB c l[i] = false := Bool.eq_false_iff.2 c1
      have c2 : ¬ c < 0 ∧ ¬ (l[i].length : Int) ≤ c := by
        have := of_decide_eq_false c1f
        omega
      try simp only [↓reduceIte, ↓LL, LM, Value.cells, Nat.reduceAdd, Option.some.injEq, exists_eq_left', decide_true, decide_false, if_true, if_false, reduceCtorEq, cond_true, cond_false, lnl_L h, cc, c2.1, hia, cw, lnl_R hr, c2.2, h3]
      refine ih m (i + 1) w (by omega) (by omega) ?_ kk hb
      rw [List.take_succ_eq_append_getElem hil, List.any_append, hno]
      simpa using c1f
theorem f28_s {v : Value} {l : List Row} {c : Int} (h : rdL w v l) (hl : l.length ≤ 1000000) (kk : Q (.bool (!(l.any (lacksB c)))) w) : f28 v (.int .i64 c) w Q := by
  unfold f28
  try simp only [↓reduceIte, ↓LL, LM, Value.cells, Nat.reduceAdd, Option.some.injEq, exists_eq_left', decide_true, decide_false, if_true, if_false, reduceCtorEq, cond_true, cond_false]
  exact ⟨_, f28_loop (W := w) h hl l.length (l.length + 1) 0 w (by omega) (by omega) (by simp) kk (Below.refl _ _)⟩
theorem f13_loop {x y : Value} {l l2 : List Row} (hx : rdL W x l) (hy : rdL W y l2) (hl : l.length = l2.length) (hln : l.length ≤ 1000000) (hsz : ∀ r ∈ l, r.length ≤ 9223372036854775806) : ∀ (d m i : Nat) (w : World), i + d = l.length → d < m → Below W.heap.size W w → l.take i = l2.take i →
    (∀ w', Below W.heap.size W w' → Q (.bool (decide (l = l2))) w') →
    itr (fun _ _ _ => bot) (f13_b2 f13_j1) m x y (.int .i64 (i : Int)) w Q := by
  intro d
  induction d with
  | zero =>
    intro m i w hi hm hb he kk
    obtain ⟨m, rfl⟩ : ∃ x, m = x + 1 := ⟨m - 1, by omega⟩
    show f13_b2 f13_j1 _ _ _ _ w Q
    unfold f13_b2
    have c : ¬ (i : Int) < (l.length : Nat) := by omega
    try simp only [↓reduceIte, ↓LL, LM, Value.cells, Nat.reduceAdd, Option.some.injEq, exists_eq_left', decide_true, decide_false, if_true, if_false, reduceCtorEq, cond_true, cond_false, lnl_L hx, c]
    unfold f13_j1
    try simp only [↓reduceIte, ↓LL, LM, Value.cells, Nat.reduceAdd, Option.some.injEq, exists_eq_left', decide_true, decide_false, if_true, if_false, reduceCtorEq, cond_true, cond_false]
    rw [List.take_of_length_le (by omega), List.take_of_length_le (by omega)] at he
    have := kk w hb
    rw [decide_eq_true he] at this
    exact this
  | succ d ih =>
    intro m i w hi hm hb he kk
    obtain ⟨m, rfl⟩ : ∃ x, m = x + 1 := ⟨m - 1, by omega⟩
    show f13_b2 f13_j1 _ _ _ _ w Q
    unfold f13_b2
    have c : (i : Int) < (l.length : Nat) := by omega
    have hil : i < l.length := by omega
    have hil2 : i < l2.length := by omega
    have hbd : Below W.heap.size W (drw w) := hb.trans ⟨rfl, rfl, rfl, Nat.le_refl _, fun _ _ => rfl⟩
    obtain ⟨a1, r1, hr1, hc1, hia1⟩ := row_at hx hil
    obtain ⟨a2, r2, hr2, hc2, hia2⟩ := row_at hy hil2
    have k1 := hc1 _ hbd
    have k2 := hc2 _ hbd
    have h3 : IntKind.i64.wrap ((i : Int) + 1) = ((i + 1 : Nat) : Int) := by rw [w64 (by omega) (by omega)]; rfl
    try simp only [↓reduceIte, ↓LL, LM, Value.cells, Nat.reduceAdd, Option.some.injEq, exists_eq_left', decide_true, decide_false, if_true, if_false, reduceCtorEq, cond_true, cond_false, lnl_L hx, c, hia1, k1, hia2, k2]
    refine f11_s (rdR_b hbd hr1) (rdR_b hbd hr2) (hsz _ (List.getElem_mem hil)) fun w1 hb1 => ?_
    by_cases hv : l[i] = l2[i]
    · try simp only [↓reduceIte, ↓LL, LM, Value.cells, Nat.reduceAdd, Option.some.injEq, exists_eq_left', decide_true, decide_false, if_true, if_false, reduceCtorEq, cond_true, cond_false, hv, h3]
      refine ih m (i + 1) w1 (by omega) (by omega) (bt hbd hb1) ?_ kk
      rw [List.take_succ_eq_append_getElem hil, List.take_succ_eq_append_getElem hil2, he, hv]
    · try simp only [↓reduceIte, ↓LL, LM, Value.cells, Nat.reduceAdd, Option.some.injEq, exists_eq_left', decide_true, decide_false, if_true, if_false, reduceCtorEq, cond_true, cond_false, hv]
      have hne : l ≠ l2 := by rintro rfl; exact hv rfl
      have := kk w1 (bt hbd hb1)
      rw [decide_eq_false hne] at this
      exact this
theorem f13_s {x y : Value} {l l2 : List Row} (hx : rdL w x l) (hy : rdL w y l2) (hln : l.length ≤ 1000000) (hsz : ∀ r ∈ l, r.length ≤ 9223372036854775806) (kk : ∀ w', Below w.heap.size w w' → Q (.bool (decide (l = l2))) w') : f13 x y w Q := by
  unfold f13
  by_cases hl : l.length = l2.length
  · try simp only [↓reduceIte, ↓LL, LM, Value.cells, Nat.reduceAdd, Option.some.injEq, exists_eq_left', decide_true, decide_false, if_true, if_false, reduceCtorEq, cond_true, cond_false, lnl_L hx, lnl_L hy, hl, ne_eq]
    exact ⟨_, f13_loop (W := w) hx hy hl hln hsz l.length (l.length + 1) 0 w (by omega) (by omega) (Below.refl _ _) (by simp) kk⟩
  · have hne : l ≠ l2 := by rintro rfl; exact hl rfl
    have hli : ¬ ((l.length : Nat) : Int) = (l2.length : Nat) := by omega
    try simp only [↓reduceIte, ↓LL, LM, Value.cells, Nat.reduceAdd, Option.some.injEq, exists_eq_left', decide_true, decide_false, if_true, if_false, reduceCtorEq, cond_true, cond_false, lnl_L hx, lnl_L hy, hli, ne_eq]
    have := kk w (Below.refl _ _)
    rw [decide_eq_false hne] at this
    exact this
theorem f31_loop {v x : Value} {l : List Row} {r : Row} (h : rdL W v l) (hx : rdR W x r) (hl : l.length ≤ 1000000) (hsz : ∀ r ∈ l, r.length ≤ 9223372036854775806) : ∀ (d m i : Nat) (w : World), i + d = l.length → d < m → Below W.heap.size W w → (l.take i).any (fun s => decide (r = s)) = false →
    (∀ w', Below W.heap.size W w' → Q (.bool (l.any fun s => decide (r = s))) w') →
    itr (fun _ _ _ => bot) (f31_b2 f31_j1) m v x (.int .i64 (i : Int)) w Q := by
  intro d
  induction d with
  | zero =>
    intro m i w hi hm hb hno kk
    obtain ⟨m, rfl⟩ : ∃ x, m = x + 1 := ⟨m - 1, by omega⟩
    show f31_b2 f31_j1 _ _ _ _ w Q
    unfold f31_b2
    have cc : ¬ (i : Int) < (l.length : Nat) := by omega
    try simp only [↓reduceIte, ↓LL, LM, Value.cells, Nat.reduceAdd, Option.some.injEq, exists_eq_left', decide_true, decide_false, if_true, if_false, reduceCtorEq, cond_true, cond_false, lnl_L h, cc]
    unfold f31_j1
    try simp only [↓reduceIte, ↓LL, LM, Value.cells, Nat.reduceAdd, Option.some.injEq, exists_eq_left', decide_true, decide_false, if_true, if_false, reduceCtorEq, cond_true, cond_false]
    have e : l.take i = l := List.take_of_length_le (by omega)
    rw [e] at hno
    have := kk w hb
    rw [hno] at this
    exact this
  | succ d ih =>
    intro m i w hi hm hb hno kk
    obtain ⟨m, rfl⟩ : ∃ x, m = x + 1 := ⟨m - 1, by omega⟩
    show f31_b2 f31_j1 _ _ _ _ w Q
    unfold f31_b2
    have cc : (i : Int) < (l.length : Nat) := by omega
    have hil : i < l.length := by omega
    obtain ⟨ad, rv, hr, hc, hia⟩ := row_at h hil
    have cw := hc w hb
    have h3 : IntKind.i64.wrap ((i : Int) + 1) = ((i + 1 : Nat) : Int) := by rw [w64 (by omega) (by omega)]; rfl
    try simp only [↓reduceIte, ↓LL, LM, Value.cells, Nat.reduceAdd, Option.some.injEq, exists_eq_left', decide_true, decide_false, if_true, if_false, reduceCtorEq, cond_true, cond_false, lnl_L h, cc, hia, cw]
    refine f11_s (rdR_b hb hr) (rdR_b hb hx) (hsz _ (List.getElem_mem hil)) fun w1 hb1 => ?_
    by_cases hv : l[i] = r
    · have ht : (l.any fun s => decide (r = s)) = true := List.any_eq_true.2 ⟨_, List.getElem_mem hil, decide_eq_true hv.symm⟩
      have := kk w1 (bt hb hb1)
      rw [ht] at this
      try simp only [↓reduceIte, ↓LL, LM, Value.cells, Nat.reduceAdd, Option.some.injEq, exists_eq_left', decide_true, decide_false, if_true, if_false, reduceCtorEq, cond_true, cond_false, hv]
      exact this
    · try simp only [↓reduceIte, ↓LL, LM, Value.cells, Nat.reduceAdd, Option.some.injEq, exists_eq_left', decide_true, decide_false, if_true, if_false, reduceCtorEq, cond_true, cond_false, hv, h3]
      refine ih m (i + 1) w1 (by omega) (by omega) (bt hb hb1) ?_ kk
      rw [List.take_succ_eq_append_getElem hil, List.any_append, hno]
      have hv' : ¬ r = l[i] := fun e => hv e.symm
      simp [hv']
theorem f31_s {v x : Value} {l : List Row} {r : Row} (h : rdL w v l) (hx : rdR w x r) (hl : l.length ≤ 1000000) (hsz : ∀ r ∈ l, r.length ≤ 9223372036854775806) (kk : ∀ w', Below w.heap.size w w' → Q (.bool (l.any fun s => decide (r = s))) w') : f31 v x w Q := by
  unfold f31
  try simp only [↓reduceIte, ↓LL, LM, Value.cells, Nat.reduceAdd, Option.some.injEq, exists_eq_left', decide_true, decide_false, if_true, if_false, reduceCtorEq, cond_true, cond_false]
  exact ⟨_, f31_loop (W := w) h hx hl hsz l.length (l.length + 1) 0 w (by omega) (by omega) (Below.refl _ _) (by simp) kk⟩
theorem once_mem : ∀ (l out : List Row) (r : Row), r ∈ once out l → r ∈ out ∨ r ∈ l
  | [], out, r, h => .inl h
  | x :: l, out, r, h => by
    unfold once at h
    rcases once_mem l _ r h with h | h
    · split at h
      · exact .inl h
      · rcases List.mem_append.1 h with h | h
        · exact .inl h
        · rw [List.mem_singleton] at h; exact .inr (by rw [h]; simp)
    · exact .inr (by simp [h])
/-- the document's once -/
theorem f15_loop {v : Value} {l : List Row} (h : rdL W v l) (hl : l.length ≤ 100000) (hsz : ∀ r ∈ l, r.length ≤ 9223372036854775806) : ∀ (d m i : Nat) (w : World) (u : Value) (out : List Row), i + d = l.length → d < m → Below W.heap.size W w → OL W w u out → out.length ≤ i → (∀ r ∈ out, r ∈ l) →
    (∀ w' u', Below W.heap.size W w' → OL W w' u' (once out (l.drop i)) → Q u' w') →
    itr (fun _ _ _ => bot) (f15_b2 f15_j1) m v u (.int .i64 (i : Int)) w Q := by
  intro d
  induction d with
  | zero =>
    intro m i w u out hi hm hb ho hoi hol kk
    obtain ⟨m, rfl⟩ : ∃ x, m = x + 1 := ⟨m - 1, by omega⟩
    show f15_b2 f15_j1 _ _ _ _ w Q
    unfold f15_b2
    have c : ¬ (i : Int) < (l.length : Nat) := by omega
    try simp only [↓reduceIte, ↓LL, LM, Value.cells, Nat.reduceAdd, Option.some.injEq, exists_eq_left', decide_true, decide_false, if_true, if_false, reduceCtorEq, cond_true, cond_false, lnl_L h, c]
    unfold f15_j1
    try simp only [↓reduceIte, ↓LL, LM, Value.cells, Nat.reduceAdd, Option.some.injEq, exists_eq_left', decide_true, decide_false, if_true, if_false, reduceCtorEq, cond_true, cond_false]
    refine kk w u hb ?_
    rw [List.drop_of_length_le (by omega)]
    exact ho
  | succ d ih =>
    intro m i w u out hi hm hb ho hoi hol kk
    obtain ⟨m, rfl⟩ : ∃ x, m = x + 1 := ⟨m - 1, by omega⟩
    show f15_b2 f15_j1 _ _ _ _ w Q
    unfold f15_b2
    have c : (i : Int) < (l.length : Nat) := by omega
    have hil : i < l.length := by omega
    obtain ⟨ad, rv, hr, hc, hia⟩ := row_at h hil
    have cw := hc w hb
    have h3 : IntKind.i64.wrap ((i : Int) + 1) = ((i + 1 : Nat) : Int) := by rw [w64 (by omega) (by omega)]; rfl
    have hdrop : l.drop i = l[i] :: l.drop (i + 1) := List.drop_eq_getElem_cons hil
    try simp only [↓reduceIte, ↓LL, LM, Value.cells, Nat.reduceAdd, Option.some.injEq, exists_eq_left', decide_true, decide_false, if_true, if_false, reduceCtorEq, cond_true, cond_false, lnl_L h, c, hia, cw]
    refine f31_s (ho.rd hb) (rdR_b hb hr) (by omega) (fun r hr => hsz r (hol r hr)) fun w1 hb1 => ?_
    have b1 := bt hb hb1
    have o1 := ho.keep hb1 hb.size
    have cw1 := hc w1 b1
    by_cases ha : (out.any fun s => decide (l[i] = s)) = true
    · try simp only [↓reduceIte, ↓LL, LM, Value.cells, Nat.reduceAdd, Option.some.injEq, exists_eq_left', decide_true, decide_false, if_true, if_false, reduceCtorEq, cond_true, cond_false, ha]
      unfold f15_j3
      try simp only [↓reduceIte, ↓LL, LM, Value.cells, Nat.reduceAdd, Option.some.injEq, exists_eq_left', decide_true, decide_false, if_true, if_false, reduceCtorEq, cond_true, cond_false, h3]
      refine ih m (i + 1) w1 u out (by omega) (by omega) b1 o1 (by omega) hol fun w' u' hb' ho' => kk w' u' hb' ?_
      rw [hdrop]; unfold once; rw [if_pos ha]; exact ho'
    · have haf : (out.any fun s => decide (l[i] = s)) = false := Bool.eq_false_iff.2 ha
      obtain ⟨x, rfl⟩ := slV_of hr
      try simp only [↓reduceIte, ↓LL, LM, Value.cells, Nat.reduceAdd, Option.some.injEq, exists_eq_left', decide_true, decide_false, if_true, if_false, reduceCtorEq, cond_true, cond_false, haf, hia, cw1]
      refine ap_L o1 (r := l[i]) (.inl hr) ⟨_, _, _, rfl⟩ b1 (by omega) fun u' w3 o3 k3 => ?_
      unfold f15_j3
      try simp only [↓reduceIte, ↓LL, LM, Value.cells, Nat.reduceAdd, Option.some.injEq, exists_eq_left', decide_true, decide_false, if_true, if_false, reduceCtorEq, cond_true, cond_false, h3]
      refine ih m (i + 1) w3 u' (out ++ [l[i]]) (by omega) (by omega) (b1.trans k3.b) o3 (by simp; omega) (fun r hr => ?_) fun w' u' hb' ho' => kk w' u' hb' ?_
      · rcases List.mem_append.1 hr with hr | hr
        · exact hol r hr
        · rw [List.mem_singleton] at hr; rw [hr]; exact List.getElem_mem hil
      · rw [hdrop]; unfold once; rw [if_neg ha]; exact ho'
theorem f15_s {v : Value} {l : List Row} (h : rdL w v l) (hl : l.length ≤ 100000) (hsz : ∀ r ∈ l, r.length ≤ 9223372036854775806) (kk : ∀ w' u', Below w.heap.size w w' → OL w w' u' (once [] l) → Q u' w') : f15 v w Q := by
  unfold f15
  try simp only [↓reduceIte, ↓LL, LM, Value.cells, Nat.reduceAdd, Option.some.injEq, exists_eq_left', decide_true, decide_false, if_true, if_false, reduceCtorEq, cond_true, cond_false]
  exact ⟨_, f15_loop (W := w) h hl hsz l.length (l.length + 1) 0 w _ [] (by omega) (by omega) (Below.refl _ _) OL_nil (by simp) (by simp) fun w' u' hb ho => kk w' u' hb (by simpa using ho)⟩
/-- a function told of a row of some size at most -/
def TellsB (W : World) (g : Value) (pr : Row → Bool) : Prop := ∀ (rv : Value) (r : Row) (w : World) (K : Value → M) (Q : Value → World → Prop), Below W.heap.size W w → rdR w rv r → r.length * 32 ≤ 140737488355328 → (∀ w', Below w.heap.size w w' → K (.bool (pr r)) w' Q) → cf Try.prog g #[rv] K w Q
/-- what is kept of some rows -/
theorem f32_loop {v g : Value} {l : List Row} {pr : Row → Bool} (h : rdL W v l) (hg : TellsB W g pr) (hl : l.length ≤ 100000) (hsz : ∀ r ∈ l, r.length * 32 ≤ 140737488355328) : ∀ (d m i : Nat) (w : World) (u : Value), i + d = l.length → d < m → Below W.heap.size W w → OL W w u ((l.take i).filter pr) →
    (∀ w' u', Below W.heap.size W w' → OL W w' u' (l.filter pr) → Q u' w') →
    itr (fun _ _ _ _ _ => bot) (f32_b2 f32_j1) m g u v (.int .i64 (l.length : Nat)) (.int .i64 (i : Int)) w Q := by
  intro d
  induction d with
  | zero =>
    intro m i w u hi hm hb ho kk
    obtain ⟨m, rfl⟩ : ∃ x, m = x + 1 := ⟨m - 1, by omega⟩
    show f32_b2 f32_j1 _ _ _ _ _ _ w Q
    unfold f32_b2
    have c : ¬ (i : Int) < (l.length : Nat) := by omega
    try simp only [↓reduceIte, ↓LL, LM, Value.cells, Nat.reduceAdd, Option.some.injEq, exists_eq_left', decide_true, decide_false, if_true, if_false, reduceCtorEq, cond_true, cond_false, c]
    unfold f32_j1
    try simp only [↓reduceIte, ↓LL, LM, Value.cells, Nat.reduceAdd, Option.some.injEq, exists_eq_left', decide_true, decide_false, if_true, if_false, reduceCtorEq, cond_true, cond_false]
    rw [List.take_of_length_le (by omega)] at ho
    exact kk w u hb ho
  | succ d ih =>
    intro m i w u hi hm hb ho kk
    obtain ⟨m, rfl⟩ : ∃ x, m = x + 1 := ⟨m - 1, by omega⟩
    show f32_b2 f32_j1 _ _ _ _ _ _ w Q
    unfold f32_b2
    have c : (i : Int) < (l.length : Nat) := by omega
    have hil : i < l.length := by omega
    obtain ⟨ad, rv, hr, hc, hia⟩ := row_at h hil
    have cw := hc w hb
    have h3 : IntKind.i64.wrap ((i : Int) + 1) = ((i + 1 : Nat) : Int) := by rw [w64 (by omega) (by omega)]; rfl
    have hfl : ((l.take i).filter pr).length ≤ i := Nat.le_trans (List.length_filter_le _ _) (by rw [List.length_take]; omega)
    have hft : (l.take (i + 1)).filter pr = (l.take i).filter pr ++ (if pr l[i] = true then [l[i]] else []) := by
      rw [List.take_succ_eq_append_getElem hil, List.filter_append]
      congr 1
      rw [List.filter_cons, List.filter_nil]
    try simp only [↓reduceIte, ↓LL, LM, Value.cells, Nat.reduceAdd, Option.some.injEq, exists_eq_left', decide_true, decide_false, if_true, if_false, reduceCtorEq, cond_true, cond_false, c, hia, cw]
    refine hg rv l[i] w _ _ hb (rdR_b hb hr) (hsz _ (List.getElem_mem hil)) fun w1 hb1 => ?_
    have b1 := bt hb hb1
    have o1 := ho.keep hb1 hb.size
    by_cases hp : pr l[i] = true
    · rw [if_pos hp] at hft
      try simp only [↓reduceIte, ↓LL, LM, Value.cells, Nat.reduceAdd, Option.some.injEq, exists_eq_left', decide_true, decide_false, if_true, if_false, reduceCtorEq, cond_true, cond_false, hp]
      refine f30_s (rdR_b b1 hr) (hsz _ (List.getElem_mem hil)) fun w2 x hx hb2 => ?_
      have b2 := bt b1 hb2
      have o2 := o1.keep hb2 b1.size
      try simp only [↓reduceIte, ↓LL, LM, Value.cells, Nat.reduceAdd, Option.some.injEq, exists_eq_left', decide_true, decide_false, if_true, if_false, reduceCtorEq, cond_true, cond_false]
      refine ap_L o2 (r := l[i]) (.inr ⟨ownE_weak hx.1 b1.size, hx.2⟩) (ownE_lenv hx) b2 (by omega) fun u' w3 o3 k3 => ?_
      unfold f32_j3
      try simp only [↓reduceIte, ↓LL, LM, Value.cells, Nat.reduceAdd, Option.some.injEq, exists_eq_left', decide_true, decide_false, if_true, if_false, reduceCtorEq, cond_true, cond_false, h3]
      rw [← hft] at o3
      exact ih m (i + 1) w3 u' (by omega) (by omega) (b2.trans k3.b) o3 kk
    · rw [if_neg hp, List.append_nil] at hft
      have hpf : pr l[i] = false := Bool.eq_false_iff.2 hp
      try simp only [↓reduceIte, ↓LL, LM, Value.cells, Nat.reduceAdd, Option.some.injEq, exists_eq_left', decide_true, decide_false, if_true, if_false, reduceCtorEq, cond_true, cond_false, hpf]
      unfold f32_j3
      try simp only [↓reduceIte, ↓LL, LM, Value.cells, Nat.reduceAdd, Option.some.injEq, exists_eq_left', decide_true, decide_false, if_true, if_false, reduceCtorEq, cond_true, cond_false, h3]
      rw [← hft] at o1
      exact ih m (i + 1) w1 u (by omega) (by omega) b1 o1 kk
theorem f32_s {v g : Value} {l : List Row} {pr : Row → Bool} (h : rdL w v l) (hg : TellsB w g pr) (hl : l.length ≤ 100000) (hsz : ∀ r ∈ l, r.length * 32 ≤ 140737488355328) (kk : ∀ w' u', Below w.heap.size w w' → OL w w' u' (l.filter pr) → Q u' w') : f32 v g w Q := by
  unfold f32
  try simp only [↓reduceIte, ↓LL, LM, Value.cells, Nat.reduceAdd, Option.some.injEq, exists_eq_left', decide_true, decide_false, if_true, if_false, reduceCtorEq, cond_true, cond_false, lnl_L h]
  exact ⟨_, f32_loop (W := w) h hg hl hsz l.length (l.length + 1) 0 w _ (by omega) (by omega) (Below.refl _ _) OL_nil kk⟩
theorem en33 : ∀ args w, (callFunc 33 args).run Try.prog w = .ok (.enter 33 args) w := enters_of Try.func33 (by kernel_rfl) rfl
def left (b : List Row) (r : Row) : Bool := !(b.any fun s => decide (r = s))
theorem f16_s {va vb : Value} {a b : List Row} (ha : rdL w va a) (hb : rdL w vb b) (hla : a.length ≤ 100000) (hlb : b.length ≤ 100000) (hsz : ∀ r ∈ a, r.length * 32 ≤ 140737488355328) (kk : ∀ w' u', Below w.heap.size w w' → rdL w' u' (a.filter (left b)) → Q u' w') : f16 va vb w Q := by
  unfold f16
  obtain ⟨p, c, hv⟩ := rdS_len hb
  have hb1 := b_psh w (.cells vb.cells 22)
  have blk := blk_psh_new (w := w) (o := .cells vb.cells 22)
  rw [bx_e]
  generalize psh w (.cells vb.cells 22) = w1 at *
  try simp only [↓reduceIte, ↓LL, LM, Value.cells, Nat.reduceAdd, Option.some.injEq, exists_eq_left', decide_true, decide_false, if_true, if_false, reduceCtorEq, cond_true, cond_false]
  refine f32_s (rdL_b hb1 ha) (pr := left b) ?_ hla hsz fun w2 u hb2 ho => ?_
  · intro rv s w2 K Q hb2 hs hz k
    refine cf_p en33 ?_
    refine s33 rv (.pointer (some ⟨w.heap.size, 0, none⟩)) w2 _ ?_
    unfold f33
    have hc : w2.cell? ⟨w.heap.size, 0, none⟩ = some vb := by rw [cell_of_blk (stay hb2 blk), hv]; rfl
    try simp only [↓reduceIte, ↓LL, LM, Value.cells, Nat.reduceAdd, Option.some.injEq, exists_eq_left', decide_true, decide_false, if_true, if_false, reduceCtorEq, cond_true, cond_false, hc]
    refine f29_s (rdL_b (bt hb1 hb2) hb) hs (by omega) (by omega) fun w3 hb3 => ?_
    try simp only [↓reduceIte, ↓LL, LM, Value.cells, Nat.reduceAdd, Option.some.injEq, exists_eq_left', decide_true, decide_false, if_true, if_false, reduceCtorEq, cond_true, cond_false]
    exact k w3 hb3
  · try simp only [↓reduceIte, ↓LL, LM, Value.cells, Nat.reduceAdd, Option.some.injEq, exists_eq_left', decide_true, decide_false, if_true, if_false, reduceCtorEq, cond_true, cond_false]
    exact kk w2 u (bt hb1 hb2) (ho.rd hb2)
end
end Go.Proofs.Ytlmiimojgledpaa
