/- The call of ReportCounts returns true for every input, and its arguments read behind it as they read before. -/
import Derived.Test.YtiajdaagamhbnaaZ0
import Derived.Laws.Pointers
import Derived.Laws.Bits64b
import Derived.MapKept
import Derived.Maps.RangeRun
import Derived.Maps.AppendAt
import Derived.Laws.CopyRow
import Derived.Laws.IdiomCopy
import Derived.Lib.SliceRun
import Derived.SizedLaws
import Derived.Carry
import Derived.ProofKit
import Derived.JoinedCond
import Derived.Deep.CondSized
import Derived.OpenShut
set_option linter.unusedVariables false
set_option linter.unusedSimpArgs false
set_option linter.unusedSectionVars false
namespace Go.Proofs.Ytiajdaagamhbnaa
namespace Sh
open RowKit
section
variable {P : Program} {w : World} {Q : Value → World → Prop} {K : Value → M} {K0 : M} {B : Nat}
theorem smr_run {s : Sem Value} {v : Value} (h : s.run P w = .ok v w) : smr P s K w Q = K v w Q := by
  rw [smr_e, h]
  apply propext
  constructor
  · rintro ⟨v', h1, h2⟩; cases h1; exact h2
  · intro h2; exact ⟨v, rfl, h2⟩
theorem pn_ne {t : TypeId} {p : Option Addr} {x y : Operand} (h : P.underlying t = some (.pointer (P.pointee t))) :
    smr P (do eqGuard .neq t x y (.pointer p) (.pointer none); binOp .neq t (.pointer p) (.pointer none)) K w Q = K (.bool (!p.isNone)) w Q :=
  smr_run (by simp [eqGuard, run_neq_pointer_nil w t p h])
/-- the first of a slice -/
theorem sll_S {α : Type} {n : Nat} {R : RepT α} {v : Value} {l : List α} {k : Nat} {j : IntKind} (h : rdS n R w v l) (hk : k ≤ l.length) (kk : ∀ v', rdS n R w v' (l.take k) → K v' w Q) : sll n v none (some (.int j (k : Int))) K w Q := by
  rcases h with ⟨rfl, rfl⟩ | ⟨a, c, rfl, hcc, h⟩
  · have : k = 0 := by simpa using hk
    subst this
    refine ⟨none, 0, 0, 0, 0, rfl, ⟨_, _, rfl, by omega, by omega, by omega⟩, rfl, ?_⟩
    exact kk _ (.inl ⟨by simp, by simp⟩)
  · refine ⟨some a, l.length, c, 0, k, rfl, ⟨_, _, rfl, by omega, by omega, by omega⟩, rfl, ?_⟩
    have ev : (if c = 0 then some a else (some a).map (·.add (0 * n))) = some a := by split <;> simp [add_zero']
    rw [ev, Nat.sub_zero, Nat.sub_zero]
    refine kk _ (.inr ⟨a, c, by rw [List.length_take, Nat.min_eq_left hk], by rw [List.length_take]; omega, fun i hi => ?_⟩)
    have hi' : i < l.length := by simp at hi; omega
    obtain ⟨es, h1, h2, h3⟩ := h i hi'
    exact ⟨es, h1, h2, by simpa using h3⟩
end
end Sh
end Go.Proofs.Ytiajdaagamhbnaa

namespace Go.Proofs.Ytiajdaagamhbnaa
namespace Sh
open RowKit Go.MapKept
/-- a map's type, its keys' -/
structure KeyK (P : Program) (t kt et : TypeId) (d : TypeDesc) {α : Type} (kv : α → Value) : Prop where
  hm : P.underlying t = some (.map kt et)
  hd : P.underlying kt = some d
  key : ∀ a, IsKey d (kv a)
  inj : ∀ a b, kv a = kv b → a = b
def MapAt {α : Type} (kv : α → Value) (w : World) (b : Nat) (L : List (α × Value)) : Prop :=
  ∃ es clock, w.heap[b]? = some (.map es clock) ∧ Stamped es clock ∧ es.toList.map (fun e => (e.key, e.val)) = L.map (fun p => (kv p.1, p.2))
def put {α : Type} [DecidableEq α] (L : List (α × Value)) (k : α) (v : Value) : List (α × Value) :=
  if k ∈ L.map (·.1) then L.map (fun p => if p.1 = k then (k, v) else p) else L ++ [(k, v)]
def lk {α : Type} [DecidableEq α] (L : List (α × Value)) (k : α) : Option Value := (L.find? (fun p => decide (p.1 = k))).map (·.2)
theorem blk_sb {w : World} {b : Nat} {o o' : Obj} (h : w.heap[b]? = some o) : (sb w b o').heap[b]? = some o' := by simp [sb, blk_lt h]
theorem Upd_sb {w : World} {b : Nat} {o : Obj} : Upd b w (sb w b o) := ⟨rfl, rfl, rfl, by simp [sb], fun k hk => by simp [sb, Array.getElem?_setIfInBounds_ne (Ne.symm hk)]⟩
section
variable {α : Type} [DecidableEq α] {kv : α → Value} {P : Program} {t kt et : TypeId} {d : TypeDesc} {w : World} {b : Nat} {L : List (α × Value)} {K : Value → M} {K0 : M} {Q : Value → World → Prop}
omit [DecidableEq α] in
theorem MapAt.stay {w' : World} (h : MapAt kv w b L) (hb : w'.heap[b]? = w.heap[b]?) : MapAt kv w' b L := by
  obtain ⟨es, clock, h1, h2, h3⟩ := h
  exact ⟨es, clock, by rw [hb]; exact h1, h2, h3⟩
omit [DecidableEq α] in
theorem MapAt.lt (h : MapAt kv w b L) : b < w.heap.size := by obtain ⟨es, clock, h1, _⟩ := h; exact blk_lt h1
omit [DecidableEq α] in
theorem MapAt.below {w' : World} (h : MapAt kv w b L) (hb : Below w.heap.size w w') : MapAt kv w' b L := h.stay (hb.block b h.lt)
omit [DecidableEq α] in
theorem MapAt.chg {w' : World} {p : Nat} (h : MapAt kv w b L) (hc : Chg p w w') (hp : b ≠ p) : MapAt kv w' b L := h.stay (hc.block b h.lt hp)
omit [DecidableEq α] in
theorem MapAt.upd {w' : World} {p : Nat} (h : MapAt kv w b L) (hc : Upd p w w') (hp : b ≠ p) : MapAt kv w' b L := h.stay (hc.block b hp)
omit [DecidableEq α] in
theorem MapAt.nodup (h : MapAt kv w b L) : (L.map (·.1)).Nodup := by
  obtain ⟨es, clock, h1, ⟨_, _, h2⟩, h3⟩ := h
  have e : es.toList.map (·.key) = (L.map (·.1)).map kv := by
    have := congrArg (List.map Prod.fst) h3
    simpa [List.map_map, Function.comp_def] using this
  rw [e] at h2
  exact List.Pairwise.of_map kv (fun a b hab e => hab (by rw [e])) h2
omit [DecidableEq α] in
theorem isKeys {es : Array MapEntry} (KK : KeyK P t kt et d kv) (h : es.toList.map (fun e => (e.key, e.val)) = L.map (fun p => (kv p.1, p.2))) : ∀ x ∈ es.toList, IsKey d x.key := by
  intro x hx
  have : (x.key, x.val) ∈ L.map (fun p => (kv p.1, p.2)) := h ▸ List.mem_map.2 ⟨x, hx, rfl⟩
  obtain ⟨p, _, e⟩ := List.mem_map.1 this
  rw [← (Prod.mk.inj e).1]
  exact KK.key _
omit [DecidableEq α] in
theorem ent_at {es : Array MapEntry} (h : es.toList.map (fun e => (e.key, e.val)) = L.map (fun p => (kv p.1, p.2))) (i : Nat) :
    (es.toList[i]?).map (fun e => (e.key, e.val)) = (L[i]?).map (fun p => (kv p.1, p.2)) := by
  rw [← List.getElem?_map, ← List.getElem?_map, h]
theorem lk_none {k : α} : lk L k = none ↔ ∀ p ∈ L, p.1 ≠ k := by simp [lk]
theorem lk_cons {a k : α} {v : Value} : lk ((a, v) :: L) k = if a = k then some v else lk L k := by
  unfold lk
  by_cases h : a = k <;> simp [h]
theorem mem_lk (hn : (L.map (·.1)).Nodup) {k : α} {v : Value} (h : (k, v) ∈ L) : lk L k = some v := by
  induction L with
  | nil => cases h
  | cons p L ih =>
    obtain ⟨a, u⟩ := p
    rw [lk_cons]
    simp only [List.map_cons, List.nodup_cons] at hn
    rcases List.mem_cons.1 h with e | h
    · cases e; simp
    · have : a ≠ k := fun e => hn.1 (e ▸ List.mem_map.2 ⟨_, h, rfl⟩)
      rw [if_neg this]
      exact ih hn.2 h
/-- what a search finds -/
theorem found (KK : KeyK P t kt et d kv) {es : Array MapEntry} {clock : Nat} (hs : Stamped es clock) (h : es.toList.map (fun e => (e.key, e.val)) = L.map (fun p => (kv p.1, p.2))) (k : α) :
    (lk L k = none ∧ Instr.findNow d (kv k) es.toList 0 = some none ∧ ∀ x ∈ es.toList, x.key ≠ kv k) ∨
    ∃ (i : Nat) (e : MapEntry) (v : Value), lk L k = some v ∧ Instr.findNow d (kv k) es.toList 0 = some (some (i, v)) ∧ es[i]? = some e ∧ e.key = kv k ∧ e.val = v ∧ L[i]? = some (k, v) := by
  have hn : (L.map (·.1)).Nodup := MapAt.nodup (w := { (default : World) with heap := #[.map es clock] }) (b := 0) ⟨es, clock, rfl, hs, h⟩
  rcases findNow_spec (KK.key k) es.toList 0 (isKeys KK h) with ⟨h1, h2⟩ | ⟨j, e, h1, h2, h3⟩
  · refine .inl ⟨lk_none.2 fun p hp e => ?_, h1, h2⟩
    have : (kv p.1, p.2) ∈ es.toList.map (fun e => (e.key, e.val)) := h ▸ List.mem_map.2 ⟨p, hp, rfl⟩
    obtain ⟨x, hx, e2⟩ := List.mem_map.1 this
    exact h2 x hx (by rw [(Prod.mk.inj e2).1, e])
  · right
    have hj := ent_at h j
    rw [h2] at hj
    cases hL : L[j]? with
    | none => simp [hL] at hj
    | some p =>
      simp [hL] at hj
      have hk : p.1 = k := KK.inj _ _ (by rw [← hj.1, h3])
      have hm : (k, p.2) ∈ L := by rw [← hk]; exact List.mem_of_getElem? hL
      refine ⟨j, e, p.2, mem_lk hn hm, ?_, by simpa using h2, h3, hj.2, by rw [← hk]; exact hL⟩
      rw [h1, hj.2, Nat.zero_add]
theorem look_v (KK : KeyK P t kt et d kv) (h : MapAt kv w b L) {z : Value} (hz : zeroIs P et z) (k : α) :
    smr P (Instr.lookup t (.map (some b)) (kv k) false) K w Q = K ((lk L k).getD z) w Q := by
  obtain ⟨es, clock, h1, h2, h3⟩ := h
  refine smr_run ?_
  rcases found KK h2 h3 k with ⟨e1, e2, _⟩ | ⟨i, e, v, e1, e2, _, _, _, _⟩
  · simp [Instr.lookup, run_underlying KK.hm, Go.MapKept.run_getObj_map h1, Go.MapKept.run_checkKey KK.hd (KK.key k), Go.MapKept.run_findKey KK.hd e2, e1, Result.andThen, zero_run hz]
  · simp [Instr.lookup, run_underlying KK.hm, Go.MapKept.run_getObj_map h1, Go.MapKept.run_checkKey KK.hd (KK.key k), Go.MapKept.run_findKey KK.hd e2, e1, Result.andThen]
theorem put_at {i : Nat} {k : α} {u v : Value} (hn : (L.map (·.1)).Nodup) (h : L[i]? = some (k, u)) : put L k v = L.set i (k, v) := by
  unfold put
  rw [if_pos (List.mem_map.2 ⟨_, List.mem_of_getElem? h, rfl⟩)]
  apply List.ext_getElem?
  intro j
  rw [List.getElem?_map, List.getElem?_set]
  have hi : i < L.length := by
    rcases Nat.lt_or_ge i L.length with c | c
    · exact c
    · simp [List.getElem?_eq_none c] at h
  by_cases hij : i = j
  · subst hij
    rw [h]
    simp [hi]
  · simp only [hij, if_false]
    cases hj : L[j]? with
    | none => rfl
    | some p =>
      simp only [Option.map_some]
      have : p.1 ≠ k := by
        intro e
        have h1 : (L.map (·.1))[i]? = some k := by simp [h]
        have h2 : (L.map (·.1))[j]? = some k := by simp [hj, e]
        exact hij ((List.getElem?_inj (by simpa using hi) hn).1 (by rw [h1, h2]))
      simp [this]
/-- a key's value set -/
theorem upd_map (KK : KeyK P t kt et d kv) (h : MapAt kv w b L) (k : α) (v : Value) (kk : ∀ w', MapAt kv w' b (put L k v) → Upd b w w' → K0 w' Q) : smu P (Instr.mapUpdate t (.map (some b)) (kv k) v) K0 w Q := by
  have hn := h.nodup
  obtain ⟨es, clock, h1, h2, h3⟩ := h
  rcases found KK h2 h3 k with ⟨e1, e2, e3⟩ | ⟨i, e, u, e1, e2, e3, e4, e5, e6⟩
  · refine ⟨sb w b (.map (es.push { key := kv k, val := v, born := clock }) (clock + 1)), ?_, kk _ ⟨_, _, blk_sb h1, stamped_push h2 e3, ?_⟩ Upd_sb⟩
    · simp [Instr.mapUpdate, run_underlying KK.hm, Go.MapKept.run_getObj_map h1, Go.MapKept.run_checkKey KK.hd (KK.key k), Go.MapKept.run_findKey KK.hd e2, Go.MapKept.run_setObj_map _ h1, Result.andThen, sb]
    · have : ¬ k ∈ L.map (·.1) := by
        intro hm
        obtain ⟨p, hp, e⟩ := List.mem_map.1 hm
        exact lk_none.1 e1 p hp e
      simp [put, this, h3]
  · refine ⟨sb w b (.map (es.modify i fun x => { x with key := kv k, val := v }) clock), ?_, kk _ ⟨_, _, blk_sb h1, ?_, ?_⟩ Upd_sb⟩
    · simp [Instr.mapUpdate, run_underlying KK.hm, Go.MapKept.run_getObj_map h1, Go.MapKept.run_checkKey KK.hd (KK.key k), Go.MapKept.run_findKey KK.hd e2, e3, e4, Go.MapKept.run_keyThatStays (KK.key k), Go.MapKept.run_setObj_map _ h1, Result.andThen, sb]
    · exact stamped_modify h2 _ _ (fun _ _ => rfl) (fun e' _ he' => by rw [e3] at he'; cases he'; exact e4.symm)
    · rw [put_at hn e6]
      apply List.ext_getElem?
      intro j
      have hj := ent_at h3 j
      have hi := ent_at h3 i
      simp only [List.getElem?_map, Array.getElem?_toList, Array.getElem?_modify, List.getElem?_set] at hj ⊢
      by_cases hij : i = j
      · subst hij
        have hlt : i < L.length := by
          rcases Nat.lt_or_ge i L.length with c | c
          · exact c
          · simp [List.getElem?_eq_none c] at e6
        simp [e3, hlt]
      · simp only [hij, if_false]
        exact hj
omit [DecidableEq α] in
/-- a new map -/
theorem mm_map (kk : ∀ w', MapAt kv w' w.heap.size [] → Below w.heap.size w w' → K (.map (some w.heap.size)) w' Q) : mm K w Q :=
  kk _ ⟨#[], 0, blk_psh_new, stamped_empty _, rfl⟩ (b_psh _ _)
/-- an iterator over a map: what has not yet been told -/
def RangeAt {α : Type} (kv : α → Value) (w : World) (r b : Nat) (L rest : List (α × Value)) : Prop :=
  ∃ es clock since seen c0, w.heap[b]? = some (.map es clock) ∧ w.heap[r]? = some (.mapIter (some b) since seen c0) ∧ Stamped es clock ∧ (∀ x ∈ es.toList, x.born < since) ∧ since ≤ c0 ∧ since ≤ clock ∧
    es.toList.map (fun e => (e.key, e.val)) = L.map (fun p => (kv p.1, p.2)) ∧ (leftOf es seen).toList.map (fun e => (e.key, e.val)) = rest.map (fun p => (kv p.1, p.2))
omit [DecidableEq α] in
theorem RangeAt.map {r : Nat} {rest : List (α × Value)} (h : RangeAt kv w r b L rest) : MapAt kv w b L := by
  obtain ⟨es, clock, since, seen, c0, h1, h2, h3, h4, h5, h6, h7, h8⟩ := h
  exact ⟨es, clock, h1, h3, h7⟩
omit [DecidableEq α] in
theorem RangeAt.stay {r : Nat} {rest : List (α × Value)} {w' : World} (h : RangeAt kv w r b L rest) (hb : w'.heap[b]? = w.heap[b]?) (hr : w'.heap[r]? = w.heap[r]?) : RangeAt kv w' r b L rest := by
  obtain ⟨es, clock, since, seen, c0, h1, h2, h3⟩ := h
  exact ⟨es, clock, since, seen, c0, by rw [hb]; exact h1, by rw [hr]; exact h2, h3⟩
omit [DecidableEq α] in
theorem RangeAt.lt {r : Nat} {rest : List (α × Value)} (h : RangeAt kv w r b L rest) : b < w.heap.size ∧ r < w.heap.size := by
  obtain ⟨es, clock, since, seen, c0, h1, h2, _⟩ := h
  exact ⟨blk_lt h1, blk_lt h2⟩
omit [DecidableEq α] in
theorem RangeAt.below {r : Nat} {rest : List (α × Value)} {w' : World} (h : RangeAt kv w r b L rest) (hb : Below w.heap.size w w') : RangeAt kv w' r b L rest := h.stay (hb.block _ h.lt.1) (hb.block _ h.lt.2)
omit [DecidableEq α] in
theorem RangeAt.chg {r p : Nat} {rest : List (α × Value)} {w' : World} (h : RangeAt kv w r b L rest) (hb : Chg p w w') (h1 : b ≠ p) (h2 : r ≠ p) : RangeAt kv w' r b L rest := h.stay (hb.block _ h.lt.1 h1) (hb.block _ h.lt.2 h2)
end
end Sh
end Go.Proofs.Ytiajdaagamhbnaa

namespace Go.Proofs.Ytiajdaagamhbnaa
namespace Sh
open RowKit
/-- a function that may be entered -/
def canEnter (P : Program) (f : FuncId) : Bool := match P.funcs[f]? with | some fn => fn.body.isSome && !(fn.name == "runtime.NumGoroutine") | none => false
section
variable {P : Program} {w : World} {Q : Value → World → Prop} {K : Value → M} {t e : TypeId} {name : String} {f : FuncId} {args : Array Value} {v : Value}
theorem run_callFunc (h : canEnter P f = true) : (callFunc f args).run P w = .ok (.enter f args) w := by
  unfold canEnter at h
  cases hf : P.funcs[f]? with
  | none => simp [hf] at h
  | some fn =>
    simp [hf] at h
    obtain ⟨h1, h2⟩ := h
    obtain ⟨b, hb⟩ := Option.isSome_iff_exists.1 h1
    simp [callFunc, hf, hb, h2]
end
end Sh
end Go.Proofs.Ytiajdaagamhbnaa

namespace Go.Proofs.Ytiajdaagamhbnaa
namespace Sh
open RowKit
/-- of the old blocks none but those of S has changed -/
structure ChgS (S : Nat → Prop) (w w' : World) : Prop where
  os : w'.os = w.os
  tape : w'.tape = w.tape
  output : w'.output = w.output
  size : w.heap.size ≤ w'.heap.size
  block : ∀ k, k < w.heap.size → ¬ S k → w'.heap[k]? = w.heap[k]?
section
variable {S T : Nat → Prop} {w w' w2 : World}
theorem ChgS.refl (S : Nat → Prop) (w : World) : ChgS S w w := ⟨rfl, rfl, rfl, Nat.le_refl _, fun _ _ _ => rfl⟩
theorem ChgS.mono (h : ChgS S w w') (hs : ∀ k, S k → T k) : ChgS T w w' := ⟨h.os, h.tape, h.output, h.size, fun k a b => h.block k a (fun c => b (hs k c))⟩
theorem ChgS.trans (h : ChgS S w w') (k : ChgS T w' w2) (hs : ∀ x, x < w.heap.size → T x → S x) : ChgS S w w2 :=
  ⟨k.os.trans h.os, k.tape.trans h.tape, k.output.trans h.output, Nat.le_trans h.size k.size, fun i hi hp => (k.block i (Nat.lt_of_lt_of_le hi h.size) (fun c => hp (hs i hi c))).trans (h.block i hi hp)⟩
theorem ChgS.of_below (h : Below w.heap.size w w') : ChgS S w w' := ⟨h.os, h.tape, h.output, h.size, fun k hk _ => h.block k hk⟩
theorem ChgS.of_chg {p : Nat} (h : Chg p w w') (hp : S p) : ChgS S w w' := ⟨h.os, h.tape, h.output, h.size, fun k hl hk => h.block k hl (fun e => hk (e ▸ hp))⟩
theorem ChgS.below {B : Nat} (h : ChgS S w w') (hB : ∀ k, S k → B ≤ k) (hw : B ≤ w.heap.size) : Below B w w' := ⟨h.os, h.tape, h.output, h.size, fun k hk => h.block k (by omega) (fun c => by have := hB k c; omega)⟩
theorem ChgS.keep {q : Nat} {o : Obj} (h : ChgS S w w') (hq : w.heap[q]? = some o) (hne : ¬ S q) : w'.heap[q]? = some o := by rw [h.block q (blk_lt hq) hne]; exact hq
theorem ChgS.drw (h : ChgS S w w') : ChgS S w (drw w') := ⟨h.os, h.tape, h.output, h.size, h.block⟩
theorem bs {B : Nat} {w0 : World} (b : Below B w0 w) (hB : ∀ k, S k → B ≤ k) (hw : B ≤ w.heap.size) (h : ChgS S w w') : Below B w0 w' := b.trans (h.below hB hw)
theorem ChgS.grown {w' : World} {row : Option Nat} (hg : w.grownBy w' row) (hr : ∀ k, row = some k → S k) : ChgS S w w' := by
  refine ⟨hg.os, hg.tape, hg.output, hg.size, fun k hk hs => hg.block k hk (fun e => hs (hr k e.symm))⟩
end
section
variable {P : Program} {w : World} {Q : Value → World → Prop} {K : Value → M} {K0 : M} {B : Nat} {e : TypeId} {v : Value} {xs : List Value}
end
end Sh
end Go.Proofs.Ytiajdaagamhbnaa

namespace Go.Proofs.Ytiajdaagamhbnaa
namespace Sh
open RowKit
/-- an element's cells told by a function of it -/
def eR {α : Type} (enc : α → List Value) : RepT α := fun _ cs x => cs = enc x
theorem eR_st {α : Type} {enc : α → List Value} : Stable (eR enc) := fun _ _ _ _ _ h => h
theorem flat_len {α : Type} {enc : α → List Value} {n : Nat} (hn : ∀ x, (enc x).length = n) : ∀ l : List α, (l.flatMap enc).length = l.length * n
  | [] => by simp
  | x :: l => by rw [List.flatMap_cons, List.length_append, hn, flat_len hn l, List.length_cons, Nat.add_mul]; omega
theorem flat_get {α : Type} {enc : α → List Value} {n : Nat} (hn : ∀ x, (enc x).length = n) : ∀ (l : List α) (i j : Nat) (hi : i < l.length), j < n → (l.flatMap enc)[i * n + j]? = (enc l[i])[j]?
  | x :: l, 0, j, hi, hj => by
    rw [List.flatMap_cons, Nat.zero_mul, Nat.zero_add, List.getElem?_append_left (by rw [hn]; exact hj)]; rfl
  | x :: l, i + 1, j, hi, hj => by
    rw [List.flatMap_cons, List.getElem?_append_right (by rw [hn, Nat.add_mul]; omega), hn]
    have e : (i + 1) * n + j - n = i * n + j := by rw [Nat.add_mul]; omega
    rw [e, flat_get hn l i j (by simpa using hi) hj]
    rfl
/-- the elements, the call's own -/
def ownE {α : Type} (B : Nat) (e : TypeId) (n : Nat) (enc : α → List Value) (w : World) (v : Value) (l : List α) : Prop := w.ownsRow B e n v l.length (l.flatMap enc)
section
variable {α : Type} {enc : α → List Value} {n : Nat} {P : Program} {w : World} {Q : Value → World → Prop} {K : Value → M} {B : Nat} {e : TypeId} {v : Value} {l : List α}
theorem ownE_nil : ownE B e n enc w (.slice none 0 0) [] := World.ownsRow_nil w B e n
theorem ownE_below {w' : World} (h : ownE B e n enc w v l) (hb : Below w.heap.size w w') : ownE B e n enc w' v l := by
  obtain ⟨h1, h2⟩ := h
  refine ⟨h1, ?_⟩
  rcases h2 with h2 | ⟨g, cap, cur, h3, hg, hb', rest⟩
  · exact .inl h2
  · exact .inr ⟨g, cap, cur, h3, hg, stay hb hb', rest⟩
theorem ownE_weak {B' : Nat} (h : ownE B e n enc w v l) (hB : B' ≤ B) : ownE B' e n enc w v l := by
  obtain ⟨h1, h2⟩ := h
  refine ⟨h1, ?_⟩
  rcases h2 with h2 | ⟨g, cap, cur, h3, hg, rest⟩
  · exact .inl h2
  · exact .inr ⟨g, cap, cur, h3, Nat.le_trans hB hg, rest⟩
theorem ownE_blk (h : ownE B e n enc w v l) : ∀ g, v.ownBlock = some g → B ≤ g ∧ g < w.heap.size ∧ ∃ cur, w.heap[g]? = some (.cells cur e (0, 0)) := by
  intro g hg
  obtain ⟨h1, h2⟩ := h
  rcases h2 with ⟨rfl, _⟩ | ⟨g', cap, cur, rfl, hg', hb', _⟩
  · cases hg
  · cases hg; exact ⟨hg', blk_lt hb', _, hb'⟩
theorem ownE_rd (hn : ∀ x, (enc x).length = n) (hn0 : 0 < n) (h : ownE B e n enc w v l) : rdS n (eR enc) w v l := by
  obtain ⟨h1, h2⟩ := h
  rcases h2 with ⟨rfl, h0⟩ | ⟨g, cap, cur, rfl, hg, hb, hnc, hm, hs, ht⟩
  · exact .inl ⟨rfl, List.length_eq_zero_iff.1 h0⟩
  · refine .inr ⟨⟨g, 0, none⟩, cap, rfl, hnc, fun i hi => ⟨enc l[i], hn _, fun j u hj => ?_, rfl⟩⟩
    have hjn : j < n := by
      rcases Nat.lt_or_ge j n with c | c
      · exact c
      · rw [List.getElem?_eq_none (by rw [hn]; exact c)] at hj; cases hj
    rw [add_lit, add_lit, Nat.zero_add, cell_of_blk hb]
    have h3 : (cur.toList.take (l.length * n))[i * n + j]? = (l.flatMap enc)[i * n + j]? := by rw [ht]
    have hlt : i * n + j < l.length * n := by
      have : (i + 1) * n ≤ l.length * n := Nat.mul_le_mul_right _ hi
      rw [Nat.add_mul] at this; omega
    rw [List.getElem?_take_of_lt hlt, flat_get hn l i j hi hjn, hj] at h3
    simpa using h3
/-- a row of several-cell elements, as cells in a line -/
theorem rdS_flat (hn : ∀ x, (enc x).length = n) (h : rdS n (eR enc) w v l) : (v = .slice none 0 0 ∧ l = []) ∨ ∃ a c, v = .slice (some a) l.length c ∧ ∀ j u, (l.flatMap enc)[j]? = some u → w.cell? (a.add j) = some u := by
  rcases h with h | ⟨a, c, rfl, hcc, h⟩
  · exact .inl h
  · refine .inr ⟨a, c, rfl, fun j u hj => ?_⟩
    have hjl : j < (l.flatMap enc).length := by
      rcases Nat.lt_or_ge j (l.flatMap enc).length with c | c
      · exact c
      · rw [List.getElem?_eq_none c] at hj; cases hj
    rw [flat_len hn] at hjl
    have hn0 : 0 < n := by
      rcases Nat.eq_zero_or_pos n with c | c
      · rw [c, Nat.mul_zero] at hjl; omega
      · exact c
    have hi : j / n < l.length := Nat.div_lt_of_lt_mul (by rw [Nat.mul_comm]; exact hjl)
    have hr : j % n < n := Nat.mod_lt _ hn0
    have e : j = j / n * n + j % n := by rw [Nat.mul_comm]; exact (Nat.div_add_mod j n).symm
    obtain ⟨es, h1, h2, h3⟩ := h (j / n) hi
    have h3 : es = enc l[j / n] := h3
    rw [e, flat_get hn l _ _ hi hr, ← h3] at hj
    have h4 := h2 _ _ hj
    have e2 : (a.add (j / n * n)).add (j % n) = a.add j := by
      conv => rhs; rw [e]
      unfold Addr.add
      by_cases z1 : j / n * n = 0
      · simp [z1]
      · by_cases z2 : j % n = 0
        · simp [z1, z2]
        · have : ¬ (j / n * n + j % n = 0) := by omega
          simp [z1, z2, this, Nat.add_assoc]
    rw [← e2]; exact h4
/-- elements behind a row of the call's own -/
theorem ap_E {t ty : TypeId} {z u : Value} {b : Nat} {m : List α} (ht : slT P t e z n b) (hz : z.cells.size = n) (hn0 : 0 < n) (hn : ∀ x, (enc x).length = n) (h1 : ∀ x, ∀ c ∈ enc x, c.oneCell' = true) (ho : ownE B e n enc w v l) (hr : rdS n (eR enc) w u m)
    (h63 : l.length + m.length ≤ maxLen) (hbytes : (l.length + m.length) * b ≤ 140737488355328) (hB : B ≤ w.heap.size)
    (kk : ∀ v' w', ownE B e n enc w' v' (l ++ m) → w.grownBy w' v.ownBlock → (v'.ownBlock = v.ownBlock ∨ v'.ownBlock = some w.heap.size) → K v' w' Q) : sm P (Builtin.append_ #[t, t] ty #[v, u]) K w Q := by
  obtain ⟨i, g1, g2, g3, g4, g5⟩ := slT_info ht
  rcases rdS_flat hn hr with ⟨rfl, rfl⟩ | ⟨a, c, rfl, hrf⟩
  · refine ⟨v, w, run_append_owned_none w B t ty e i n g1 g2 v l.length (l.flatMap enc) ho, kk v w (by rw [List.append_nil]; exact ho) (World.grownBy.refl w _) (.inl rfl)⟩
  · obtain ⟨v', w', hrun, ho', hg, _, hf⟩ := run_append_own_at (P := P) w B t ty e i z n b g1 g2 g3 g4 g5 hz hn0 v l.length (l.flatMap enc) ho a m.length c (m.flatMap enc) (flat_len hn m) hrf (by
        intro x hx
        obtain ⟨y, _, hy⟩ := List.mem_flatMap.1 hx
        exact h1 y x hy) h63 hbytes hB
    refine ⟨v', w', hrun, kk v' w' ?_ hg hf⟩
    unfold ownE
    rw [List.length_append, List.flatMap_append]
    exact ho'
/-- the rest of a slice -/
theorem sll_drop {R : RepT α} {k : Nat} {j : IntKind} (h : rdS n R w v l) (hk : k ≤ l.length) (kk : ∀ v', rdS n R w v' (l.drop k) → (∀ a c, v' = .slice (some a) (l.drop k).length c → ∃ a' c', v = .slice (some a') l.length c' ∧ a.block = a'.block) → (v = .slice none 0 0 → v' = .slice none 0 0) → K v' w Q) : sll n v (some (.int j (k : Int))) none K w Q := by
  rcases h with ⟨rfl, rfl⟩ | ⟨a, c, rfl, hcc, h⟩
  · have : k = 0 := by simpa using hk
    subst this
    refine ⟨none, 0, 0, 0, 0, rfl, rfl, ⟨_, _, rfl, by omega, by omega, by omega⟩, ?_⟩
    exact kk _ (.inl ⟨by simp, by simp⟩) (fun a c e => by cases e) (fun _ => by simp)
  · refine ⟨some a, l.length, c, k, l.length, rfl, rfl, ⟨_, _, rfl, by omega, by omega, by omega⟩, ?_⟩
    by_cases hck : c = k
    · subst hck
      have hl : l.length = c := by omega
      rw [if_pos rfl]
      refine kk _ (.inr ⟨a, c - c, by rw [List.length_drop], by rw [List.length_drop]; omega, fun i hi => by rw [List.length_drop] at hi; omega⟩) (fun a' c' e => ⟨a, _, rfl, by simp only [Value.slice.injEq, Option.some.injEq] at e; rw [e.1]⟩) (fun e => by cases e)
    · rw [if_neg hck]
      refine kk _ (.inr ⟨a.add (k * n), c - k, by rw [List.length_drop]; rfl, by rw [List.length_drop]; omega, fun i hi => ?_⟩) (fun a' c' e => ⟨a, _, rfl, by simp only [Value.slice.injEq, Option.map_some, Option.some.injEq] at e; rw [← e.1, add_block]⟩) (fun e => by cases e)
      rw [List.length_drop] at hi
      obtain ⟨es, g1, g2, g3⟩ := h (k + i) (by omega)
      refine ⟨es, g1, ?_, by simpa using g3⟩
      have e2 : (a.add (k * n)).add (i * n) = a.add ((k + i) * n) := by
        rw [Nat.add_mul]
        unfold Addr.add
        by_cases z1 : k * n = 0
        · simp [z1]
        · by_cases z2 : i * n = 0
          · simp [z1, z2]
          · have : ¬ (k * n + i * n = 0) := by omega
            simp [z1, z2, this, Nat.add_assoc]
      rw [e2]; exact g2
theorem fold_set : ∀ (cs : List Value) (k : Nat) (base : Array Value), k + cs.length ≤ base.size → ((cs.zipIdx k).foldl (fun a p => a.setIfInBounds (0 + p.2) p.1) base).toList = base.toList.take k ++ cs ++ base.toList.drop (k + cs.length) := by
  intro cs
  induction cs with
  | nil => intro k base h; simp
  | cons c cs ih =>
    intro k base h
    simp only [List.length_cons] at h
    rw [List.zipIdx_cons, List.foldl_cons, ih (k + 1) _ (by simp; omega)]
    simp only [Nat.zero_add, Array.toList_setIfInBounds, List.length_cons]
    have hlt : k < base.toList.length := by simp; omega
    have q1 : (base.toList.set k c).take (k + 1) = base.toList.take k ++ [c] := by
      rw [List.take_succ_eq_append_getElem (by simpa using hlt)]
      simp [List.take_set]
      rw [List.set_eq_of_length_le (by simp; omega)]
    have q2 : (base.toList.set k c).drop (k + 1 + cs.length) = base.toList.drop (k + (cs.length + 1)) := by
      rw [List.drop_set_of_lt (by omega)]; congr 1; omega
    rw [q1, q2]; simp
/-- []T{x}: an element of several cells -/
theorem bslE {t : TypeId} {z : Value} {b : Nat} {x : α} (ht : slT P t e z n b) (hz : z.cells.size = n) (hn0 : 0 < n) (hn24 : n ≤ 16777216) (hn : (enc x).length = n)
    (k : ∀ w', w'.heap[w.heap.size]? = some (.cells (enc x).toArray e (0, 0)) → Below w.heap.size w w' → K (.slice (some ⟨w.heap.size, 0, none⟩) 1 1) w' Q) : sm P (Instr.buildSlice t 1 #[(0, .agg (enc x).toArray)]) K w Q := by
  obtain ⟨i, h1, h2, h3, h4, h5⟩ := slT_info ht
  refine ⟨.slice (some ⟨w.heap.size, 0, none⟩) 1 1, psh w (.cells (enc x).toArray e), ?_, k _ blk_psh_new (b_psh _ _)⟩
  have hsz : (enc x).toArray.size = n := by simpa using hn
  have hne : ¬ n = 0 := by omega
  have hle : ¬ 2 ^ 24 < n := by omega
  have hfill : ∀ base : Array Value, base.size = n → Instr.fill (fun i => some (i * n, n)) base [(0, .agg (enc x).toArray)] = some (enc x).toArray := by
    intro base hb
    simp only [Instr.fill, Value.cells, Nat.zero_mul, hsz, ne_eq, not_true_eq_false, Nat.zero_add, hb, Nat.lt_irrefl, gt_iff_lt, or_self, decide_false, Bool.or_self, Bool.false_eq_true, if_false]
    congr 1
    apply Array.toList_inj.1
    have hf := fold_set (enc x) 0 base (by omega)
    rw [← Array.foldl_toList, Array.toList_zipIdx]
    simp only [Nat.zero_add] at hf ⊢
    refine hf.trans ?_
    rw [List.take_zero, List.drop_of_length_le (by simp; omega)]
    simp
  simp only [Instr.buildSlice, underlying, Sem.run_bind, run_program, Result.andThen_ok, h1, Sem.run_pure, sizeOf, typeInfo, h2, h4, Nat.one_mul, gt_iff_lt, hle, if_false, hne, zeroValue, h3]
  rw [hfill _ (by simp)]
  simp [newRow, newObj, psh, Sem.run]
theorem rd_lit {x : α} {g : Nat} (hn : (enc x).length = n) (h : w.heap[g]? = some (.cells (enc x).toArray e (0, 0))) : rdS n (eR enc) w (.slice (some ⟨g, 0, none⟩) 1 1) [x] := by
  refine .inr ⟨⟨g, 0, none⟩, 1, rfl, Nat.le_refl _, fun i hi => ?_⟩
  have : i = 0 := by simpa using hi
  subst this
  refine ⟨enc x, hn, fun j u hj => ?_, rfl⟩
  rw [Nat.zero_mul, add_zero', add_lit, Nat.zero_add, cell_of_blk h]
  simpa using hj
end
end Sh
end Go.Proofs.Ytiajdaagamhbnaa

namespace Go.Proofs.Ytiajdaagamhbnaa
namespace Srt
/-- an order that is total; ties stay -/
structure Ord {β : Type} (le : β → β → Bool) : Prop where
  total : ∀ a b, le a b = true ∨ le b a = true
  trans : ∀ a b c, le a b = true → le b c = true → le a c = true
section
variable {β : Type} {le : β → β → Bool}
/-- one is ahead of the other -/
def slt (le : β → β → Bool) (x y : β × Nat) : Prop := le x.1 y.1 = true ∧ (le y.1 x.1 = false ∨ x.2 < y.2)
/-- sorted -/
abbrev Sd (le : β → β → Bool) (l : List (β × Nat)) : Prop := l.Pairwise (slt le)
/-- places of one below those of the other -/
abbrev Pl (l m : List (β × Nat)) : Prop := ∀ x ∈ l, ∀ y ∈ m, x.2 < y.2
/-- what sorting comes to: insertion from behind -/
def ins (le : β → β → Bool) : List (β × Nat) → β × Nat → List (β × Nat)
  | [], x => [x]
  | y :: l, x => if le y.1 x.1 then y :: ins le l x else x :: y :: l
/-- runs of so many, the last one shorter -/
inductive Rn (le : β → β → Bool) (bs : Nat) : List (β × Nat) → Prop
  | last {S : List (β × Nat)} : Sd le S → S.length < bs → Rn le bs S
  | cons {B L : List (β × Nat)} : Sd le B → B.length = bs → Pl B L → Rn le bs L → Rn le bs (B ++ L)
end
section
variable {β γ : Type} {le : β → β → Bool} {le' : γ → γ → Bool} {f : γ → β}
end
end Srt
end Go.Proofs.Ytiajdaagamhbnaa

namespace Go.Proofs.Ytiajdaagamhbnaa
namespace Sh
open RowKit Srt
/-- a block g of elements, n cells each -/
structure BkAt {β : Type} (e : TypeId) (enc : β → List Value) (Mm : β → Prop) (rest : List Value) (g : Nat) (w : World) (L : List (β × Nat)) : Prop where
  blk : w.heap[g]? = some (.cells ((L.flatMap fun x => enc x.1) ++ rest).toArray e (0, 0))
  mem : ∀ x ∈ L, Mm x.1
section
variable {β : Type} {e : TypeId} {enc : β → List Value} {Mm : β → Prop} {rest : List Value} {g n c N : Nat} {w : World} {L : List (β × Nat)} {Q : Value → World → Prop} {K : Value → M} {K0 : M} {k : IntKind} {i : Nat}
theorem BkAt.below {w' : World} (h : BkAt e enc Mm rest g w L) (hb : Below w.heap.size w w') : BkAt e enc Mm rest g w' L := ⟨stay hb h.blk, h.mem⟩
theorem BkAt.drw (h : BkAt e enc Mm rest g w L) : BkAt e enc Mm rest g (drw w) L := ⟨h.blk, h.mem⟩
theorem BkAt.cells (h : BkAt e enc Mm rest g w L) (hn : ∀ x, (enc x).length = n) (hi : i < L.length) : cellsAt w ⟨g, i * n, none⟩ (enc L[i].1) := by
  intro j u hj
  have hjn : j < n := by
    rcases Nat.lt_or_ge j n with c | c
    · exact c
    · rw [List.getElem?_eq_none (by rw [hn]; exact c)] at hj; cases hj
  rw [add_lit, cell_of_blk h.blk]
  have hlt : i * n + j < (L.flatMap fun x => enc x.1).length := by
    rw [flat_len (enc := fun x : β × Nat => enc x.1) (fun x => hn x.1)]
    have : (i + 1) * n ≤ L.length * n := Nat.mul_le_mul_right _ hi
    rw [Nat.add_mul] at this; omega
  rw [List.getElem?_toArray, List.getElem?_append_left hlt, flat_get (enc := fun x : β × Nat => enc x.1) (fun x => hn x.1) L i j hi hjn, hj]
end
end Sh
end Go.Proofs.Ytiajdaagamhbnaa

namespace Go.Proofs.Ytiajdaagamhbnaa
open Sh RowKit
namespace Sh
/-- cells laid over a list's, from a place on -/
def ovl (l : List Value) (o : Nat) (cs : List Value) : List Value := l.take o ++ cs ++ l.drop (o + cs.length)
theorem ovl_len {l cs : List Value} {o : Nat} (h : o + cs.length ≤ l.length) : (ovl l o cs).length = l.length := by
  unfold ovl; simp; omega
theorem ovl_all {l cs : List Value} (h : cs.length = l.length) : ovl l 0 cs = cs := by
  unfold ovl; simp [h]
section
variable {α : Type} {enc : α → List Value} {n : Nat}
theorem flat_ovl (hn : ∀ x, (enc x).length = n) : ∀ (l : List α) (i o : Nat) (cs : List Value) (y : α) (hi : i < l.length), o + cs.length ≤ n → enc y = ovl (enc l[i]) o cs → ovl (l.flatMap enc) (i * n + o) cs = (l.set i y).flatMap enc
  | [], i, o, cs, y, hi, _, _ => by simp at hi
  | x :: l, 0, o, cs, y, hi, ho, he => by
    simp only [List.flatMap_cons, List.set_cons_zero, Nat.zero_mul, Nat.zero_add, List.getElem_cons_zero] at *
    rw [he]
    unfold ovl
    have hx := hn x
    rw [List.take_append_of_le_length (by omega), List.drop_append_of_le_length (by omega)]
    simp
  | x :: l, i + 1, o, cs, y, hi, ho, he => by
    have ih := flat_ovl hn l i o cs y (by simpa using hi) ho (by simpa using he)
    rw [List.flatMap_cons, List.set_cons_succ, List.flatMap_cons, ← ih]
    unfold ovl
    have hx := hn x
    have e1 : (i + 1) * n + o = (enc x).length + (i * n + o) := by rw [hx, Nat.add_mul]; omega
    rw [e1, List.take_length_add_append, Nat.add_assoc (enc x).length, List.drop_length_add_append]
    simp [List.append_assoc]
variable {P : Program} {w : World} {Q : Value → World → Prop} {K : Value → M} {K0 : M} {B : Nat} {e : TypeId} {v : Value} {l : List α}
/-- a row that is not empty, opened -/
theorem ownE_open (h : ownE B e n enc w v l) (hl : 0 < l.length) : ∃ g cap cur, v = .slice (some ⟨g, 0, none⟩) l.length cap ∧ v.ownBlock = some g ∧ B ≤ g ∧ w.heap[g]? = some (.cells cur e (0, 0)) ∧ l.length ≤ cap ∧ cap ≤ maxLen ∧ cur.size = cap * n ∧ cur.toList.take (l.length * n) = l.flatMap enc := by
  obtain ⟨h1, h2⟩ := h
  rcases h2 with ⟨rfl, h0⟩ | ⟨g, cap, cur, rfl, hg, hb, hn, hm, hs, ht⟩
  · omega
  · exact ⟨g, cap, cur, rfl, rfl, hg, hb, hn, hm, hs, ht⟩
theorem ovl_take {l cs : List Value} {o m : Nat} (h : o + cs.length ≤ m) (hm : m ≤ l.length) : (ovl l o cs).take m = ovl (l.take m) o cs := by
  unfold ovl
  have e1 : (l.take o ++ cs).length = o + cs.length := by simp; omega
  rw [List.take_append, List.take_of_length_le (by omega), e1, List.take_take, List.drop_take, Nat.min_eq_left (by omega)]
theorem ownE_put {w' : World} {i o : Nat} {cs : List Value} {y : α} (hn : ∀ x, (enc x).length = n) (h : ownE B e n enc w v l) (hi : i < l.length) (ho : o + cs.length ≤ n) (he : enc y = ovl (enc l[i]) o cs)
    (hw : ∀ g cur, v.ownBlock = some g → w.heap[g]? = some (.cells cur e (0, 0)) → ∃ cur', w'.heap[g]? = some (.cells cur' e (0, 0)) ∧ cur'.toList = ovl cur.toList (i * n + o) cs) : ownE B e n enc w' v (l.set i y) := by
  obtain ⟨g, cap, cur, rfl, hob, hg, hb, hc, hm, hs, ht⟩ := ownE_open h (by omega)
  obtain ⟨cur', h1, h2⟩ := hw g cur rfl hb
  have hin : i * n + n ≤ l.length * n := by
    have := Nat.mul_le_mul_right n (show i + 1 ≤ l.length by omega)
    rw [Nat.add_mul, Nat.one_mul] at this; exact this
  have hcap : l.length * n ≤ cap * n := Nat.mul_le_mul_right n hc
  have hsl : cur.toList.length = cap * n := by simpa using hs
  refine ⟨by rw [flat_len hn], .inr ⟨g, cap, cur', by rw [List.length_set], hg, h1, by rw [List.length_set]; exact hc, hm, ?_, ?_⟩⟩
  · have := congrArg List.length h2
    rw [ovl_len (by omega)] at this
    simpa [hs] using this
  · rw [List.length_set, h2, ovl_take (by omega) (by omega), ht, flat_ovl hn l i o cs y hi ho he]
theorem ia_E {g cap L i n : Nat} {j : IntKind} (hi : i < L) : ia n (.slice (some ⟨g, 0, none⟩) L cap) (.int j (i : Int)) K w Q = K (.pointer (some ⟨g, i * n, none⟩)) w Q := by
  rw [ia_e, Int.toNat_natCast, add_lit, Nat.zero_add]
  apply propext
  constructor
  · rintro ⟨_, _, h⟩; exact h
  · intro h; exact ⟨by omega, by omega, h⟩
/-- some cells of a block stored -/
theorem stn_at {b o m : Nat} {c cs : Array Value} {t : TypeId} (h : w.heap[b]? = some (.cells c t (0, 0))) (hm : cs.size = m) (hc : o + m ≤ c.size) (h1 : ∀ v ∈ cs.toList, v.oneCell' = true)
    (k : ∀ w' c', w'.heap[b]? = some (.cells c' t (0, 0)) → c'.toList = ovl c.toList o cs.toList → Upd b w w' → K0 w' Q) : stn m (.pointer (some ⟨b, o, none⟩)) (.agg cs) K0 w Q := by
  obtain ⟨w', c', e1, e2, e3, e4⟩ := sts_blk (o := o) cs.toList 0 w c h (by simpa [hm] using hc) h1
  exact ⟨_, cs, w', rfl, rfl, hm, e1, k w' c' e2 (by rw [e3]; rfl) e4⟩
theorem ia_stnE {j : IntKind} {i : Nat} {y : α} (hn : ∀ x, (enc x).length = n) (h1 : ∀ x, ∀ c ∈ enc x, c.oneCell' = true) (h : ownE B e n enc w v l) (hi : i < l.length)
    (kk : ∀ w' g, v.ownBlock = some g → ownE B e n enc w' v (l.set i y) → Upd g w w' → K0 w' Q) : ia n v (.int j (i : Int)) (fun p => stn n p (.agg (enc y).toArray) K0) w Q := by
  obtain ⟨g, cap, cur, rfl, hob, hg, hb, hc, hm, hs, ht⟩ := ownE_open h (by omega)
  rw [ia_E hi]
  have hcs : i * n + n ≤ cur.size := by
    rw [hs]
    have := Nat.mul_le_mul_right n (show i + 1 ≤ cap by omega)
    rw [Nat.add_mul, Nat.one_mul] at this; exact this
  refine stn_at hb (by simpa using hn y) hcs (by simpa using h1 y) fun w' c' q1 q2 q3 => kk w' g rfl ?_ q3
  refine ownE_put (o := 0) (cs := enc y) hn h hi (by rw [hn]; omega) (by rw [ovl_all (by rw [hn, hn])]) (fun g' cur' e1 e2 => ?_)
  cases e1
  rw [hb] at e2; cases e2
  exact ⟨c', q1, by simpa using q2⟩
theorem Upd_setRow {g : Nat} {c cs : Array Value} {t : TypeId} {fr : Nat × Nat} (h : w.heap[g]? = some (.cells c t fr)) : Upd g w (w.setRow g cs) ∧ (w.setRow g cs).heap[g]? = some (.cells cs t fr) :=
  ⟨⟨rfl, rfl, rfl, by simp [World.setRow], fun k hk => setRow_other w g k cs hk⟩, setRow_heap w g c cs t fr h⟩
end
end Sh
end Go.Proofs.Ytiajdaagamhbnaa

namespace Go.Proofs.Ytiajdaagamhbnaa
namespace Sh
open RowKit Go.MapKept
section
variable {α : Type} [DecidableEq α]
theorem lk_put {L : List (α × Value)} {k k' : α} {v : Value} : lk (put L k v) k' = if k' = k then some v else lk L k' := by
  unfold put
  split
  · rename_i h
    have gen : ∀ L : List (α × Value), lk (L.map (fun p => if p.1 = k then (k, v) else p)) k' = if k' = k then (if k ∈ L.map (·.1) then some v else none) else lk L k' := by
      intro L
      induction L with
      | nil => simp [lk]
      | cons p L ih =>
        obtain ⟨a, u⟩ := p
        rw [List.map_cons]
        by_cases ha : a = k
        · rw [if_pos ha, lk_cons, lk_cons, ih]
          by_cases hk : k' = k
          · subst hk; simp [ha]
          · have : ¬ k = k' := fun e => hk e.symm
            have h2 : ¬ a = k' := fun e => hk (by rw [← e, ha])
            simp [hk, this, h2]
        · rw [if_neg ha, lk_cons, lk_cons, ih]
          by_cases hk : k' = k
          · subst hk
            have h2 : ¬ k' = a := fun e => ha e.symm
            have h3 : (k' ∈ List.map (fun x => x.1) ((a, u) :: L)) ↔ (k' ∈ List.map (fun x => x.1) L) := by
              rw [List.map_cons, List.mem_cons]
              exact ⟨fun h => h.resolve_left h2, .inr⟩
            rw [if_neg ha, if_pos rfl, if_pos rfl]
            by_cases h4 : k' ∈ List.map (fun x => x.1) L
            · rw [if_pos h4, if_pos (h3.2 h4)]
            · rw [if_neg h4, if_neg (fun e => h4 (h3.1 e))]
          · simp [hk]
    rw [gen, if_pos h]
  · rename_i h
    have gen : ∀ L : List (α × Value), lk (L ++ [(k, v)]) k' = (lk L k').or (if k' = k then some v else none) := by
      intro L
      induction L with
      | nil =>
        rw [List.nil_append, lk_cons]
        by_cases hk : k' = k
        · subst hk; simp [lk]
        · have : ¬ k = k' := fun e => hk e.symm
          simp [lk, hk, this]
      | cons p L ih =>
        obtain ⟨a, u⟩ := p
        rw [List.cons_append, lk_cons, lk_cons, ih]
        split <;> simp
    rw [gen]
    by_cases hk : k' = k
    · subst hk
      have : lk L k' = none := lk_none.2 fun p hp e => h (e ▸ List.mem_map.2 ⟨p, hp, rfl⟩)
      simp [this]
    · simp [hk]
end
theorem cf_p {w : World} {Q : Value → World → Prop} {P : Program} {f : FuncId} {z cap args : Array Value} {K : Value → M} (he : ∀ args w, (callFunc f args).run P w = .ok (.enter f args) w) (h : Calls P f (z ++ args ++ cap) w (Rt fun v w' => K v w' Q)) : cf P (.func (.func f) z cap) args K w Q :=
  ⟨f, z, cap, rfl, he _ _, h⟩
end Sh
end Go.Proofs.Ytiajdaagamhbnaa

namespace Go.Proofs.Ytiajdaagamhbnaa
open Sh RowKit

theorem ww (a b : Int) : IntKind.i64.wrap (IntKind.i64.wrap a + b) = IntKind.i64.wrap (a + b) := by
  unfold IntKind.wrap
  simp [IntKind.signed, IntKind.bits]
  omega
/-- a value; a workflow -/
structure Vl where
  k : Int
  n : Int
  s : ByteArray
structure Fl where
  id : Int
  prog : Int
  arg : Vl
  st : Int
  steps : Int
  till : Int
  val : Vl
  pc : Int
  rp : Option Addr
  rl : Nat
  rc : Nat
  can : Bool
def encV (x : Vl) : List Value := [.int .i64 x.k, .int .i64 x.n, .string x.s]
def Fl.regs (f : Fl) : Value := .slice f.rp f.rl f.rc
def encF (f : Fl) : List Value := [.int .i64 f.id, .int .i64 f.prog, .int .i64 f.arg.k, .int .i64 f.arg.n, .string f.arg.s, .int .i64 f.st, .int .i64 f.steps, .int .i64 f.till, .int .i64 f.val.k, .int .i64 f.val.n, .string f.val.s, .int .i64 f.pc, f.regs, .bool f.can]
theorem encF_len : ∀ f, (encF f).length = 14 := fun _ => rfl
/-- the cells one by one -/
def cF (f : Fl) : Array Value := (encF f).toArray
theorem encF_one : ∀ f, ∀ c ∈ encF f, c.oneCell' = true := by
  intro f c hc
  simp only [encF, List.mem_cons, List.not_mem_nil, or_false] at hc
  rcases hc with rfl | rfl | rfl | rfl | rfl | rfl | rfl | rfl | rfl | rfl | rfl | rfl | rfl | rfl
  all_goals rfl
/-- what a workflow adds at a place -/
def dd (i : Nat) (f : Fl) : Int := if i < 5 then (if f.st = (i : Int) + 1 then 1 else 0) else (if 1 ≤ f.st ∧ f.st ≤ 5 then f.steps else 0)
def tt (i : Nat) : List Fl → Int
  | [] => 0
  | f :: l => dd i f + tt i l
theorem tt_app (i : Nat) : ∀ a b : List Fl, tt i (a ++ b) = tt i a + tt i b
  | [], b => by simp [tt]
  | f :: a, b => by show dd i f + tt i (a ++ b) = dd i f + tt i a + tt i b; rw [tt_app i a b]; omega
theorem tt_one (i : Nat) (l : List Fl) (f : Fl) : tt i (l ++ [f]) = tt i l + dd i f := by rw [tt_app]; simp [tt]
/-- counts in memory -/
def cC (x : Nat → Int) : Array Value := #[.int .i64 (x 0), .int .i64 (x 1), .int .i64 (x 2), .int .i64 (x 3), .int .i64 (x 4), .int .i64 (x 5)]
def ctL (l : List Fl) (i : Nat) : Int := IntKind.i64.wrap (tt i l)
theorem cC_one (x : Nat → Int) : ∀ v ∈ (cC x).toList, v.oneCell' = true := by
  intro v hv
  simp only [cC, List.mem_cons, List.not_mem_nil, or_false] at hv
  rcases hv with rfl | rfl | rfl | rfl | rfl | rfl <;> rfl
theorem ct_one (i : Nat) (l : List Fl) (f : Fl) : ctL (l ++ [f]) i = IntKind.i64.wrap (ctL l i + dd i f) := by
  unfold ctL
  rw [tt_one, ww]
theorem ct_same {i : Nat} {l : List Fl} {f : Fl} (h : dd i f = 0) : ctL (l ++ [f]) i = ctL l i := by
  unfold ctL
  rw [tt_one, h, Int.add_zero]
section
variable {w : World} {Q : Value → World → Prop} {b : Nat} {l : List Fl}
/-- where a state is counted -/
theorem f27_s (s : Int) (k1 : 1 ≤ s → s ≤ 5 → Q (.pointer (some ⟨b, (s - 1).toNat, none⟩)) w) (k0 : ¬ (1 ≤ s ∧ s ≤ 5) → Q (.pointer none) w) : f27 (.pointer (some ⟨b, 0, none⟩)) (.int .i64 s) w Q := by
  unfold f27
  by_cases c1 : s = 1
  · simp only [↓reduceIte, ↓LL, LM, Value.cells, Nat.reduceAdd, Option.some.injEq, exists_eq_left', decide_true, decide_false, if_true, if_false, reduceCtorEq, cond_true, cond_false, c1]; simpa [c1, add_lit] using k1 (by omega) (by omega)
  by_cases c2 : s = 2
  · simp only [↓reduceIte, ↓LL, LM, Value.cells, Nat.reduceAdd, Option.some.injEq, exists_eq_left', decide_true, decide_false, if_true, if_false, reduceCtorEq, cond_true, cond_false, c1, c2]; simpa [c2, add_lit] using k1 (by omega) (by omega)
  by_cases c3 : s = 3
  · simp only [↓reduceIte, ↓LL, LM, Value.cells, Nat.reduceAdd, Option.some.injEq, exists_eq_left', decide_true, decide_false, if_true, if_false, reduceCtorEq, cond_true, cond_false, c1, c2, c3]; simpa [c3, add_lit] using k1 (by omega) (by omega)
  by_cases c4 : s = 4
  · simp only [↓reduceIte, ↓LL, LM, Value.cells, Nat.reduceAdd, Option.some.injEq, exists_eq_left', decide_true, decide_false, if_true, if_false, reduceCtorEq, cond_true, cond_false, c1, c2, c3, c4]; simpa [c4, add_lit] using k1 (by omega) (by omega)
  by_cases c5 : s = 5
  · simp only [↓reduceIte, ↓LL, LM, Value.cells, Nat.reduceAdd, Option.some.injEq, exists_eq_left', decide_true, decide_false, if_true, if_false, reduceCtorEq, cond_true, cond_false, c1, c2, c3, c4, c5]; simpa [c5, add_lit] using k1 (by omega) (by omega)
  simp only [↓reduceIte, ↓LL, LM, Value.cells, Nat.reduceAdd, Option.some.injEq, exists_eq_left', decide_true, decide_false, if_true, if_false, reduceCtorEq, cond_true, cond_false, c1, c2, c3, c4, c5]
  exact k0 (by omega)
theorem cC_len (x : Nat → Int) : (cC x).size = 6 := rfl
theorem cC_get (x : Nat → Int) {i : Nat} (h : i < 6) : (cC x)[i]? = some (.int .i64 (x i)) := by
  have : i = 0 ∨ i = 1 ∨ i = 2 ∨ i = 3 ∨ i = 4 ∨ i = 5 := by omega
  rcases this with rfl | rfl | rfl | rfl | rfl | rfl <;> rfl
theorem cC_set (x y : Nat → Int) {i : Nat} (h : i < 6) (v : Value) (hv : v = .int .i64 (y i)) (hy : ∀ j, j < 6 → j ≠ i → y j = x j) : (cC x).setIfInBounds i v = cC y := by
  subst hv
  have : i = 0 ∨ i = 1 ∨ i = 2 ∨ i = 3 ∨ i = 4 ∨ i = 5 := by omega
  have h0 := hy 0 (by decide)
  have h1 := hy 1 (by decide)
  have h2 := hy 2 (by decide)
  have h3 := hy 3 (by decide)
  have h4 := hy 4 (by decide)
  have h5 := hy 5 (by decide)
  rcases this with rfl | rfl | rfl | rfl | rfl | rfl <;> simp_all [cC]
theorem cC_ext {x y : Nat → Int} (h : ∀ j, j < 6 → x j = y j) : cC x = cC y := by
  unfold cC
  rw [h 0 (by decide), h 1 (by decide), h 2 (by decide), h 3 (by decide), h 4 (by decide), h 5 (by decide)]
/-- one more -/
theorem f24_s {f : Fl} (hb : w.heap[b]? = some (.cells (cC (ctL l)) 28 (0, 0))) (kk : ∀ w', w'.heap[b]? = some (.cells (cC (ctL (l ++ [f]))) 28 (0, 0)) → Chg b w w' → Q (.tuple #[]) w') : f24 (.pointer (some ⟨b, 0, none⟩)) (.agg (cF f)) w Q := by
  unfold f24
  rw [bx_e]
  have hq := blk_psh_new (w := w) (o := .cells (cF f) 55)
  have h1 := b_psh w (.cells (cF f) 55)
  have hb1 := stay h1 hb
  rw [show (Value.agg (cF f)).cells = cF f from rfl]
  generalize psh w (.cells (cF f) 55) = w1 at *
  have c5 := cell_of_blk (n := 5) hq
  have c6 := cell_of_blk (n := 6) hq
  have c5 : w1.cell? ⟨w.heap.size, 5, none⟩ = some (.int .i64 f.st) := c5
  have c6 : w1.cell? ⟨w.heap.size, 6, none⟩ = some (.int .i64 f.steps) := c6
  simp only [↓reduceIte, ↓LL, LM, Value.cells, Nat.reduceAdd, Option.some.injEq, exists_eq_left', decide_true, decide_false, if_true, if_false, reduceCtorEq, cond_true, cond_false, add_lit, Nat.zero_add, c5]
  refine f27_s f.st (fun s1 s2 => ?_) (fun s0 => ?_)
  · rw [pn_ne (P := Try.prog) (t := 64) (by kernel_rfl)]
    simp only [Option.isNone, Bool.not_false]
    obtain ⟨i, hi5, hi⟩ : ∃ i : Nat, i < 5 ∧ f.st = (i : Int) + 1 := ⟨(f.st - 1).toNat, by omega, by omega⟩
    have hti : (f.st - 1).toNat = i := by omega
    rw [hti]
    have ci : w1.cell? ⟨b, i, none⟩ = some (.int .i64 (ctL l i)) := by rw [cell_of_blk (n := i) hb1, cC_get _ (by omega)]
    simp only [↓reduceIte, ↓LL, LM, Value.cells, Nat.reduceAdd, Option.some.injEq, exists_eq_left', decide_true, decide_false, if_true, if_false, reduceCtorEq, cond_true, cond_false, ci]
    refine st_box hb1 (by rw [cC_len]; omega) rfl fun w2 hb2 u2 => ?_
    have hne : b ≠ w.heap.size := fun e => by have := blk_lt hb; omega
    have hq2 : w2.heap[w.heap.size]? = some (.cells (cF f) 55) := by rw [u2.block _ (Ne.symm hne)]; exact hq
    have c6 := cell_of_blk (n := 6) hq2
    have c6 : w2.cell? ⟨w.heap.size, 6, none⟩ = some (.int .i64 f.steps) := c6
    have e1 : (cC (ctL l)).setIfInBounds i (.int .i64 (IntKind.i64.wrap (ctL l i + 1))) = cC (fun j => if j = i then ctL (l ++ [f]) i else ctL l j) := by
      refine cC_set _ _ (by omega) _ ?_ (fun j _ hj => by simp [hj])
      simp only [if_true]
      rw [ct_one]
      congr 3
      unfold dd
      rw [if_pos hi5, if_pos hi]
    rw [e1] at hb2
    have c55 := cell_of_blk (n := 5) hb2
    rw [cC_get _ (by decide)] at c55
    have h5i : ¬ 5 = i := by omega
    simp only [h5i, if_false] at c55
    simp only [↓reduceIte, ↓LL, LM, Value.cells, Nat.reduceAdd, Option.some.injEq, exists_eq_left', decide_true, decide_false, if_true, if_false, reduceCtorEq, cond_true, cond_false, add_lit, Nat.zero_add, c55, c6]
    have hb2 : (drw w2).heap[b]? = _ := hb2
    refine st_box hb2 (by rw [cC_len]; omega) rfl fun w3 hb3 u3 => ?_
    simp only [↓reduceIte, ↓LL, LM, Value.cells, Nat.reduceAdd, Option.some.injEq, exists_eq_left', decide_true, decide_false, if_true, if_false, reduceCtorEq, cond_true, cond_false]
    refine kk w3 ?_ ((Chg.of_below h1).trans (u2.chg.trans (Chg.trans ((Chg.refl b w2).drw) u3.chg)))
    rw [hb3]
    congr 2
    refine cC_set _ _ (by omega) _ ?_ (fun j hj6 hj => ?_)
    · rw [ct_one]
      congr 3
      unfold dd
      rw [if_neg (by decide), if_pos ⟨s1, s2⟩]
    · by_cases c : j = i
      · subst c; simp
      · rw [if_neg c]
        refine ct_same ?_
        unfold dd
        rw [if_pos (by omega), if_neg (by omega)]
  · rw [pn_ne (P := Try.prog) (t := 64) (by kernel_rfl)]
    simp only [Option.isNone, Bool.not_true]
    simp only [↓reduceIte, ↓LL, LM, Value.cells, Nat.reduceAdd, Option.some.injEq, exists_eq_left', decide_true, decide_false, if_true, if_false, reduceCtorEq, cond_true, cond_false]
    refine kk w1 ?_ (Chg.of_below h1)
    rw [hb1]
    congr 2
    refine cC_ext fun j hj => (ct_same ?_).symm
    unfold dd
    split
    · rw [if_neg (by omega)]
    · rfl
/-- a workflow taken from a list and boxed -/
theorem take14 {W : World} {v : Value} {lf : List Fl} {i : Nat} {K : Value → M} (hr : rdS 14 (eR encF) W v lf) (hb : Below W.heap.size W w) (hi : i < lf.length)
    (kk : K (.agg (cF lf[i])) w Q) : ia 14 v (.int .i64 (i : Int)) (fun p => ldn 14 p K) w Q := by
  obtain ⟨a, es, e1, e2, e3, e4⟩ := rdS_at hr hi
  have e3 : es = encF lf[i] := e3
  subst e3
  rw [e4]
  exact ldn_at (cellsAt_below hb e2) e1 kk
theorem box14 {z : Array Value} {f : Fl} {K : Value → M} (hz : z.size = 14) (kk : ∀ w', w'.heap[w.heap.size]? = some (.cells (cF f) 55 (0, 0)) → Below w.heap.size w w' → K (.pointer (some ⟨w.heap.size, 0, none⟩)) w' Q) :
    al 55 z (fun p => stn 14 p (.agg (cF f)) (K p)) w Q := by
  rw [al_e]
  refine stn_box (cs := cF f) (blk_psh_new (w := w) (o := .cells z 55)) hz rfl (by simpa [cF] using encF_one f) fun w3 hw3 hu3 => ?_
  exact kk w3 hw3 ((b_psh w (.cells z 55)).trans (hu3.below (Nat.le_refl _)))
theorem count_loop {W : World} {v : Value} {lf : List Fl} {t2 : Value} {j1 : Value → Value → M} (hr : rdS 14 (eR encF) W v lf) (hl : lf.length ≤ 1000000) (hB : W.heap.size ≤ b) : ∀ (m i : Nat) (w : World), i + m = lf.length → Below W.heap.size W w → w.heap[b]? = some (.cells (cC (ctL (lf.take i))) 28 (0, 0)) →
    (∀ w', w'.heap[b]? = some (.cells (cC (ctL lf)) 28 (0, 0)) → Chg b w w' → j1 t2 (.pointer (some ⟨b, 0, none⟩)) w' Q) →
    itr (fun _ _ _ _ _ => bot) (f11_b2 j1) (m + 1) t2 (.pointer (some ⟨b, 0, none⟩)) v (.int .i64 (lf.length : Int)) (.int .i64 (i : Int)) w Q := by
  intro m
  induction m with
  | zero =>
    intro i w hi hb hc kk
    show f11_b2 _ _ _ _ _ _ _ w Q
    unfold f11_b2
    have c1 : ¬ (i : Int) < (lf.length : Int) := by omega
    simp only [↓reduceIte, ↓LL, LM, Value.cells, Nat.reduceAdd, Option.some.injEq, exists_eq_left', decide_true, decide_false, if_true, if_false, reduceCtorEq, cond_true, cond_false, c1]
    rw [List.take_of_length_le (by omega)] at hc
    exact kk w hc (Chg.refl _ _)
  | succ m ih =>
    intro i w hi hb hc kk
    have hil : i < lf.length := by omega
    show f11_b2 _ _ _ _ _ _ _ w Q
    unfold f11_b2
    have c1 : (i : Int) < (lf.length : Int) := by omega
    have e5 : IntKind.i64.wrap ((i : Int) + 1) = ((i + 1 : Nat) : Int) := by rw [w64 (by omega) (by omega)]; omega
    simp only [lt_e, cnd_e, c1, decide_true, cond_true]
    refine take14 hr hb hil ?_
    refine box14 rfl fun w1 h1 b1 => ?_
    have hc1 := stay b1 hc
    refine ldn_box h1 rfl ?_
    rw [cl_e]
    refine f24_s hc1 fun w2 h2 c2 => ?_
    simp only [↓reduceIte, ↓LL, LM, Value.cells, Nat.reduceAdd, Option.some.injEq, exists_eq_left', decide_true, decide_false, if_true, if_false, reduceCtorEq, cond_true, cond_false, e5]
    have c12 : Chg b w w2 := (Chg.of_below b1).trans c2
    refine ih (i + 1) w2 (by omega) (bc hb hB hb.size c12) ?_ fun w3 h3 c3 => kk w3 h3 (c12.trans c3)
    rw [List.take_succ_eq_append_getElem hil]; exact h2
/-- what workflows come to -/
theorem f11_s {W : World} {v : Value} {lf : List Fl} (hr : rdS 14 (eR encF) W v lf) (hl : lf.length ≤ 1000000) (kk : ∀ w', Below W.heap.size W w' → Q (.agg (cC (ctL lf))) w') : f11 v W Q := by
  unfold f11
  rw [al_e, al_e]
  have h2 := blk_psh_new (w := W) (o := .cells #[.int .i64 0, .int .i64 0, .int .i64 0, .int .i64 0, .int .i64 0, .int .i64 0] 28)
  have b2 := b_psh W (.cells #[.int .i64 0, .int .i64 0, .int .i64 0, .int .i64 0, .int .i64 0, .int .i64 0] 28)
  generalize psh W (.cells #[.int .i64 0, .int .i64 0, .int .i64 0, .int .i64 0, .int .i64 0, .int .i64 0] 28) = w1 at *
  have h3 := blk_psh_new (w := w1) (o := .cells #[.int .i64 0, .int .i64 0, .int .i64 0, .int .i64 0, .int .i64 0, .int .i64 0] 28)
  have b3 := b_psh w1 (.cells #[.int .i64 0, .int .i64 0, .int .i64 0, .int .i64 0, .int .i64 0, .int .i64 0] 28)
  have h2 := stay b3 h2
  have hlt : W.heap.size < w1.heap.size := blk_lt (by assumption)
  have b23 := bt b2 b3
  generalize psh w1 (.cells #[.int .i64 0, .int .i64 0, .int .i64 0, .int .i64 0, .int .i64 0, .int .i64 0] 28) = w2 at *
  refine lnl_S hr ?_
  rw [jn_e]
  refine ⟨_, count_loop (W := W) hr hl b2.size lf.length 0 w2 (by omega) b23 h3 fun w3 h33 c3 => ?_⟩
  have h23 := c3.keep h2 (by omega)
  have b33 := bc b23 b2.size b23.size c3
  unfold f11_j1
  refine ldn_box h33 rfl ?_
  refine stn_box (cs := cC (ctL lf)) h23 rfl rfl (cC_one _) fun w4 h4 u4 => ?_
  refine ldn_box h4 rfl ?_
  rw [rt_e]
  exact kk w4 (b33.trans (u4.below (Nat.le_refl _)))
end
end Go.Proofs.Ytiajdaagamhbnaa

namespace Go.Proofs.Ytiajdaagamhbnaa
namespace Sh
open RowKit
section
variable {P : Program} {w : World} {e t : TypeId} {k : IntKind} {n : Nat} {xa0 xb0 : List Int}
theorem eqInt (he : P.underlying e = some (.int k)) (d : Nat) (a b : Int) : (Op.equalIn (d + 1) e (.int k a) (.int k b)).run P w = .ok (a == b) w := by
  simp [Op.equalIn, underlying, he]
theorem pk_int (he : P.underlying e = some (.int k)) : P.plainKey e = true := by simp [Program.plainKey, he]
theorem eqItems_run (he : P.underlying e = some (.int k)) (d : Nat) (ha : xa0.length = n) (hb : xb0.length = n) : ∀ (is : List Nat), (∀ i ∈ is, i < n) →
    (Op.eqItems (d + 1) e 1 (xa0.map (Value.int k)).toArray (xb0.map (Value.int k)).toArray is).run P w = .ok (is.all fun i => xa0[i]? == xb0[i]?) w
  | [], _ => by simp [Op.eqItems]
  | i :: is, h => by
    have hi := h i (by simp)
    have ih := eqItems_run he d ha hb is (fun j hj => h j (by simp [hj]))
    have xa : (xa0.map (Value.int k)).toArray[i * 1]? = some (.int k xa0[i]) := by simp; try exact ⟨by omega, rfl⟩
    have xb : (xb0.map (Value.int k)).toArray[i * 1]? = some (.int k xb0[i]) := by simp; try exact ⟨by omega, rfl⟩
    have e1 : (xa0[i]? == xb0[i]?) = (xa0[i] == xb0[i]) := by rw [List.getElem?_eq_getElem (by omega), List.getElem?_eq_getElem (by omega)]; rfl
    rw [Op.eqItems]
    simp only [Sem.run_bind, run_part_plain w (pk_int he) xa, run_part_plain w (pk_int he) xb, eqInt he, Result.andThen_ok, List.all_cons, e1]
    cases hc : (xa0[i] == xb0[i])
    · simp
    · simpa using ih
theorem all_eq (ha : xa0.length = n) (hb : xb0.length = n) : ((List.range n).all fun i => xa0[i]? == xb0[i]?) = decide (xa0 = xb0) := by
  rw [Bool.eq_iff_iff, List.all_eq_true, decide_eq_true_iff]
  constructor
  · intro h
    apply List.ext_getElem?
    intro i
    rcases Nat.lt_or_ge i n with c | c
    · simpa using h i (List.mem_range.2 c)
    · rw [List.getElem?_eq_none (by omega), List.getElem?_eq_none (by omega)]
  · rintro rfl i _
    simp
theorem run_ne_arr {x y : Operand} (hu : P.underlying t = some (.array n e)) (he : P.underlying e = some (.int k)) (hc : P.cellsOf e = 1) (hi : (P.info? e).isSome = true) (hg : P.eqGuardType P.depth t = false) (ha : xa0.length = n) (hb : xb0.length = n) :
    ((do eqGuard .neq t x y (.agg (xa0.map (Value.int k)).toArray) (.agg (xb0.map (Value.int k)).toArray); binOp .neq t (.agg (xa0.map (Value.int k)).toArray) (.agg (xb0.map (Value.int k)).toArray) : Sem Value)).run P w = .ok (.bool (!decide (xa0 = xb0))) w := by
  obtain ⟨i, hi⟩ := Option.isSome_iff_exists.1 hi
  have h2 : (Op.equalIn 10000 t (.agg (xa0.map (Value.int k)).toArray) (.agg (xb0.map (Value.int k)).toArray)).run P w = .ok (decide (xa0 = xb0)) w := by
    rw [run_equalIn_array (P := P) w 9999 _ _ hu hi, hc, eqItems_run he 9998 ha hb _ (fun i hi => List.mem_range.1 hi), all_eq ha hb]
  have h3 : (Op.equal t (.agg (xa0.map (Value.int k)).toArray) (.agg (xb0.map (Value.int k)).toArray)).run P w = .ok (decide (xa0 = xb0)) w := h2
  simp [eqGuard, hg, binOp, h3]
end
end Sh
end Go.Proofs.Ytiajdaagamhbnaa

namespace Go.Proofs.Ytiajdaagamhbnaa
open Sh RowKit

theorem eq28 (x y : Nat → Int) (p q : Operand) (w : World) : ((do eqGuard .eql 28 p q (.agg (cC x)) (.agg (cC y)); binOp .eql 28 (.agg (cC x)) (.agg (cC y)) : Sem Value)).run Try.prog w = .ok (.bool (x 0 == y 0 && (x 1 == y 1 && (x 2 == y 2 && (x 3 == y 3 && (x 4 == y 4 && x 5 == y 5)))))) w := by
  have h := run_eq_agg (x := p) (y := q) (w := w) (P := Try.prog) (xs := cC x) (ys := cC y) Try.underlying28 (by kernel_rfl) (by kernel_rfl)
    (fE_cons (by kernel_rfl) (by kernel_rfl) (a := .int .i64 (x 0)) (b := .int .i64 (y 0)) rfl rfl (run_equalIn_int w 9998 3 .i64 .i64 _ _ Try.underlying3)
      (fE_cons (by kernel_rfl) (by kernel_rfl) (a := .int .i64 (x 1)) (b := .int .i64 (y 1)) rfl rfl (run_equalIn_int w 9998 3 .i64 .i64 _ _ Try.underlying3)
        (fE_cons (by kernel_rfl) (by kernel_rfl) (a := .int .i64 (x 2)) (b := .int .i64 (y 2)) rfl rfl (run_equalIn_int w 9998 3 .i64 .i64 _ _ Try.underlying3)
          (fE_cons (by kernel_rfl) (by kernel_rfl) (a := .int .i64 (x 3)) (b := .int .i64 (y 3)) rfl rfl (run_equalIn_int w 9998 3 .i64 .i64 _ _ Try.underlying3)
            (fE_cons (by kernel_rfl) (by kernel_rfl) (a := .int .i64 (x 4)) (b := .int .i64 (y 4)) rfl rfl (run_equalIn_int w 9998 3 .i64 .i64 _ _ Try.underlying3)
              (fE_cons (by kernel_rfl) (by kernel_rfl) (a := .int .i64 (x 5)) (b := .int .i64 (y 5)) rfl rfl (run_equalIn_int w 9998 3 .i64 .i64 _ _ Try.underlying3) fE_nil))))))
  rw [Bool.and_true] at h
  exact h
theorem eq28t {x y : Nat → Int} (h : ∀ i, i < 6 → x i = y i) (p q : Operand) (w : World) : ((do eqGuard .eql 28 p q (.agg (cC x)) (.agg (cC y)); binOp .eql 28 (.agg (cC x)) (.agg (cC y)) : Sem Value)).run Try.prog w = .ok (.bool true) w := by
  rw [eq28, h 0 (by decide), h 1 (by decide), h 2 (by decide), h 3 (by decide), h 4 (by decide), h 5 (by decide)]
  simp
theorem cC_list (x : Nat → Int) : cC x = ([x 0, x 1, x 2, x 3, x 4, x 5].map (Value.int .i64)).toArray := rfl
theorem ne37t {x y : Nat → Int} (h : ∀ i, i < 6 → x i = y i) (p q : Operand) (w : World) : ((do eqGuard .neq 37 p q (.agg (cC x)) (.agg (cC y)); binOp .neq 37 (.agg (cC x)) (.agg (cC y)) : Sem Value)).run Try.prog w = .ok (.bool false) w := by
  rw [cC_list x, cC_list y, run_ne_arr (n := 6) (e := 3) (by kernel_rfl) (by kernel_rfl) (by kernel_rfl) (by kernel_rfl) (by kernel_rfl) rfl rfl, h 0 (by decide), h 1 (by decide), h 2 (by decide), h 3 (by decide), h 4 (by decide), h 5 (by decide)]
  simp
section
variable {w : World} {Q : Value → World → Prop} {b : Nat} {l : List Fl} {x y : Nat → Int}
theorem build37 (a b c d e f : Int) (w : World) : (Instr.build 37 #[(0, .int .i64 a), (1, .int .i64 b), (2, .int .i64 c), (3, .int .i64 d), (4, .int .i64 e), (5, .int .i64 f)]).run Try.prog w = .ok (.agg #[.int .i64 a, .int .i64 b, .int .i64 c, .int .i64 d, .int .i64 e, .int .i64 f]) w := by
  kernel_rfl
/-- counts as the document has them -/
theorem f13_s (kk : ∀ w', Below w.heap.size w w' → Q (.agg (cC x)) w') : f13 (.agg (cC x)) w Q := by
  unfold f13
  rw [bx_e, al_e]
  rw [show (Value.agg (cC x)).cells = cC x from rfl]
  have h1 := blk_psh_new (w := w) (o := .cells (cC x) 28)
  have b1 := b_psh w (.cells (cC x) 28)
  generalize psh w (.cells (cC x) 28) = w1 at *
  have h2 := blk_psh_new (w := w1) (o := .cells #[.int .i64 0, .int .i64 0, .int .i64 0, .int .i64 0, .int .i64 0, .int .i64 0] 37)
  have b2 := b_psh w1 (.cells #[.int .i64 0, .int .i64 0, .int .i64 0, .int .i64 0, .int .i64 0, .int .i64 0] 37)
  have h1 := stay b2 h1
  have l1 : w.heap.size < w1.heap.size := blk_lt (by assumption)
  have bb := bt b1 b2
  generalize psh w1 (.cells #[.int .i64 0, .int .i64 0, .int .i64 0, .int .i64 0, .int .i64 0, .int .i64 0] 37) = w2 at *
  have c0 : w2.cell? ⟨w.heap.size, 0, none⟩ = some (.int .i64 (x 0)) := by rw [cell_of_blk (n := 0) h1]; rfl
  have c1 : w2.cell? ⟨w.heap.size, 1, none⟩ = some (.int .i64 (x 1)) := by rw [cell_of_blk (n := 1) h1]; rfl
  have c2 : w2.cell? ⟨w.heap.size, 2, none⟩ = some (.int .i64 (x 2)) := by rw [cell_of_blk (n := 2) h1]; rfl
  have c3 : w2.cell? ⟨w.heap.size, 3, none⟩ = some (.int .i64 (x 3)) := by rw [cell_of_blk (n := 3) h1]; rfl
  have c4 : w2.cell? ⟨w.heap.size, 4, none⟩ = some (.int .i64 (x 4)) := by rw [cell_of_blk (n := 4) h1]; rfl
  have c5 : w2.cell? ⟨w.heap.size, 5, none⟩ = some (.int .i64 (x 5)) := by rw [cell_of_blk (n := 5) h1]; rfl
  simp only [↓reduceIte, ↓LL, LM, Value.cells, Nat.reduceAdd, Option.some.injEq, exists_eq_left', decide_true, decide_false, if_true, if_false, reduceCtorEq, cond_true, cond_false, c0, c1, c2, c3, c4, c5]
  rw [smr_e]
  refine ⟨_, build37 _ _ _ _ _ _ _, ?_⟩
  refine stn_box (cs := cC x) h2 rfl rfl (cC_one _) fun w3 h3 u3 => ?_
  refine ldn_box h3 rfl ?_
  rw [rt_e]
  exact kk w3 (bb.trans (u3.below (by omega)))
/-- the document's counts -/
theorem dcount_loop {W : World} {v : Value} {lf : List Fl} {t2 : Value} {j1 : Value → Value → M} (hr : rdS 14 (eR encF) W v lf) (hl : lf.length ≤ 1000000) (hB : W.heap.size ≤ b) : ∀ (m i : Nat) (w : World), i + m = lf.length → Below W.heap.size W w → w.heap[b]? = some (.cells (cC (ctL (lf.take i))) 37 (0, 0)) →
    (∀ w', w'.heap[b]? = some (.cells (cC (ctL lf)) 37 (0, 0)) → Chg b w w' → j1 t2 (.pointer (some ⟨b, 0, none⟩)) w' Q) →
    itr (fun _ _ _ _ => bot) (f14_b2 j1) (m + 1) v t2 (.pointer (some ⟨b, 0, none⟩)) (.int .i64 (i : Int)) w Q := by
  intro m
  induction m with
  | zero =>
    intro i w hi hb hc kk
    show f14_b2 _ _ _ _ _ _ w Q
    unfold f14_b2
    refine lnl_S hr ?_
    have c1 : ¬ (i : Int) < (lf.length : Int) := by omega
    simp only [↓reduceIte, ↓LL, LM, Value.cells, Nat.reduceAdd, Option.some.injEq, exists_eq_left', decide_true, decide_false, if_true, if_false, reduceCtorEq, cond_true, cond_false, c1]
    rw [List.take_of_length_le (by omega)] at hc
    exact kk w hc (Chg.refl _ _)
  | succ m ih =>
    intro i w hi hb hc kk
    have hil : i < lf.length := by omega
    show f14_b2 _ _ _ _ _ _ w Q
    unfold f14_b2
    refine lnl_S hr ?_
    have c1 : (i : Int) < (lf.length : Int) := by omega
    have e5 : IntKind.i64.wrap ((i : Int) + 1) = ((i + 1 : Nat) : Int) := by rw [w64 (by omega) (by omega)]; omega
    obtain ⟨a, es, e1, e2, e3, e4⟩ := rdS_at hr hil
    have e3 : es = encF lf[i] := e3
    subst e3
    have cs5 := cellsAt_get (cellsAt_below hb e2) (j := 5) (v := .int .i64 lf[i].st) rfl
    have htk : lf.take (i + 1) = lf.take i ++ [lf[i]] := by rw [List.take_succ_eq_append_getElem hil]
    generalize hf : lf[i] = f at *
    by_cases hs : 1 ≤ f.st ∧ f.st ≤ 5
    · obtain ⟨j, hj5, hj⟩ : ∃ j : Nat, j < 5 ∧ f.st = (j : Int) + 1 := ⟨(f.st - 1).toNat, by omega, by omega⟩
      have hti : (f.st - 1).toNat = j := by omega
      have d1 : IntKind.i64.wrap (f.st - 1) = (j : Int) := by rw [w64 (by omega) (by omega)]; omega
      have d2 : (0 : Int) ≤ (j : Int) := by omega
      have d3 : (j : Int) < 6 := by omega
      have d4 : (j : Int) < ((6 : Nat) : Int) := by omega
      have cj : w.cell? ⟨b, j, none⟩ = some (.int .i64 (ctL (lf.take i) j)) := by rw [cell_of_blk (n := j) hc, cC_get _ (by omega)]
      simp only [↓reduceIte, ↓LL, LM, Value.cells, Nat.reduceAdd, Option.some.injEq, exists_eq_left', decide_true, decide_false, if_true, if_false, reduceCtorEq, cond_true, cond_false, c1, e4, cs5, hs.1, hs.2, d1, iaa_e, d2, d3, d4, Int.toNat_natCast, Nat.mul_one, add_lit, Nat.zero_add, cj, true_and]
      refine st_box hc (by rw [cC_len]; omega) rfl fun w2 hb2 u2 => ?_
      have g1 : (cC (ctL (lf.take i))).setIfInBounds j (.int .i64 (IntKind.i64.wrap (ctL (lf.take i) j + 1))) = cC (fun k => if k = j then ctL (lf.take i ++ [f]) j else ctL (lf.take i) k) := by
        refine cC_set _ _ (by omega) _ ?_ (fun k _ hk => by simp [hk])
        simp only [if_true]
        rw [ct_one]
        congr 3
        unfold dd
        rw [if_pos hj5, if_pos hj]
      rw [g1] at hb2
      have hb2 : (drw w2).heap[b]? = _ := hb2
      have b2 : Below W.heap.size W (drw w2) := Below_drw (hb.trans (u2.below hB))
      have cu : Chg b w (drw w2) := u2.chg.drw
      simp only [↓reduceIte, ↓LL, LM, Value.cells, Nat.reduceAdd, Option.some.injEq, exists_eq_left', decide_true, decide_false, if_true, if_false, reduceCtorEq, cond_true, cond_false]
      generalize drw w2 = w3 at *
      have c55 := cell_of_blk (n := 5) hb2
      rw [cC_get _ (by decide)] at c55
      have h5i : ¬ 5 = j := by omega
      simp only [h5i, if_false] at c55
      have cs6 := cellsAt_get (cellsAt_below b2 e2) (j := 6) (v := .int .i64 f.steps) rfl
      have z1 : (0 : Int) ≤ 5 := by decide
      have z2 : (5 : Int) < ((6 : Nat) : Int) := by decide
      have z3 : (5 : Int).toNat = 5 := rfl
      simp only [↓reduceIte, ↓LL, LM, Value.cells, Nat.reduceAdd, Option.some.injEq, exists_eq_left', decide_true, decide_false, if_true, if_false, reduceCtorEq, cond_true, cond_false, iaa_e, z1, z2, z3, true_and, Nat.mul_one, add_lit, Nat.zero_add, c55, e4, cs6]
      refine st_box hb2 (by rw [cC_len]; omega) rfl fun w4 hb4 u4 => ?_
      unfold f14_j3
      simp only [↓reduceIte, ↓LL, LM, Value.cells, Nat.reduceAdd, Option.some.injEq, exists_eq_left', decide_true, decide_false, if_true, if_false, reduceCtorEq, cond_true, cond_false, e5]
      have cc4 : Chg b w w4 := cu.trans u4.chg
      refine ih (i + 1) w4 (by omega) (b2.trans (u4.below hB)) ?_ fun w5 h5 c5 => kk w5 h5 (cc4.trans c5)
      rw [hb4, htk]
      congr 2
      refine cC_set _ _ (by omega) _ ?_ (fun k hk6 hk => ?_)
      · rw [ct_one]
        congr 3
        unfold dd
        rw [if_neg (by decide), if_pos hs]
      · by_cases c : k = j
        · subst c; simp
        · rw [if_neg c]
          refine ct_same ?_
          unfold dd
          rw [if_pos (by omega), if_neg (by omega)]
    · have fin : f14_j3 (itr (fun _ _ _ _ => bot) (f14_b2 j1) (m + 1)) v t2 (.pointer (some ⟨b, 0, none⟩)) (.int .i64 (i : Int)) w Q := by
        unfold f14_j3
        simp only [↓reduceIte, ↓LL, LM, Value.cells, Nat.reduceAdd, Option.some.injEq, exists_eq_left', decide_true, decide_false, if_true, if_false, reduceCtorEq, cond_true, cond_false, e5]
        refine ih (i + 1) w (by omega) hb ?_ kk
        rw [hc, htk]
        congr 2
        refine cC_ext fun k hk => (ct_same ?_).symm
        unfold dd
        split
        · rw [if_neg (by omega)]
        · first | rfl | rw [if_neg hs]
      by_cases s1 : 1 ≤ f.st
      · have s2 : ¬ f.st ≤ 5 := fun h => hs ⟨s1, h⟩
        simp only [↓reduceIte, ↓LL, LM, Value.cells, Nat.reduceAdd, Option.some.injEq, exists_eq_left', decide_true, decide_false, if_true, if_false, reduceCtorEq, cond_true, cond_false, c1, e4, cs5, s1, s2]
        exact fin
      · simp only [↓reduceIte, ↓LL, LM, Value.cells, Nat.reduceAdd, Option.some.injEq, exists_eq_left', decide_true, decide_false, if_true, if_false, reduceCtorEq, cond_true, cond_false, c1, e4, cs5, s1]
        exact fin
theorem f14_s {W : World} {v : Value} {lf : List Fl} (hr : rdS 14 (eR encF) W v lf) (hl : lf.length ≤ 1000000) (kk : ∀ w', Below W.heap.size W w' → Q (.agg (cC (ctL lf))) w') : f14 v W Q := by
  unfold f14
  rw [al_e, al_e]
  have h2 := blk_psh_new (w := W) (o := .cells #[.int .i64 0, .int .i64 0, .int .i64 0, .int .i64 0, .int .i64 0, .int .i64 0] 37)
  have b2 := b_psh W (.cells #[.int .i64 0, .int .i64 0, .int .i64 0, .int .i64 0, .int .i64 0, .int .i64 0] 37)
  generalize psh W (.cells #[.int .i64 0, .int .i64 0, .int .i64 0, .int .i64 0, .int .i64 0, .int .i64 0] 37) = w1 at *
  have h3 := blk_psh_new (w := w1) (o := .cells #[.int .i64 0, .int .i64 0, .int .i64 0, .int .i64 0, .int .i64 0, .int .i64 0] 37)
  have b3 := b_psh w1 (.cells #[.int .i64 0, .int .i64 0, .int .i64 0, .int .i64 0, .int .i64 0, .int .i64 0] 37)
  have h2 := stay b3 h2
  have hlt : W.heap.size < w1.heap.size := blk_lt (by assumption)
  have b23 := bt b2 b3
  generalize psh w1 (.cells #[.int .i64 0, .int .i64 0, .int .i64 0, .int .i64 0, .int .i64 0, .int .i64 0] 37) = w2 at *
  rw [jn_e]
  refine ⟨_, dcount_loop (W := W) hr hl b2.size lf.length 0 w2 (by omega) b23 h3 fun w3 h33 c3 => ?_⟩
  have h23 := c3.keep h2 (by omega)
  have b33 := bc b23 b2.size b23.size c3
  unfold f14_j1
  refine ldn_box h33 rfl ?_
  refine stn_box (cs := cC (ctL lf)) h23 rfl rfl (cC_one _) fun w4 h4 u4 => ?_
  refine ldn_box h4 rfl ?_
  rw [rt_e]
  exact kk w4 (b33.trans (u4.below (Nat.le_refl _)))
end
end Go.Proofs.Ytiajdaagamhbnaa

namespace Go.Proofs.Ytiajdaagamhbnaa
open Go.Shelf
open Sh RowKit Go.Maps Go.Sort
def kI : Int → Value := fun i => .int .i64 i
theorem sortsA (m : Nat) : AnyZI.SortsIn Try.prog sortedA_ren Fence.wide m :=
  ⟨fun blk off cap ss W hH hblk hsz => callsIn_wide.2 (AnyM.slices_Sort_int sortA blk off cap ss W hH hblk hsz),
   fun p cap W => callsIn_wide.2 (AnyM.slices_Sort_int_none sortA p cap W)⟩
abbrev R0 : Value → Option (DataW Unit × List MemPlace) := fun _ => some (.map [], [])
theorem sorted_c {w : World} {b nn : Nat} {D0 : DataW Unit} (hown : w.ownsMap Try.prog 3 R0 b nn D0) (hmax : Maps.size D0 ≤ maxLen) (hbytes : Maps.size D0 * 8 ≤ 140737488355328) :
    Calls Try.prog 25 #[.func (.func 46) #[] #[.pointer (some ⟨w.heap.size, 0, none⟩)]] (w.alloc (.cells #[.map (some b)] 58)) fun e w' => ∃ (v : Value) (ss : List Int), e = .returned v ∧ ss.Perm (intKeys D0) ∧
      w'.ownsRow (w.heap.size + 1) 3 1 v ss.length ((ss.mergeSort (fun x y => decide (x ≤ y))).map encZ) ∧ Below (w.heap.size + 1) (w.alloc (.cells #[.map (some b)] 58)) w' := by
  refine (callsIn_wide (n := 5)).1 ?_
  have hbl := hown.lt
  have hseq : SeqGives Fence.wide 2 Try.prog 46 #[.pointer (some ⟨w.heap.size, 0, none⟩)] encZ (fun ss => ss.Perm (intKeys D0)) (Maps.size D0) (w.alloc (.cells #[.map (some b)] 58)) :=
    AnyZI.keys_gives (ρ := keysA_ren) { keysA with } Fence.wide _ trivial rfl (by omega) w.heap.size b nn D0 _ (by simp) (by simp) (by
      obtain ⟨es, clock, hb, Ft, hs, hD⟩ := hown
      exact ⟨es, clock, (Below.heap_alloc _ _ b hbl).trans hb, Ft, hs, hD⟩)
  have cS := AnyZI.sorted_in sortedA Fence.wide 5 trivial trivial trivial trivial rfl (by omega) (sortsA _) (enters_of Try.func45 (by kernel_rfl) rfl) 46 #[.pointer (some ⟨w.heap.size, 0, none⟩)] trivial (enters_of Try.func46 (by kernel_rfl) rfl) _ _ hmax hbytes _ hseq
  change CallsIn _ _ Try.prog 25 _ _ _ at cS
  refine cS.mono ?_
  rintro e w' ⟨v, ss, rfl, hS, hrow, hnil, hb⟩
  have hrow2 : w'.ownsRow (w.heap.size + 1) 3 1 v ss.length ((ss.mergeSort (fun x y => decide (x ≤ y))).map encZ) := by
    have := hrow
    simp only [World.size_alloc] at this
    exact this
  exact ⟨v, ss, rfl, hS, hrow2, by simpa using hb⟩
open Go.WideElems in
theorem ownsMap_of {w : World} {b : Nat} {L : List (Int × Value)} (h : MapAt kI w b L) (hk : ∀ p ∈ L, (Lit.int .i64 p.1).wf = true) (hL : L.length ≤ 4096) :
    ∃ D0 : DataW Unit, w.ownsMap Try.prog 3 R0 b L.length D0 ∧ (intKeys D0).Perm (L.map (·.1)) ∧ Maps.size D0 = L.length := by
  obtain ⟨es, clock, h1, h2, h3⟩ := h
  have hlen : es.size = L.length := by have := congrArg List.length h3; simpa using this
  have hrd : ∀ x ∈ es.toList, ∃ i : Int, (∃ v, (i, v) ∈ L) ∧ x.key = .int .i64 i ∧ WideElems.rd (H := Unit) Try.prog 3 R0 x = some (.int .i64 i, .map []) := by
    intro x hx
    have : (x.key, x.val) ∈ L.map (fun p => (kI p.1, p.2)) := h3 ▸ List.mem_map.2 ⟨x, hx, rfl⟩
    obtain ⟨p, hp, e⟩ := List.mem_map.1 this
    have e1 : x.key = kI p.1 := (Prod.mk.inj e).1.symm
    have hw : (Lit.int .i64 p.1).wf = true := hk p hp
    refine ⟨p.1, ⟨p.2, hp⟩, e1, ?_⟩
    unfold WideElems.rd
    rw [e1, show kI p.1 = .int .i64 p.1 from rfl, Go.Maps.keyOf_int_mk Try.underlying3 hw]
    rfl
  refine ⟨.map ((es.toList.map (rg Try.prog 3 R0)).foldr DataW.insert []), ⟨es, clock, h1, ⟨by rw [hlen]; unfold maxLen; omega, h2, fun x hx => ?_⟩, by omega, rfl⟩, ?_, ?_⟩
  · obtain ⟨i, _, _, e⟩ := hrd x hx
    exact ⟨_, e⟩
  · show List.Perm (((es.toList.map (rg Try.prog 3 R0)).foldr DataW.insert []).map fun p => Go.intOf p.1) _
    refine ((WideShapes.sorted_perm _).map _).trans ?_
    have : (es.toList.map (rg (H := Unit) Try.prog 3 R0)).map (fun p => Go.intOf p.1) = L.map (·.1) := by
      rw [List.map_map]
      have e2 : L.map (·.1) = (L.map (fun p => (kI p.1, p.2))).map (fun q => match q.1 with | .int _ a => a | _ => 0) := by
        rw [List.map_map]; rfl
      rw [e2, ← h3, List.map_map]
      refine List.map_congr_left fun x hx => ?_
      obtain ⟨i, _, e, e'⟩ := hrd x hx
      simp [rg, e', e, Go.intOf]
    rw [this]
  · show ((es.toList.map (rg Try.prog 3 R0)).foldr DataW.insert []).length = _
    rw [(WideShapes.sorted_perm _).length_eq, List.length_map, Array.length_toList, hlen]
/-- the keys of a map, in order -/
theorem keys_s {w : World} {b : Nat} {L : List (Int × Value)} {K : Value → M} {Q : Value → World → Prop} (h : MapAt kI w b L) (hk : ∀ p ∈ L, (Lit.int .i64 p.1).wf = true) (hL : L.length ≤ 4096)
    (kk : ∀ w' v, ownI w.heap.size 3 .i64 w' v ((L.map (·.1)).mergeSort (fun x y => decide (x ≤ y))) → Below w.heap.size w w' → K v w' Q) : cc Try.prog 26 #[.map (some b)] (fun t9 => cc Try.prog 25 #[t9] K) w Q := by
  obtain ⟨D0, ho, hp, hs⟩ := ownsMap_of h hk hL
  have hc := sorted_c ho (by rw [hs]; unfold maxLen; omega) (by rw [hs]; omega)
  have cK : Calls Try.prog 26 #[.map (some b)] w fun e w' => e = .returned (.func (.func 46) #[] #[.pointer (some ⟨w.heap.size, 0, none⟩)]) ∧ w' = w.alloc (.cells #[.map (some b)] 58) := (callsIn_wide (n := 5)).1 (AnyZI.keys_in keysA Fence.wide 5 trivial rfl (some b) w)
  refine cK.mono ?_
  rintro e w' ⟨rfl, rfl⟩
  refine hc.mono ?_
  rintro e w' ⟨v, ss, rfl, hS, hrow, hb⟩
  have e1 : ss.mergeSort (fun x y => decide (x ≤ y)) = (L.map (·.1)).mergeSort (fun x y => decide (x ≤ y)) := by
    have hp2 : ((ss.mergeSort (fun x y => decide (x ≤ y))).Perm ((L.map (·.1)).mergeSort (fun x y => decide (x ≤ y)))) := (List.mergeSort_perm _ _).trans ((hS.trans hp).trans (List.mergeSort_perm _ _).symm)
    refine hp2.eq_of_pairwise (le := fun x y => x ≤ y) (fun a b _ _ h1 h2 => by omega) ?_ ?_
    · exact (List.pairwise_mergeSort (le := fun x y => decide (x ≤ y)) (fun a b c h1 h2 => by simp at *; omega) (fun a b => by simp; omega) _).imp (by simp)
    · exact (List.pairwise_mergeSort (le := fun x y => decide (x ≤ y)) (fun a b c h1 h2 => by simp at *; omega) (fun a b => by simp; omega) _).imp (by simp)
  rw [e1] at hrow
  have hl : ss.length = ((L.map (·.1)).mergeSort (fun x y => decide (x ≤ y))).length := by rw [← e1, List.length_mergeSort]
  refine kk w' v ?_ ⟨hb.os, hb.tape, hb.output, Nat.le_trans (by simp) hb.size, fun k hk => ?_⟩
  · have : ownI (w.heap.size + 1) 3 .i64 w' v ((L.map (·.1)).mergeSort (fun x y => decide (x ≤ y))) := by
      unfold ownI
      rw [← hl]
      exact hrow
    exact ownI_weak this (by omega)
  · rw [hb.block k (by omega)]
    exact Below.heap_alloc _ _ k hk
end Go.Proofs.Ytiajdaagamhbnaa

namespace Go.Proofs.Ytiajdaagamhbnaa
open Sh RowKit Go.MapKept

theorem KKc : KeyK Try.prog 58 3 28 (.int .i64) kI := ⟨by kernel_rfl, by kernel_rfl, fun a => by simp [kI, IsKey], fun a b h => by simpa [kI] using h⟩
theorem zero28 : zeroIs Try.prog 28 (.agg (cC (ctL []))) := by
  unfold zeroIs
  kernel_rfl
/-- a program's workflows -/
def flP (p : Int) (l : List Fl) : List Fl := l.filter fun f => decide (f.prog = p)
theorem flP_one (p : Int) (l : List Fl) (f : Fl) : flP p (l ++ [f]) = flP p l ++ (if f.prog = p then [f] else []) := by
  unfold flP
  rw [List.filter_append, List.filter_cons]
  by_cases c : f.prog = p <;> simp [c]
/-- the map of what each program's workflows come to -/
def MapOf (l : List Fl) (L : List (Int × Value)) : Prop := ∀ p, lk L p = if flP p l = [] then none else some (.agg (cC (ctL (flP p l))))
theorem MapOf.get {l : List Fl} {L : List (Int × Value)} (h : MapOf l L) (p : Int) : (lk L p).getD (.agg (cC (ctL []))) = .agg (cC (ctL (flP p l))) := by
  rw [h p]
  by_cases c : flP p l = []
  · rw [if_pos c, c]; rfl
  · rw [if_neg c]; rfl
theorem MapOf.put {l : List Fl} {L : List (Int × Value)} (h : MapOf l L) (f : Fl) : MapOf (l ++ [f]) (put L f.prog (.agg (cC (ctL (flP f.prog l ++ [f]))))) := by
  intro p
  rw [lk_put, flP_one]
  by_cases c : p = f.prog
  · subst c
    rw [if_pos rfl, if_pos rfl, if_neg (by simp)]
  · rw [if_neg c, if_neg (Ne.symm c), List.append_nil]
    exact h p
theorem MapOf.nil : MapOf [] [] := by
  intro p
  rfl
theorem MapOf.keys {l : List Fl} {L : List (Int × Value)} (h : MapOf l L) (p : Int) : p ∈ L.map (·.1) ↔ ∃ f ∈ l, f.prog = p := by
  have h1 : p ∈ L.map (·.1) ↔ lk L p ≠ none := by
    rw [Ne, lk_none]
    constructor
    · intro hp e
      obtain ⟨q, hq, e2⟩ := List.mem_map.1 hp
      exact e q hq e2
    · intro hp
      apply Classical.byContradiction
      intro hn
      exact hp fun q hq e => hn (List.mem_map.2 ⟨q, hq, e⟩)
  rw [h1, h p]
  by_cases c : flP p l = []
  · rw [if_pos c]
    constructor
    · intro e; exact absurd rfl e
    · rintro ⟨f, hf, e⟩
      have : f ∈ flP p l := List.mem_filter.2 ⟨hf, by simpa using e⟩
      rw [c] at this; cases this
  · rw [if_neg c]
    constructor
    · intro _
      obtain ⟨f, hf⟩ := List.exists_mem_of_ne_nil _ c
      obtain ⟨h2, h3⟩ := List.mem_filter.1 hf
      exact ⟨f, h2, by simpa using h3⟩
    · intro _ e; cases e
/-- a line: a program, its workflows -/
def encL (x : Int × List Fl) : List Value := .int .i64 x.1 :: (cC (ctL x.2)).toList
theorem encL_len : ∀ x, (encL x).length = 7 := fun _ => rfl
theorem encL_one : ∀ x, ∀ c ∈ encL x, c.oneCell' = true := by
  intro x c hc
  rcases List.mem_cons.1 hc with rfl | hc
  · rfl
  · exact cC_one _ c hc
theorem build31 (p : Int) (x : Nat → Int) (w : World) : (Instr.build 31 #[(0, .int .i64 p), (1, .agg (cC x))]).run Try.prog w = .ok (.agg #[.int .i64 p, .int .i64 (x 0), .int .i64 (x 1), .int .i64 (x 2), .int .i64 (x 3), .int .i64 (x 4), .int .i64 (x 5)]) w := by
  kernel_rfl
section
variable {w : World} {Q : Value → World → Prop} {b : Nat} {lf : List Fl}
set_option maxRecDepth 20000 in
theorem by_loop {W : World} {v : Value} {j1 : Value → M} (hr : rdS 14 (eR encF) W v lf) (hl : lf.length ≤ 1000000) (hB : W.heap.size ≤ b) : ∀ (m i : Nat) (L : List (Int × Value)) (w : World), i + m = lf.length → Below W.heap.size W w → MapAt kI w b L → MapOf (lf.take i) L →
    (∀ w' L', Below W.heap.size W w' → MapAt kI w' b L' → MapOf lf L' → j1 (.map (some b)) w' Q) →
    itr (fun _ _ _ _ => bot) (f9_b2 j1) (m + 1) (.map (some b)) v (.int .i64 (lf.length : Int)) (.int .i64 (i : Int)) w Q := by
  intro m
  induction m with
  | zero =>
    intro i L w hi hb hm hc kk
    show f9_b2 _ _ _ _ _ _ w Q
    unfold f9_b2
    have c1 : ¬ (i : Int) < (lf.length : Int) := by omega
    simp only [↓reduceIte, ↓LL, LM, Value.cells, Nat.reduceAdd, Option.some.injEq, exists_eq_left', decide_true, decide_false, if_true, if_false, reduceCtorEq, cond_true, cond_false, c1]
    rw [List.take_of_length_le (by omega)] at hc
    exact kk w L hb hm hc
  | succ m ih =>
    intro i L w hi hb hm hc kk
    have hil : i < lf.length := by omega
    show f9_b2 _ _ _ _ _ _ w Q
    unfold f9_b2
    have c1 : (i : Int) < (lf.length : Int) := by omega
    have e5 : IntKind.i64.wrap ((i : Int) + 1) = ((i + 1 : Nat) : Int) := by rw [w64 (by omega) (by omega)]; omega
    simp only [lt_e, cnd_e, c1, decide_true, cond_true]
    refine take14 hr hb hil ?_
    have htk : lf.take (i + 1) = lf.take i ++ [lf[i]] := by rw [List.take_succ_eq_append_getElem hil]
    generalize lf[i] = f at *
    refine box14 rfl fun w1 h1 b1 => ?_
    have hm1 := hm.below b1
    have p1 : w1.cell? ⟨w.heap.size, 1, none⟩ = some (.int .i64 f.prog) := by rw [cell_of_blk (n := 1) h1]; rfl
    simp only [↓reduceIte, ↓LL, LM, Value.cells, Nat.reduceAdd, Option.some.injEq, exists_eq_left', decide_true, decide_false, if_true, if_false, reduceCtorEq, cond_true, cond_false, add_lit, Nat.zero_add, p1]
    refine (look_v KKc hm1 zero28 f.prog).mpr ?_
    rw [hc.get]
    have h2 := blk_psh_new (w := w1) (o := .cells #[.int .i64 0, .int .i64 0, .int .i64 0, .int .i64 0, .int .i64 0, .int .i64 0] 28)
    have b2 := b_psh w1 (.cells #[.int .i64 0, .int .i64 0, .int .i64 0, .int .i64 0, .int .i64 0, .int .i64 0] 28)
    show stn 6 _ _ _ (psh w1 (.cells #[.int .i64 0, .int .i64 0, .int .i64 0, .int .i64 0, .int .i64 0, .int .i64 0] 28)) Q
    refine stn_box (cs := cC (ctL (flP f.prog (lf.take i)))) h2 rfl rfl (cC_one _) fun w3 h3 u3 => ?_
    have b3 : Below w1.heap.size w1 w3 := b2.trans (u3.below (Nat.le_refl _))
    have h13 := stay b3 h1
    have hm3 := hm1.below b3
    refine ldn_box h13 rfl ?_
    rw [cl_e]
    refine f24_s h3 fun w4 h4 c4 => ?_
    have hlt : b < w1.heap.size := hm1.lt
    have hlt2 : w.heap.size < w1.heap.size := blk_lt h1
    have h14 := c4.keep h13 (by omega)
    have hm4 := hm3.chg c4 (by omega)
    have p4 : w4.cell? ⟨w.heap.size, 1, none⟩ = some (.int .i64 f.prog) := by rw [cell_of_blk (n := 1) h14]; rfl
    simp only [↓reduceIte, ↓LL, LM, Value.cells, Nat.reduceAdd, Option.some.injEq, exists_eq_left', decide_true, decide_false, if_true, if_false, reduceCtorEq, cond_true, cond_false, add_lit, Nat.zero_add, p4]
    refine ldn_box h4 rfl ?_
    refine upd_map KKc hm4 f.prog _ fun w5 hm5 u5 => ?_
    have b15 : Below W.heap.size W w5 := (bc (bt hb (bt b1 b3)) (Nat.le_trans hb.size b1.size) (bt hb (bt b1 b3)).size c4).trans (u5.below hB)
    simp only [↓reduceIte, ↓LL, LM, Value.cells, Nat.reduceAdd, Option.some.injEq, exists_eq_left', decide_true, decide_false, if_true, if_false, reduceCtorEq, cond_true, cond_false, e5]
    refine ih (i + 1) _ w5 (by omega) b15 hm5 ?_ kk
    rw [htk]
    exact hc.put f
set_option maxRecDepth 20000 in
theorem lines_loop {W : World} {j3 : Value → M} {ks : List Int} {L : List (Int × Value)} {kv : Value} (hk : rdI .i64 W kv ks) (hl : ks.length ≤ 1000000) (hm : MapAt kI W b L) (hc : MapOf lf L) {B : Nat} (hB : B ≤ W.heap.size) : ∀ (m i : Nat) (ov : Value) (w : World), i + m = ks.length → Below W.heap.size W w →
    ownE W.heap.size 31 7 encL w ov ((ks.take i).map fun p => (p, flP p lf)) →
    (∀ w' ov', Below W.heap.size W w' → ownE W.heap.size 31 7 encL w' ov' (ks.map fun p => (p, flP p lf)) → j3 ov' w' Q) →
    itr (fun _ _ _ _ _ => bot) (f9_b4 j3) (m + 1) (.map (some b)) ov kv (.int .i64 (ks.length : Int)) (.int .i64 (i : Int)) w Q := by
  intro m
  induction m with
  | zero =>
    intro i ov w hi hb ho kk
    show f9_b4 _ _ _ _ _ _ _ w Q
    unfold f9_b4
    have c1 : ¬ (i : Int) < (ks.length : Int) := by omega
    simp only [↓reduceIte, ↓LL, LM, Value.cells, Nat.reduceAdd, Option.some.injEq, exists_eq_left', decide_true, decide_false, if_true, if_false, reduceCtorEq, cond_true, cond_false, c1]
    rw [List.take_of_length_le (by omega)] at ho
    exact kk w ov hb ho
  | succ m ih =>
    intro i ov w hi hb ho kk
    have hil : i < ks.length := by omega
    show f9_b4 _ _ _ _ _ _ _ w Q
    unfold f9_b4
    have c1 : (i : Int) < (ks.length : Int) := by omega
    have e5 : IntKind.i64.wrap ((i : Int) + 1) = ((i + 1 : Nat) : Int) := by rw [w64 (by omega) (by omega)]; omega
    have e6 : (i : Int).toNat = i := Int.toNat_natCast i
    simp only [lt_e, cnd_e, c1, decide_true, cond_true]
    refine ia_ld (rdI_below hb hk) (by omega) (by omega) fun _ => ?_
    simp only [e6]
    have htk : ks.take (i + 1) = ks.take i ++ [ks[i]] := by rw [List.take_succ_eq_append_getElem hil]
    generalize ks[i] = p at *
    refine (look_v KKc (hm.below hb) zero28 p).mpr ?_
    rw [hc.get, smr_e]
    refine ⟨_, build31 _ _ _, ?_⟩
    have h31 : slT Try.prog 25 31 _ 7 _ := slt25
    refine bslE (x := (p, flP p lf)) (enc := encL) h31 rfl (by decide) (by decide) rfl fun w2 h2 hb2 => ?_
    have b2 := bt hb hb2
    have o2 := ownE_below ho hb2
    have hlt : ((ks.take i).map fun p => (p, flP p lf)).length = i := by rw [List.length_map, List.length_take]; omega
    refine ap_E (m := [(p, flP p lf)]) h31 rfl (by decide) encL_len encL_one o2 (rd_lit rfl h2) (by rw [hlt]; unfold maxLen; simp; omega) (by rw [hlt]; simp; omega) b2.size fun v3 w3 o3 g3 _ => ?_
    simp only [↓reduceIte, ↓LL, LM, Value.cells, Nat.reduceAdd, Option.some.injEq, exists_eq_left', decide_true, decide_false, if_true, if_false, reduceCtorEq, cond_true, cond_false, e5]
    refine ih (i + 1) v3 w3 (by omega) (b2.grown g3 b2.size (fun k hk => (ownE_blk o2 k hk).1)) ?_ kk
    rw [htk, List.map_append]
    exact o3
/-- the lines, program by program -/
theorem f9_s {W : World} {v : Value} (hr : rdS 14 (eR encF) W v lf) (hl : lf.length ≤ 1000) (hwf : ∀ f ∈ lf, (Lit.int .i64 f.prog).wf = true)
    (kk : ∀ w' ov (ks : List Int), Below W.heap.size W w' → ks.Pairwise (· < ·) → (∀ p, p ∈ ks ↔ ∃ f ∈ lf, f.prog = p) → ks.length ≤ 1000 → ownE W.heap.size 31 7 encL w' ov (ks.map fun p => (p, flP p lf)) → Q ov w') : f9 v W Q := by
  unfold f9
  refine mm_map (kv := kI) fun w1 hm1 b1 => ?_
  refine lnl_S hr ?_
  rw [jn_e]
  refine ⟨_, by_loop (W := W) hr (by omega) (Nat.le_refl _) lf.length 0 [] w1 (by omega) b1 hm1 MapOf.nil fun w2 L b2 hm2 hc2 => ?_⟩
  unfold f9_j1
  have hnd := hm2.nodup
  have hkeys := hc2.keys
  have hlen : L.length ≤ 1000 := by
    have this := List.Nodup.length_le_of_subset hnd (l₂ := lf.map (·.prog)) fun p hp => by
      obtain ⟨f, hf, e⟩ := (hkeys p).1 hp
      exact List.mem_map.2 ⟨f, hf, e⟩
    rw [List.length_map, List.length_map] at this
    omega
  refine keys_s hm2 (fun p hp => ?_) (by omega) fun w3 kv hkv b3 => ?_
  · obtain ⟨f, hf, e⟩ := (hkeys p.1).1 (List.mem_map.2 ⟨p, hp, rfl⟩)
    rw [← e]; exact hwf f hf
  have hm3 := hm2.below b3
  have rkv := ownI_rd hkv
  refine lnl_rd rkv ?_
  have hks : ((L.map (·.1)).mergeSort (fun x y => decide (x ≤ y))).Pairwise (· < ·) := by
    have h1 := (List.pairwise_mergeSort (le := fun x y : Int => decide (x ≤ y)) (fun a b c h1 h2 => by simp at *; omega) (fun a b => by simp; omega) (L.map (·.1)))
    have h2 : ((L.map (·.1)).mergeSort (fun x y => decide (x ≤ y))).Nodup := (List.mergeSort_perm _ _).nodup_iff.2 hnd
    refine (h1.and h2).imp ?_
    rintro a b ⟨h3, h4⟩
    have h3 : a ≤ b := by simpa using h3
    have h4 : a ≠ b := h4
    omega
  have hmem : ∀ p, p ∈ (L.map (·.1)).mergeSort (fun x y => decide (x ≤ y)) ↔ ∃ f ∈ lf, f.prog = p := fun p => by
    rw [(List.mergeSort_perm _ _).mem_iff]; exact hkeys p
  have hkl : ((L.map (·.1)).mergeSort (fun x y => decide (x ≤ y))).length ≤ 1000 := by rw [List.length_mergeSort, List.length_map]; exact hlen
  have b13 := bt b2 b3
  generalize (L.map (·.1)).mergeSort (fun x y => decide (x ≤ y)) = ks at *
  rw [jn_e]
  refine ⟨_, lines_loop (W := w3) (B := 0) rkv (by omega) hm3 hc2 (Nat.zero_le _) ks.length 0 (.slice none 0 0) w3 (by omega) (Below.refl _ _) ownE_nil fun w4 ov b4 o4 => ?_⟩
  unfold f9_j3
  rw [rt_e]
  exact kk w4 ov ks (bt b13 b4) hks hmem hkl (ownE_weak o4 b13.size)
end
end Go.Proofs.Ytiajdaagamhbnaa

namespace Go.Proofs.Ytiajdaagamhbnaa
open Sh RowKit Go.MapKept

def noV : Vl := ⟨0, 0, ⟨#[]⟩⟩
def litF (st steps : Int) : Fl := ⟨0, 0, noV, st, steps, 0, noV, 0, none, 0, 0, false⟩
theorem build55a (w : World) : (Instr.build 55 #[(3, .int .i64 1), (4, .int .i64 2)]).run Try.prog w = .ok (.agg (cF (litF 1 2))) w := by kernel_rfl
theorem build55b (w : World) : (Instr.build 55 #[(3, .int .i64 4), (4, .int .i64 3)]).run Try.prog w = .ok (.agg (cF (litF 4 3))) w := by kernel_rfl
theorem build55c (w : World) : (Instr.build 55 #[]).run Try.prog w = .ok (.agg (cF (litF 0 0))) w := by kernel_rfl
theorem slice2 (w : World) : (Instr.buildSlice 22 2 #[(0, .agg (cF (litF 1 2))), (1, .agg (cF (litF 4 3)))]).run Try.prog w = .ok (.slice (some ⟨w.heap.size, 0, none⟩) 2 2) (psh w (.cells (([litF 1 2, litF 4 3].flatMap encF).toArray) 55)) := by
  kernel_rfl
theorem rd_row {α : Type} {enc : α → List Value} {n : Nat} {e : TypeId} {w : World} {g : Nat} {l : List α} (hn : ∀ x, (enc x).length = n) (hn0 : 0 < n) (hl : l.length ≤ maxLen) (h : w.heap[g]? = some (.cells (l.flatMap enc).toArray e (0, 0))) :
    rdS n (eR enc) w (.slice (some ⟨g, 0, none⟩) l.length l.length) l := by
  have hf := flat_len hn l
  refine ownE_rd (B := 0) (e := e) hn hn0 ⟨by rw [hf], .inr ⟨g, l.length, (l.flatMap enc).toArray, rfl, Nat.zero_le _, h, Nat.le_refl _, hl, by simpa using hf, ?_⟩⟩
  rw [List.take_of_length_le (by simp only [List.toList_toArray]; omega)]
theorem build28 (w : World) : (Instr.build 28 #[(0, .int .i64 1), (3, .int .i64 1), (5, .int .i64 5)]).run Try.prog w = .ok (.agg (cC fun i => if i = 0 then 1 else if i = 3 then 1 else if i = 5 then 5 else 0)) w := by kernel_rfl
section
variable {w : World} {Q : Value → World → Prop}
theorem f7_s (kk : ∀ w', Below w.heap.size w w' → Q (.bool true) w') : f7 w Q := by
  unfold f7
  rw [smr_e]
  refine ⟨_, build55a _, ?_⟩
  rw [smr_e]
  refine ⟨_, build55b _, ?_⟩
  refine ⟨_, _, slice2 w, ?_⟩
  have h1 := blk_psh_new (w := w) (o := .cells (([litF 1 2, litF 4 3].flatMap encF).toArray) 55)
  have b1 := b_psh w (.cells (([litF 1 2, litF 4 3].flatMap encF).toArray) 55)
  generalize psh w (.cells (([litF 1 2, litF 4 3].flatMap encF).toArray) 55) = w1 at *
  show cl _ _ w1 Q
  rw [cl_e]
  refine f11_s (rd_row (l := [litF 1 2, litF 4 3]) encF_len (by decide) (by decide) h1) (by decide) fun w2 b2 => ?_
  have b12 := bt b1 b2
  rw [al_e]
  have h3 := blk_psh_new (w := w2) (o := .cells #[.int .i64 0, .int .i64 0, .int .i64 0, .int .i64 0, .int .i64 0, .int .i64 0] 28)
  have b3 := b_psh w2 (.cells #[.int .i64 0, .int .i64 0, .int .i64 0, .int .i64 0, .int .i64 0, .int .i64 0] 28)
  refine stn_box (cs := cC (ctL [litF 1 2, litF 4 3])) h3 rfl rfl (cC_one _) fun w4 h4 u4 => ?_
  have b4 := b12.trans ((b3.trans (u4.below (Nat.le_refl _))).mono b12.size)
  refine ldn_box h4 rfl ?_
  rw [smr_e]
  refine ⟨_, build28 _, ?_⟩
  rw [smr_e]
  refine ⟨_, eq28t (fun i hi => ?_) _ _ _, ?_⟩
  · have : i = 0 ∨ i = 1 ∨ i = 2 ∨ i = 3 ∨ i = 4 ∨ i = 5 := by omega
    rcases this with rfl | rfl | rfl | rfl | rfl | rfl <;> rfl
  simp only [↓reduceIte, ↓LL, LM, Value.cells, Nat.reduceAdd, Option.some.injEq, exists_eq_left', decide_true, decide_false, if_true, if_false, reduceCtorEq, cond_true, cond_false]
  rw [smr_e]
  refine ⟨_, build55c _, ?_⟩
  simp only [↓reduceIte, ↓LL, LM, Value.cells, Nat.reduceAdd, Option.some.injEq, exists_eq_left', decide_true, decide_false, if_true, if_false, reduceCtorEq, cond_true, cond_false]
  refine bslE (x := litF 0 0) (enc := encF) slt22 rfl (by decide) (by decide) rfl fun w5 h5 b5 => ?_
  simp only [↓reduceIte, ↓LL, LM, Value.cells, Nat.reduceAdd, Option.some.injEq, exists_eq_left', decide_true, decide_false, if_true, if_false, reduceCtorEq, cond_true, cond_false]
  refine f9_s (rd_lit rfl h5) (by decide) (fun f hf => by rw [List.mem_singleton.1 hf]; rfl) fun w6 ov ks b6 hp hm hl ho => ?_
  have hk : ks = [0] := by
    have h0 : (0 : Int) ∈ ks := (hm 0).2 ⟨litF 0 0, by simp, rfl⟩
    have h1 : ∀ p ∈ ks, p = 0 := fun p hp => by
      obtain ⟨f, hf, e⟩ := (hm p).1 hp
      rw [List.mem_singleton.1 hf] at e
      exact e.symm
    match ks, hp, h0, h1 with
    | [a], _, _, h1 => rw [h1 a (by simp)]
    | a :: b :: r, hp, _, h1 =>
      have e1 := h1 a (by simp)
      have e2 := h1 b (by simp)
      have := (List.pairwise_cons.1 hp).1 b (by simp)
      omega
  subst hk
  have ro := ownE_rd encL_len (by decide) ho
  try simp only [↓reduceIte, ↓LL, LM, Value.cells, Nat.reduceAdd, Option.some.injEq, exists_eq_left', decide_true, decide_false, if_true, if_false, reduceCtorEq, cond_true, cond_false]
  refine lnl_S ro ?_
  simp only [↓reduceIte, ↓LL, LM, Value.cells, Nat.reduceAdd, Option.some.injEq, exists_eq_left', decide_true, decide_false, if_true, if_false, reduceCtorEq, cond_true, cond_false, List.length_map, List.length_singleton, show (((1 : Nat) : Int) = 1) from rfl]
  exact kk w6 (bt (bt b4 b5) b6)
/-- the first 150 -/
theorem f8_s {v : Value} {l : List Fl} (hr : rdS 14 (eR encF) w v l) (kk : ∀ v', rdS 14 (eR encF) w v' (l.take 150) → Q v' w) : f8 v w Q := by
  unfold f8
  refine lnl_S hr ?_
  have e1 : (if (150 : Int) < (l.length : Int) then (150 : Int) else (l.length : Int)) = ((min l.length 150 : Nat) : Int) := by split <;> omega
  simp only [↓reduceIte, ↓LL, LM, Value.cells, Nat.reduceAdd, Option.some.injEq, exists_eq_left', decide_true, decide_false, if_true, if_false, reduceCtorEq, cond_true, cond_false, e1]
  refine sll_S hr (Nat.min_le_left _ _) fun v' hr' => ?_
  rw [rt_e]
  refine kk v' ?_
  have : l.take (min l.length 150) = l.take 150 := by
    rcases Nat.le_total l.length 150 with c | c
    · rw [Nat.min_eq_left c, List.take_of_length_le (Nat.le_refl _), List.take_of_length_le c]
    · rw [Nat.min_eq_right c]
  rw [← this]; exact hr'
end
end Go.Proofs.Ytiajdaagamhbnaa

namespace Go.Proofs.Ytiajdaagamhbnaa
open Sh RowKit Go.MapKept

theorem cells_tail {w : World} {a : Addr} {v : Value} {es : List Value} (h : cellsAt w a (v :: es)) : cellsAt w (a.add 1) es := by
  intro j u hj
  have := h (j + 1) u (by simpa using hj)
  have e : (a.add 1).add j = a.add (j + 1) := by
    unfold Addr.add
    by_cases z : j = 0
    · subst z; simp
    · simp [z, Nat.add_assoc, Nat.add_comm 1 j]
  rw [e]; exact this
section
variable {w : World} {Q : Value → World → Prop} {b : Nat} {l : List Fl}
end
end Go.Proofs.Ytiajdaagamhbnaa

namespace Go.Proofs.Ytiajdaagamhbnaa
open Sh RowKit Go.MapKept

theorem bs0 {t e : TypeId} {z : Value} {n b : Nat} {w : World} (h : slT Try.prog t e z n b) : (Instr.buildSlice t 0 #[]).run Try.prog w = .ok (.slice (some ⟨w.heap.size, 0, none⟩) 0 0) (psh w (.cells #[] e)) := by
  obtain ⟨i, h1, h2, h3, h4, h5⟩ := slT_info h
  simp only [Instr.buildSlice, underlying, Sem.run_bind, run_program, Result.andThen_ok, h1, Sem.run_pure, sizeOf, typeInfo, h2, h4, zeroValue, h3]
  have e0 : Array.map (fun (_ : Nat) => (default : Value)) (Array.range 0) = #[] := by apply Array.eq_empty_of_size_eq_zero; simp
  simp [Instr.fill, newRow, newObj, psh, Sem.run, e0]
section
variable {α : Type} {enc : α → List Value} {n : Nat} {P : Program} {w : World} {Q : Value → World → Prop} {K : Value → M}
theorem sn_eq {t e : TypeId} {p : Option Addr} {a c : Nat} {x y : Operand} (h : P.underlying t = some (.slice e)) : ((do eqGuard .eql t x y (.slice p a c) (.slice none 0 0); binOp .eql t (.slice p a c) (.slice none 0 0) : Sem Value)).run P w = .ok (.bool p.isNone) w := by
  simp [eqGuard, Go.Lib.run_eql_slice_nil w t e p a c 0 0 h]
/-- one taken from a list -/
theorem takeE {W : World} {v : Value} {l : List α} {i : Nat} (hn : ∀ x, (enc x).length = n) (hr : rdS n (eR enc) W v l) (hb : Below W.heap.size W w) (hi : i < l.length)
    (kk : K (.agg (enc l[i]).toArray) w Q) : ia n v (.int .i64 (i : Int)) (fun p => ldn n p K) w Q := by
  obtain ⟨a, es, e1, e2, e3, e4⟩ := rdS_at hr hi
  have e3 : es = enc l[i] := e3
  subst e3
  rw [e4]
  exact ldn_at (cellsAt_below hb e2) e1 kk
theorem boxE {e : TypeId} {z : Array Value} {x : α} (hn : ∀ x, (enc x).length = n) (h1 : ∀ x, ∀ c ∈ enc x, c.oneCell' = true) (hz : z.size = n) (kk : ∀ w', w'.heap[w.heap.size]? = some (.cells (enc x).toArray e (0, 0)) → Below w.heap.size w w' → K (.pointer (some ⟨w.heap.size, 0, none⟩)) w' Q) :
    al e z (fun p => stn n p (.agg (enc x).toArray) (K p)) w Q := by
  rw [al_e]
  refine stn_box (cs := (enc x).toArray) (blk_psh_new (w := w) (o := .cells z e)) hz (by simpa using hn x) (by simpa using h1 x) fun w3 hw3 hu3 => ?_
  exact kk w3 hw3 ((b_psh w (.cells z e)).trans (hu3.below (Nat.le_refl _)))
/-- a function that tells which are left out -/
def PredOf (P : Program) {β : Type} (V : World) (g : Nat) (f : Value) (hd : β → Value) (pr : β → Bool) : Prop := ∀ (x : β) (w : World) (K : Value → M) (Q : Value → World → Prop), Chg g V w →
  (∀ (w' : World), Below w.heap.size w w' → K (.bool (pr x)) w' Q) → cf P f #[hd x] K w Q
/-- the end of a row cleared, the beginning kept -/
theorem del_tail {B g cap k b ty : Nat} {t e : TypeId} {z : Value} {Y : List α} (ht : slT P t e z n b) (hz : z.cells.size = n) (hz1 : ∀ c ∈ z.cells.toList, c.oneCell' = true) (hn : ∀ x, (enc x).length = n) (hn0 : 0 < n) (hu : P.underlying t = some (.slice e))
    (ho : ownE B e n enc w (.slice (some ⟨g, 0, none⟩) Y.length cap) Y) (hk : k < Y.length)
    (kk : ∀ w', ownE B e n enc w' (.slice (some ⟨g, 0, none⟩) k cap) (Y.take k) → Upd g w w' → K (.slice (some ⟨g, 0, none⟩) k cap) w' Q) :
    sll n (.slice (some ⟨g, 0, none⟩) Y.length cap) (some (.int .i64 (k : Int))) none (fun t38 => sm P (Builtin.clear_ #[t] ty #[t38]) (fun _ => sll n (.slice (some ⟨g, 0, none⟩) Y.length cap) none (some (.int .i64 (k : Int))) K)) w Q := by
  obtain ⟨g', cap', cur, e1, hob, hgB, hg, hcl, hcm, hcs, hct⟩ := ownE_open ho (by omega)
  cases e1
  refine ⟨some ⟨g, 0, none⟩, Y.length, cap, k, Y.length, rfl, rfl, ⟨_, _, rfl, by omega, by omega, by omega⟩, ?_⟩
  rw [if_neg (by omega)]
  obtain ⟨i, g1, g2, g3, g4, g5⟩ := slT_info ht
  have hzc : (Builtin.zeroCells z.cells (Y.length - k)).size = (Y.length - k) * n := by simp [Builtin.zeroCells, hz]
  have hin : k * n + (Y.length - k) * n = Y.length * n := by rw [← Nat.add_mul]; congr 1; omega
  have hcap : Y.length * n ≤ cap * n := Nat.mul_le_mul_right _ hcl
  have hst := run_storeCells_at (P := P) g (k * n) e (Builtin.zeroCells z.cells (Y.length - k)).toList 0 cur w hg (by simp only [Array.length_toList, hzc, Nat.add_zero]; omega) (by
    intro v hv
    simp only [Builtin.zeroCells, Array.toList_map, List.mem_map] at hv
    obtain ⟨j, hj, rfl⟩ := hv
    have hm : j % z.cells.size < z.cells.size := Nat.mod_lt _ (by omega)
    rw [getElem!_pos z.cells _ hm]
    exact hz1 _ (by simp))
  obtain ⟨u1, u2⟩ := Upd_setRow (cs := (cur.toList.take (k * n + 0) ++ (Builtin.zeroCells z.cells (Y.length - k)).toList ++ cur.toList.drop (k * n + 0 + (Builtin.zeroCells z.cells (Y.length - k)).toList.length)).toArray) hg
  obtain ⟨m, hm⟩ : ∃ m, Y.length - k = m + 1 := ⟨Y.length - k - 1, by omega⟩
  have hrun : (Builtin.clear_ #[t] ty #[.slice (some ⟨g, k * n, none⟩) (Y.length - k) (cap - k)]).run P w = .ok (.tuple #[]) (w.setRow g (cur.toList.take (k * n + 0) ++ (Builtin.zeroCells z.cells (Y.length - k)).toList ++ cur.toList.drop (k * n + 0 + (Builtin.zeroCells z.cells (Y.length - k)).toList.length)).toArray) := by
    rw [hm] at hst ⊢
    simp [Builtin.clear_, run_underlying hu, zeroValue, typeInfo, g2, g3, hst, Result.andThen]
  refine ⟨_, _, by rw [Option.map_some, add_lit, Nat.zero_add]; exact hrun, ?_⟩
  refine ⟨some ⟨g, 0, none⟩, Y.length, cap, 0, k, rfl, ⟨_, _, rfl, by omega, by omega, by omega⟩, rfl, ?_⟩
  have ev : (if cap = 0 then some (⟨g, 0, none⟩ : Addr) else (some (⟨g, 0, none⟩ : Addr)).map (fun x : Addr => x.add (0 * n))) = some ⟨g, 0, none⟩ := by split <;> simp [add_zero']
  rw [ev, Nat.sub_zero, Nat.sub_zero]
  refine kk _ ?_ u1
  have hlt : (Y.take k).length = k := by rw [List.length_take]; omega
  have hkl : k * n ≤ cur.toList.length := by simp; omega
  refine ⟨by rw [flat_len hn, hlt], .inr ⟨g, cap, _, by rw [hlt], hgB, u2, by omega, hcm, ?_, ?_⟩⟩
  · simp only [List.size_toArray, List.length_append, List.length_take, List.length_drop, Array.length_toList, hzc, hcs, Nat.add_zero]
    omega
  · simp only [Nat.add_zero, List.append_assoc, hlt]
    rw [List.take_append_of_le_length (by rw [List.length_take]; omega), List.take_take, Nat.min_self]
    have h5 := congrArg (List.take (k * n)) hct
    rw [List.take_take, Nat.min_eq_left (by omega)] at h5
    rw [h5]
    have h6 : (Y.take k).flatMap enc = (Y.flatMap enc).take (k * n) := by
      have h7 : Y.flatMap enc = (Y.take k).flatMap enc ++ (Y.drop k).flatMap enc := by rw [← List.flatMap_append, List.take_append_drop]
      have h8 : ((Y.take k).flatMap enc).length = k * n := by rw [flat_len hn, hlt]
      rw [h7, List.take_append_of_le_length (by omega)]
      exact (List.take_of_length_le (by omega)).symm
    rw [h6]
end
/-! a row cloned, the first one found, some of it left out (functions CL, IDX, DEL of the slices package at one element type) -/
section
variable {w V W : World} {Q : Value → World → Prop} {v cf : Value} {l : List Fl} {g : Nat} {pr : Fl → Bool}
theorem f29_s (h : rdS 14 (eR encF) w v l) (hsz : l.length * 144 ≤ 140737488355328) (kk : ∀ w' u, ownE w.heap.size 55 14 encF w' u l → Below w.heap.size w w' → Q u w') : f29 v w Q := by
  unfold f29
  obtain ⟨p, c, hv⟩ := rdS_len h
  refine Eq.mpr (smr_run (by rw [hv]; exact sn_eq Try.underlying22)) ?_
  cases p with
  | none =>
    have hr0 : l = [] := by
      rcases h with ⟨_, h⟩ | ⟨a, c', e, _⟩
      · exact h
      · rw [hv] at e; cases e
    subst hr0
    simp only [↓reduceIte, ↓LL, LM, Value.cells, Nat.reduceAdd, Option.some.injEq, exists_eq_left', decide_true, decide_false, if_true, if_false, reduceCtorEq, cond_true, cond_false, Option.isNone]
    exact kk w _ ownE_nil (Below.refl _ w)
  | some a =>
    simp only [↓reduceIte, ↓LL, LM, Value.cells, Nat.reduceAdd, Option.some.injEq, exists_eq_left', decide_true, decide_false, if_true, if_false, reduceCtorEq, cond_true, cond_false, Option.isNone]
    refine ⟨_, _, bs0 slt22, ?_⟩
    have b1 := b_psh w (.cells #[] 55)
    have o1 : ownE w.heap.size 55 14 encF (psh w (.cells #[] 55)) (.slice (some ⟨w.heap.size, 0, none⟩) 0 0) ([] : List Fl) := ⟨by simp, .inr ⟨w.heap.size, 0, #[], rfl, Nat.le_refl _, blk_psh_new, Nat.le_refl _, by unfold maxLen; omega, by simp, by simp⟩⟩
    refine ap_E (m := l) slt22 rfl (by decide) encF_len encF_one o1 (rdS_below eR_st b1 h) (by unfold maxLen; simp; omega) (by simpa using hsz) b1.size fun v2 w2 o2 g2 _ => ?_
    simp only [↓reduceIte, ↓LL, LM, Value.cells, Nat.reduceAdd, Option.some.injEq, exists_eq_left', decide_true, decide_false, if_true, if_false, reduceCtorEq, cond_true, cond_false]
    rw [List.nil_append] at o2
    exact kk w2 v2 o2 (b1.grown g2 b1.size (fun k hk => (ownE_blk o1 k hk).1))
theorem f47_loop {j1 : M} (hr : rdS 14 (eR encF) V v l) (hl : l.length ≤ 281474976710656) (hp : PredOf Try.prog V g cf (fun x => .agg (encF x).toArray) pr) : ∀ (m i : Nat) (w : World), i + m = l.length → Below V.heap.size V w → (∀ x ∈ l.take i, pr x = false) →
    (∀ w' k (hk : k < l.length), Below V.heap.size V w' → pr l[k] = true → (∀ x ∈ l.take k, pr x = false) → Q (.int .i64 (k : Int)) w') → (∀ w', Below V.heap.size V w' → (∀ x ∈ l, pr x = false) → j1 w' Q) →
    itr (fun _ _ _ _ => bot) (f47_b2 j1) (m + 1) v cf (.int .i64 (l.length : Int)) (.int .i64 (i : Int)) w Q := by
  intro m
  induction m with
  | zero =>
    intro i w hi hb hf k1 k0
    show f47_b2 _ _ _ _ _ _ w Q
    unfold f47_b2
    have c1 : ¬ (i : Int) < (l.length : Int) := by omega
    simp only [↓reduceIte, ↓LL, LM, Value.cells, Nat.reduceAdd, Option.some.injEq, exists_eq_left', decide_true, decide_false, if_true, if_false, reduceCtorEq, cond_true, cond_false, c1]
    rw [List.take_of_length_le (by omega)] at hf
    exact k0 w hb hf
  | succ m ih =>
    intro i w hi hb hf k1 k0
    show f47_b2 _ _ _ _ _ _ w Q
    unfold f47_b2
    have hil : i < l.length := by omega
    have c1 : (i : Int) < (l.length : Int) := by omega
    have e5 : IntKind.i64.wrap ((i : Int) + 1) = ((i + 1 : Nat) : Int) := by rw [w64 (by omega) (by omega)]; omega
    simp only [lt_e, cnd_e, c1, decide_true, cond_true]
    refine takeE encF_len hr hb hil ?_
    refine hp _ w _ _ (Chg.of_below hb) fun w1 b1 => ?_
    cases hpr : pr l[i] with
    | true =>
      simp only [↓reduceIte, ↓LL, LM, Value.cells, Nat.reduceAdd, Option.some.injEq, exists_eq_left', decide_true, decide_false, if_true, if_false, reduceCtorEq, cond_true, cond_false]
      exact k1 w1 i hil (bt hb b1) hpr hf
    | false =>
      simp only [↓reduceIte, ↓LL, LM, Value.cells, Nat.reduceAdd, Option.some.injEq, exists_eq_left', decide_true, decide_false, if_true, if_false, reduceCtorEq, cond_true, cond_false, e5]
      refine ih (i + 1) w1 (by omega) (bt hb b1) (fun x hx => ?_) k1 k0
      rw [List.take_succ_eq_append_getElem hil] at hx
      rcases List.mem_append.1 hx with hx | hx
      · exact hf x hx
      · rw [List.mem_singleton.1 hx]; exact hpr
theorem f28_loop {cap : Nat} {B : Nat} {j1 : Value → Value → M} (hl : l.length ≤ 281474976710656) (hBV : B ≤ V.heap.size) (hgV : g < V.heap.size) (hp : PredOf Try.prog V g cf (fun x => .agg (encF x).toArray) pr) : ∀ (m i k : Nat) (Y : List Fl) (w : World), i + m = l.length → k < i → Y.length = l.length → Chg g V w →
    ownE B 55 14 encF w (.slice (some ⟨g, 0, none⟩) l.length cap) Y → Y.take k = (l.take i).filter (fun x => !pr x) → Y.drop i = l.drop i →
    (∀ w' k Y, k < l.length → Y.length = l.length → Chg g V w' → ownE B 55 14 encF w' (.slice (some ⟨g, 0, none⟩) l.length cap) Y → Y.take k = l.filter (fun x => !pr x) → j1 (.slice (some ⟨g, 0, none⟩) l.length cap) (.int .i64 (k : Int)) w' Q) →
    itr (fun _ _ _ _ => bot) (f28_b2 j1) (m + 1) (.slice (some ⟨g, 0, none⟩) l.length cap) cf (.int .i64 (k : Int)) (.int .i64 (i : Int)) w Q := by
  intro m
  induction m with
  | zero =>
    intro i k Y w hi hk hY hc ho ht hd kk
    show f28_b2 _ _ _ _ _ _ w Q
    unfold f28_b2
    have c1 : ¬ (i : Int) < (l.length : Int) := by omega
    simp only [↓reduceIte, ↓LL, LM, Value.cells, Nat.reduceAdd, Option.some.injEq, exists_eq_left', decide_true, decide_false, if_true, if_false, reduceCtorEq, cond_true, cond_false, c1]
    rw [List.take_of_length_le (l := l) (by omega)] at ht
    exact kk w k Y (by omega) hY hc ho ht
  | succ m ih =>
    intro i k Y w hi hk hY hc ho ht hd kk
    show f28_b2 _ _ _ _ _ _ w Q
    unfold f28_b2
    have hil : i < l.length := by omega
    have c1 : (i : Int) < (l.length : Int) := by omega
    have e5 : IntKind.i64.wrap ((i : Int) + 1) = ((i + 1 : Nat) : Int) := by rw [w64 (by omega) (by omega)]; omega
    have e6 : IntKind.i64.wrap ((k : Int) + 1) = ((k + 1 : Nat) : Int) := by rw [w64 (by omega) (by omega)]; omega
    have hYi : Y[i]'(by omega) = l[i] := by
      have h0 := congrArg (fun z : List Fl => z[0]?) hd
      simpa [hY, hil] using h0
    have hdd : Y.drop (i + 1) = l.drop (i + 1) := by
      have := congrArg (List.drop 1) hd
      simpa [List.drop_drop, Nat.add_comm] using this
    simp only [lnl_e, lt_e, cnd_e, c1, decide_true, cond_true]
    refine takeE encF_len (ownE_rd encF_len (by decide) ho) (Below.refl _ w) (by omega) ?_
    rw [hYi]
    refine boxE encF_len encF_one rfl fun w1 h1 b1 => ?_
    have o1 := ownE_below ho b1
    have c01 := hc.trans (Chg.of_below b1)
    refine ldn_box h1 rfl ?_
    refine hp _ w1 _ _ c01 fun w2 b2 => ?_
    have o2 := ownE_below o1 b2
    have h2 := stay b2 h1
    have c02 := c01.trans (Chg.of_below b2)
    have hfl : (l.take (i + 1)).filter (fun x => !pr x) = (l.take i).filter (fun x => !pr x) ++ (if pr l[i] = true then [] else [l[i]]) := by
      rw [List.take_succ_eq_append_getElem hil, List.filter_append, List.filter_cons]
      cases pr l[i] <;> simp
    cases hpr : pr l[i] with
    | true =>
      rw [hpr] at hfl
      simp only [↓reduceIte, ↓LL, LM, Value.cells, Nat.reduceAdd, Option.some.injEq, exists_eq_left', decide_true, decide_false, if_true, if_false, reduceCtorEq, cond_true, cond_false]
      unfold f28_j3
      simp only [↓reduceIte, ↓LL, LM, Value.cells, Nat.reduceAdd, Option.some.injEq, exists_eq_left', decide_true, decide_false, if_true, if_false, reduceCtorEq, cond_true, cond_false, e5]
      refine ih (i + 1) k Y w2 (by omega) (by omega) hY c02 o2 ?_ hdd kk
      rw [ht, hfl]; simp
    | false =>
      rw [hpr] at hfl
      simp only [nt_e, Bool.not_false, jn_e, cnd_e, cond_true, if_true, ↓reduceIte]
      refine ldn_box h2 rfl ?_
      rw [show Value.agg (encF l[i]).toArray = .agg (encF l[i]).toArray from rfl]
      refine ia_stnE (y := l[i]) encF_len encF_one o2 (by omega) fun w3 g' hg' o3 u3 => ?_
      cases hg'
      unfold f28_j3
      simp only [↓reduceIte, ↓LL, LM, Value.cells, Nat.reduceAdd, Option.some.injEq, exists_eq_left', decide_true, decide_false, if_true, if_false, reduceCtorEq, cond_true, cond_false, e5, e6]
      refine ih (i + 1) (k + 1) (Y.set k l[i]) w3 (by omega) (by omega) (by rw [List.length_set]; exact hY) (c02.trans u3.chg) o3 ?_ ?_ kk
      · rw [List.take_succ_eq_append_getElem (by rw [List.length_set]; omega), List.getElem_set_self, List.take_set_of_le (Nat.le_refl _), ht, hfl]
        simp
      · rw [List.drop_set_of_lt (by omega)]; exact hdd
/-- some left out -/
theorem f28_s {B : Nat} (ho : ownE B 55 14 encF V v l) (hBV : B ≤ V.heap.size) (hl : l.length ≤ 281474976710656) (hp : ∀ g, v.ownBlock = some g → PredOf Try.prog V g cf (fun x => .agg (encF x).toArray) pr)
    (kk : ∀ w' v', ownE B 55 14 encF w' v' (l.filter fun x => !pr x) → ChgS (fun k => v.ownBlock = some k) V w' → v'.ownBlock = v.ownBlock → Q v' w') : f28 v cf V Q := by
  unfold f28
  have hr := ownE_rd encF_len (by decide) ho
  rw [cl_e]
  unfold f47
  refine lnl_S hr ?_
  have kno : ∀ w', Below V.heap.size V w' → (∀ x ∈ l, pr x = false) → f47_j1 w' (fun t10 w => (eqi .i64 t10 (.int .i64 (-1)) fun t12 => cnd t12 (rt v) (ad .i64 t10 (.int .i64 1) fun t15 => jn (fun j1 => lo (fun _ _ _ _ => bot) (f28_b2 j1) (fun l => l v cf t10 t15)) f28_j1)) w Q) := by
    intro w' b' hall
    unfold f47_j1
    simp only [↓reduceIte, ↓LL, LM, Value.cells, Nat.reduceAdd, Option.some.injEq, exists_eq_left', decide_true, decide_false, if_true, if_false, reduceCtorEq, cond_true, cond_false]
    refine kk w' v ?_ (ChgS.of_below b') rfl
    have : l.filter (fun x => !pr x) = l := List.filter_eq_self.2 (fun x hx => by simp [hall x hx])
    rw [this]; exact ownE_below ho b'
  rcases Nat.eq_zero_or_pos l.length with h0 | h0
  · have hl0 : l = [] := List.length_eq_zero_iff.1 h0
    subst hl0
    rw [jn_e]
    refine ⟨1, ?_⟩
    show f47_b2 _ _ _ _ _ _ V _
    unfold f47_b2
    have c1 : ¬ (0 : Int) < ((([] : List Fl).length : Nat) : Int) := by simp
    simp only [lt_e, cnd_e, c1, decide_false, cond_false, if_false, ↓reduceIte, Bool.false_eq_true]
    exact kno V (Below.refl _ _) (fun x hx => by cases hx)
  · obtain ⟨g, cap, cur, rfl, hob, hgB, hg, hcl, hcm, hcs, hct⟩ := ownE_open ho h0
    have hpp := hp g rfl
    rw [jn_e]
    refine ⟨_, f47_loop hr hl hpp l.length 0 V (by omega) (Below.refl _ _) (fun x hx => by cases hx) ?_ kno⟩
    intro w1 k hk b1 hpr hpre
    have e5 : IntKind.i64.wrap ((k : Int) + 1) = ((k + 1 : Nat) : Int) := by rw [w64 (by omega) (by omega)]; omega
    have c1 : ¬ (k : Int) = -1 := by omega
    simp only [↓reduceIte, ↓LL, LM, Value.cells, Nat.reduceAdd, Option.some.injEq, exists_eq_left', decide_true, decide_false, if_true, if_false, reduceCtorEq, cond_true, cond_false, c1, e5]
    refine ⟨_, f28_loop (V := V) (g := g) (cap := cap) (B := B) (l := l) (pr := pr) hl hBV (blk_lt hg) hpp (l.length - (k + 1)) (k + 1) k l w1 (by omega) (by omega) rfl (Chg.of_below b1) (ownE_below ho b1) ?_ rfl ?_⟩
    · rw [List.take_succ_eq_append_getElem hk, List.filter_append, List.filter_cons, hpr, List.filter_eq_self.2 (fun x hx => by simp [hpre x hx])]
      simp
    · intro w2 k2 Y hk2 hY c2 o2 ht
      unfold f28_j1
      rw [← hY] at o2 hk2
      have hlY : (Value.slice (some ⟨g, 0, none⟩) l.length cap) = .slice (some ⟨g, 0, none⟩) Y.length cap := by rw [hY]
      rw [hlY]
      refine del_tail slt22 rfl (by decide) encF_len (by decide) Try.underlying22 o2 hk2 fun w3 o3 u3 => ?_
      rw [rt_e]
      rw [ht] at o3
      exact kk w3 _ o3 (ChgS.of_chg (c2.trans u3.chg) rfl) rfl
end
end Go.Proofs.Ytiajdaagamhbnaa

namespace Go.Proofs.Ytiajdaagamhbnaa
open Sh RowKit Go.MapKept

theorem en30 : canEnter Try.prog 30 = true := by kernel_rfl
theorem en32 : canEnter Try.prog 32 = true := by kernel_rfl
def cmpI (a b : Int) : Int := if a < b then -1 else if b < a then 1 else 0
/-- the least time of the sleepers -/
def tilS (b : Option Int) (f : Fl) : Option Int := if f.st = 2 then (match b with | none => some f.till | some y => if f.till < y then some f.till else some y) else b
def til (l : List Fl) : Option Int := l.foldl tilS none
def slp (l : List Fl) : List Fl := l.filter fun f => decide (f.st = 2)
theorem til_fold : ∀ (l : List Fl) (b : Option Int),
    (l.foldl tilS b = none ↔ b = none ∧ slp l = []) ∧
    ∀ m, l.foldl tilS b = some m → (b = some m ∨ ∃ r ∈ slp l, r.till = m) ∧ (∀ y, b = some y → m ≤ y) ∧ ∀ r ∈ slp l, m ≤ r.till := by
  intro l
  induction l with
  | nil =>
    intro b
    refine ⟨by simp [slp], fun m h => ?_⟩
    simp only [List.foldl_nil] at h
    subst h
    exact ⟨.inl rfl, fun y h => by cases h; omega, fun r hr => by cases hr⟩
  | cons r l ih =>
    intro b
    rw [List.foldl_cons]
    obtain ⟨i1, i2⟩ := ih (tilS b r)
    by_cases hR : r.st = 2
    · have e2 : slp (r :: l) = r :: slp l := by unfold slp; rw [List.filter_cons]; simp [hR]
      rw [e2]
      have key : ∀ z, tilS b r = some z → (z = r.till ∨ b = some z) → z ≤ r.till → (∀ y, b = some y → z ≤ y) →
          (l.foldl tilS (tilS b r) = none ↔ b = none ∧ r :: slp l = []) ∧ ∀ m, l.foldl tilS (tilS b r) = some m → (b = some m ∨ ∃ r' ∈ r :: slp l, r'.till = m) ∧ (∀ y, b = some y → m ≤ y) ∧ ∀ r' ∈ r :: slp l, m ≤ r'.till := by
        intro z hz hz1 hz2 hz3
        rw [hz] at i1 i2 ⊢
        refine ⟨by simp [i1], fun m hm => ?_⟩
        obtain ⟨j1, j2, j3⟩ := i2 m hm
        have j4 := j2 z rfl
        refine ⟨?_, fun y hy => by have := hz3 y hy; omega, fun r' hr' => ?_⟩
        · rcases j1 with j1 | ⟨r', hr', e⟩
          · have j1 : z = m := by simpa using j1
            subst j1
            rcases hz1 with hz1 | hz1
            · exact .inr ⟨r, List.mem_cons_self, hz1.symm⟩
            · exact .inl hz1
          · exact .inr ⟨r', List.mem_cons_of_mem _ hr', e⟩
        · rcases List.mem_cons.1 hr' with rfl | hr'
          · omega
          · exact j3 r' hr'
      cases b with
      | none => exact key r.till (by unfold tilS; rw [if_pos hR]) (.inl rfl) (by omega) (fun y h => by cases h)
      | some y =>
        by_cases c : r.till < y
        · exact key r.till (by unfold tilS; rw [if_pos hR]; simp [c]) (.inl rfl) (by omega) (fun y' h => by cases h; omega)
        · exact key y (by unfold tilS; rw [if_pos hR]; simp [c]) (.inr rfl) (by omega) (fun y' h => by cases h; omega)
    · have e1 : tilS b r = b := by unfold tilS; rw [if_neg hR]
      have e2 : slp (r :: l) = slp l := by unfold slp; rw [List.filter_cons]; simp [hR]
      rw [e1] at i1 i2 ⊢
      rw [e2]
      exact ⟨i1, i2⟩
theorem til_none {l : List Fl} : til l = none ↔ slp l = [] := by
  have := (til_fold l none).1
  simpa [til] using this
theorem til_some {l : List Fl} {m : Fl} (h1 : m ∈ slp l) (h2 : ∀ r ∈ slp l, m.till ≤ r.till) : til l = some m.till := by
  cases h : til l with
  | none => rw [til_none] at h; rw [h] at h1; cases h1
  | some N =>
    obtain ⟨j1, _, j3⟩ := (til_fold l none).2 N h
    have a := j3 m h1
    rcases j1 with j1 | ⟨r', hr', e'⟩
    · cases j1
    · have b := h2 r' hr'
      congr 1; omega
/-- as it is told -/
def tilV (o : Option Int) : Value := .tuple #[.int .i64 (o.getD 0), .bool o.isSome]
section
variable {w V W : World} {Q : Value → World → Prop} {v : Value} {l : List Fl} {b : Nat}
theorem f30_p {g : Nat} : PredOf Try.prog V g (.func (.func 30) #[] #[]) (fun x => .agg (encF x).toArray) (fun f => !decide (f.st = 2)) := by
  intro x w K Q hc kk
  refine cf_p (fun _ _ => run_callFunc en30) ?_
  refine s30 (.agg (encF x).toArray) w _ ?_
  unfold f30
  rw [bx_e]
  have h1 := blk_psh_new (w := w) (o := .cells (Value.agg (encF x).toArray).cells 55)
  have b1 := b_psh w (.cells (Value.agg (encF x).toArray).cells 55)
  have c1 := cell_of_blk (n := 5) h1
  have c1 : (psh w (.cells (Value.agg (encF x).toArray).cells 55)).cell? ⟨w.heap.size, 5, none⟩ = some (.int .i64 x.st) := c1
  generalize psh w (.cells (Value.agg (encF x).toArray).cells 55) = w1 at *
  simp only [↓reduceIte, ↓LL, LM, Value.cells, Nat.reduceAdd, Option.some.injEq, exists_eq_left', decide_true, decide_false, if_true, if_false, reduceCtorEq, cond_true, cond_false, c1]
  exact kk w1 b1
theorem f48_s (a : Int) (h : Q (.bool false) w) : f48 (.int .i64 a) w Q := by
  unfold f48
  simp only [↓reduceIte, ↓LL, LM, Value.cells, Nat.reduceAdd, Option.some.injEq, exists_eq_left', decide_true, decide_false, if_true, if_false, reduceCtorEq, cond_true, cond_false, ne_eq, not_true_eq_false]
  exact h
theorem f33_s (a b : Int) (h : Q (.int .i64 (cmpI a b)) w) : f33 (.int .i64 a) (.int .i64 b) w Q := by
  unfold f33
  simp only [↓cl_e]
  refine f48_s _ ?_
  refine f48_s _ ?_
  unfold cmpI at h
  by_cases c : a < b
  · simp only [↓reduceIte, ↓LL, LM, Value.cells, Nat.reduceAdd, Option.some.injEq, exists_eq_left', decide_true, decide_false, if_true, if_false, reduceCtorEq, cond_true, cond_false, c] at h ⊢; exact h
  · by_cases c2 : b < a
    · simp only [↓reduceIte, ↓LL, LM, Value.cells, Nat.reduceAdd, Option.some.injEq, exists_eq_left', decide_true, decide_false, if_true, if_false, reduceCtorEq, cond_true, cond_false, c, c2] at h ⊢; exact h
    · simp only [↓reduceIte, ↓LL, LM, Value.cells, Nat.reduceAdd, Option.some.injEq, exists_eq_left', decide_true, decide_false, if_true, if_false, reduceCtorEq, cond_true, cond_false, c, c2] at h ⊢; exact h
theorem f32_c {K : Value → M} (x y : Fl) (kk : ∀ w', Below w.heap.size w w' → K (.int .i64 (cmpI x.till y.till)) w' Q) : cf Try.prog (.func (.func 32) #[] #[]) #[.agg (cF x), .agg (cF y)] K w Q := by
  refine cf_p (fun _ _ => run_callFunc en32) ?_
  refine s32 (.agg (cF x)) (.agg (cF y)) w _ ?_
  unfold f32
  rw [bx_e, bx_e]
  rw [show (Value.agg (cF x)).cells = cF x from rfl, show (Value.agg (cF y)).cells = cF y from rfl]
  have h1 := blk_psh_new (w := w) (o := .cells (cF x) 55)
  have b1 := b_psh w (.cells (cF x) 55)
  generalize psh w (.cells (cF x) 55) = w1 at *
  have h2 := blk_psh_new (w := w1) (o := .cells (cF y) 55)
  have b2 := b_psh w1 (.cells (cF y) 55)
  have h1 := stay b2 h1
  have bb := bt b1 b2
  generalize psh w1 (.cells (cF y) 55) = w2 at *
  have c1 : w2.cell? ⟨w.heap.size, 7, none⟩ = some (.int .i64 x.till) := by rw [cell_of_blk (n := 7) h1]; rfl
  have c2 : w2.cell? ⟨w1.heap.size, 7, none⟩ = some (.int .i64 y.till) := by rw [cell_of_blk (n := 7) h2]; rfl
  simp only [↓reduceIte, ↓LL, LM, Value.cells, Nat.reduceAdd, Option.some.injEq, exists_eq_left', decide_true, decide_false, if_true, if_false, reduceCtorEq, cond_true, cond_false, c1, c2]
  refine f33_s _ _ ?_
  try simp only [↓reduceIte, ↓LL, LM, Value.cells, Nat.reduceAdd, Option.some.injEq, exists_eq_left', decide_true, decide_false, if_true, if_false, reduceCtorEq, cond_true, cond_false]
  exact kk w2 bb
theorem min_loop {t4 : Value} {j1 : Value → Value → M} (hr : rdS 14 (eR encF) V v l) (hl : l.length ≤ 281474976710656) (hB : V.heap.size ≤ b) : ∀ (m i : Nat) (x : Fl) (w : World), i + m = l.length → Below V.heap.size V w → w.heap[b]? = some (.cells (cF x) 55 (0, 0)) → x ∈ l → (∀ y ∈ l.take i, x.till ≤ y.till) →
    (∀ w' x, Below V.heap.size V w' → Chg b w w' → w'.heap[b]? = some (.cells (cF x) 55 (0, 0)) → x ∈ l → (∀ y ∈ l, x.till ≤ y.till) → j1 t4 (.pointer (some ⟨b, 0, none⟩)) w' Q) →
    itr (fun _ _ _ _ _ => bot) (f31_b2 j1) (m + 1) v (.func (.func 32) #[] #[]) t4 (.pointer (some ⟨b, 0, none⟩)) (.int .i64 (i : Int)) w Q := by
  intro m
  induction m with
  | zero =>
    intro i x w hi hb hx hm hy kk
    show f31_b2 _ _ _ _ _ _ _ w Q
    unfold f31_b2
    refine lnl_S hr ?_
    have c1 : ¬ (i : Int) < (l.length : Int) := by omega
    simp only [↓reduceIte, ↓LL, LM, Value.cells, Nat.reduceAdd, Option.some.injEq, exists_eq_left', decide_true, decide_false, if_true, if_false, reduceCtorEq, cond_true, cond_false, c1]
    rw [List.take_of_length_le (by omega)] at hy
    exact kk w x hb (Chg.refl _ _) hx hm hy
  | succ m ih =>
    intro i x w hi hb hx hm hy kk
    have hil : i < l.length := by omega
    show f31_b2 _ _ _ _ _ _ _ w Q
    unfold f31_b2
    refine lnl_S hr ?_
    have c1 : (i : Int) < (l.length : Int) := by omega
    have e5 : IntKind.i64.wrap ((i : Int) + 1) = ((i + 1 : Nat) : Int) := by rw [w64 (by omega) (by omega)]; omega
    have cd : Chg b w (drw w) := (Chg.refl b w).drw
    have hb : Below V.heap.size V (drw w) := Below_drw hb
    have hx : (drw w).heap[b]? = _ := hx
    simp only [lt_e, cnd_e, c1, decide_true, cond_true, if_true, ↓reduceIte, dr_q, idv_e]
    generalize drw w = w1 at *
    refine takeE encF_len hr hb hil ?_
    refine ldn_box hx rfl ?_
    refine f32_c l[i] x fun w2 b2 => ?_
    have b02 := bt hb b2
    have hx2 := stay b2 hx
    have htk : l.take (i + 1) = l.take i ++ [l[i]] := by rw [List.take_succ_eq_append_getElem hil]
    by_cases c : l[i].till < x.till
    · have c2 : cmpI l[i].till x.till < 0 := by unfold cmpI; rw [if_pos c]; decide
      simp only [lt_e, cnd_e, c2, decide_true, cond_true, if_true, ↓reduceIte, jn_e]
      refine takeE encF_len hr b02 hil ?_
      refine stn_box (cs := cF l[i]) hx2 rfl rfl (by simpa [cF] using encF_one l[i]) fun w3 h3 u3 => ?_
      unfold f31_j3
      simp only [↓reduceIte, ↓LL, LM, Value.cells, Nat.reduceAdd, Option.some.injEq, exists_eq_left', decide_true, decide_false, if_true, if_false, reduceCtorEq, cond_true, cond_false, e5]
      have c13 : Chg b w w3 := cd.trans ((Chg.of_below b2).trans u3.chg)
      refine ih (i + 1) l[i] w3 (by omega) (b02.trans (u3.below hB)) h3 (List.getElem_mem hil) (fun y hy' => ?_) fun w4 x4 b4 c4 => kk w4 x4 b4 (c13.trans c4)
      rw [htk] at hy'
      rcases List.mem_append.1 hy' with h | h
      · have := hy y h; omega
      · rw [List.mem_singleton.1 h]; omega
    · have c2 : ¬ cmpI l[i].till x.till < 0 := by unfold cmpI; rw [if_neg c]; split <;> decide
      simp only [lt_e, cnd_e, c2, decide_false, cond_false, if_false, ↓reduceIte, jn_e, Bool.false_eq_true]
      unfold f31_j3
      simp only [↓reduceIte, ↓LL, LM, Value.cells, Nat.reduceAdd, Option.some.injEq, exists_eq_left', decide_true, decide_false, if_true, if_false, reduceCtorEq, cond_true, cond_false, e5]
      have c13 : Chg b w w2 := cd.trans (Chg.of_below b2)
      refine ih (i + 1) x w2 (by omega) b02 hx2 hm (fun y hy' => ?_) fun w4 x4 b4 c4 => kk w4 x4 b4 (c13.trans c4)
      rw [htk] at hy'
      rcases List.mem_append.1 hy' with h | h
      · exact hy y h
      · rw [List.mem_singleton.1 h]; omega
end
end Go.Proofs.Ytiajdaagamhbnaa

namespace Go.Proofs.Ytiajdaagamhbnaa
open Sh RowKit Go.MapKept

theorem slp_eq (l : List Fl) : (l.filter fun x => !(!decide (x.st = 2))) = slp l := by
  unfold slp
  congr 1
  funext x
  simp
section
variable {w V W : World} {Q : Value → World → Prop} {v : Value} {l : List Fl} {b : Nat}
theorem f16_s (hr : rdS 14 (eR encF) W v l) (hl : l.length ≤ 1000000) (kk : ∀ w', Below W.heap.size W w' → Q (tilV (til l)) w') : f16 v W Q := by
  unfold f16
  rw [cl_e]
  refine f29_s hr (by omega) fun w1 u o1 b1 => ?_
  try rw [cl_e]
  refine f28_s (pr := fun f => !decide (f.st = 2)) o1 b1.size (by omega) (fun g hg => f30_p) fun w2 u2 o2 c2 hob => ?_
  rw [slp_eq] at o2
  have b2 : Below W.heap.size W w2 := b1.trans (c2.below (fun k hk => (ownE_blk o1 k hk).1) b1.size)
  have r2 := ownE_rd encF_len (by decide) o2
  have hsl : (slp l).length ≤ l.length := List.length_filter_le _ _
  refine lnl_S r2 ?_
  rcases Nat.eq_zero_or_pos (slp l).length with h0 | h0
  · have c1 : ((slp l).length : Int) = 0 := by omega
    simp only [↓reduceIte, ↓LL, LM, Value.cells, Nat.reduceAdd, Option.some.injEq, exists_eq_left', decide_true, decide_false, if_true, if_false, reduceCtorEq, cond_true, cond_false, c1]
    have := kk w2 b2
    rw [til_none.2 (List.length_eq_zero_iff.1 h0)] at this
    exact this
  · have c1 : ¬ ((slp l).length : Int) = 0 := by omega
    simp only [↓reduceIte, ↓LL, LM, Value.cells, Nat.reduceAdd, Option.some.injEq, exists_eq_left', decide_true, decide_false, if_true, if_false, reduceCtorEq, cond_true, cond_false, c1]
    unfold f31
    rw [al_e]
    have h4 := blk_psh_new (w := w2) (o := .cells #[(.int .i64 0), (.int .i64 0), (.int .i64 0), (.int .i64 0), (.string ⟨#[]⟩), (.int .i64 0), (.int .i64 0), (.int .i64 0), (.int .i64 0), (.int .i64 0), (.string ⟨#[]⟩), (.int .i64 0), (.slice none 0 0), (.bool false)] 55)
    have b4 := b_psh w2 (.cells #[(.int .i64 0), (.int .i64 0), (.int .i64 0), (.int .i64 0), (.string ⟨#[]⟩), (.int .i64 0), (.int .i64 0), (.int .i64 0), (.int .i64 0), (.int .i64 0), (.string ⟨#[]⟩), (.int .i64 0), (.slice none 0 0), (.bool false)] 55)
    generalize psh w2 (.cells #[(.int .i64 0), (.int .i64 0), (.int .i64 0), (.int .i64 0), (.string ⟨#[]⟩), (.int .i64 0), (.int .i64 0), (.int .i64 0), (.int .i64 0), (.int .i64 0), (.string ⟨#[]⟩), (.int .i64 0), (.slice none 0 0), (.bool false)] 55) = w3 at *
    have hlt : w2.heap.size < w3.heap.size := blk_lt h4
    refine lnl_S r2 ?_
    have c2 : ¬ ((slp l).length : Int) < 1 := by omega
    simp only [lt_e, cnd_e, c2, decide_false, cond_false, if_false, ↓reduceIte, Bool.false_eq_true]
    refine takeE (i := 0) encF_len r2 b4 h0 ?_
    refine boxE encF_len encF_one rfl fun w5 h5 b5 => ?_
    have h4 := stay b5 h4
    rw [jn_e]
    obtain ⟨d, hd⟩ : ∃ d, (slp l).length = 1 + d := ⟨(slp l).length - 1, by omega⟩
    refine ⟨d + 1, min_loop (V := w2) (b := w3.heap.size) r2 (by omega) b4.size d 1 (slp l)[0] w5 (by omega) (bt b4 b5) h5 (List.getElem_mem h0) (fun y hy => ?_) fun w6 x b6 c6 h6 hx hmin => ?_⟩
    · rw [List.take_succ_eq_append_getElem h0, List.take_zero, List.nil_append] at hy
      rw [List.mem_singleton.1 hy]; omega
    unfold f31_j1
    have h46 := c6.keep h4 (by omega)
    refine ldn_box h6 rfl ?_
    refine stn_box (cs := cF x) h46 rfl rfl (by simpa [cF] using encF_one x) fun w7 h7 u7 => ?_
    refine ldn_box h7 rfl ?_
    have b7 : Below W.heap.size W w7 := (bt b2 b6).trans (u7.below b2.size)
    rw [rt_e]
    refine ⟨cF x, .int .i64 x.till, rfl, rfl, ?_⟩
    simp only [↓reduceIte, ↓LL, LM, Value.cells, Nat.reduceAdd, Option.some.injEq, exists_eq_left', decide_true, decide_false, if_true, if_false, reduceCtorEq, cond_true, cond_false]
    have := kk w7 b7
    rw [til_some hx hmin] at this
    exact this
set_option maxRecDepth 20000 in
theorem til_loop {j1 : Value → Value → M} (hr : rdS 14 (eR encF) V v l) (hl : l.length ≤ 281474976710656) : ∀ (m i : Nat) (o : Option Int) (w : World), i + m = l.length → Below V.heap.size V w → o = (l.take i).foldl tilS none →
    (∀ w', Below V.heap.size V w' → j1 (.int .i64 ((til l).getD 0)) (.bool (til l).isSome) w' Q) →
    itr (fun _ _ _ _ => bot) (f17_b2 j1) (m + 1) v (.int .i64 (o.getD 0)) (.bool o.isSome) (.int .i64 (i : Int)) w Q := by
  intro m
  induction m with
  | zero =>
    intro i o w hi hb ho kk
    show f17_b2 _ _ _ _ _ _ w Q
    unfold f17_b2
    refine lnl_S hr ?_
    have c1 : ¬ (i : Int) < (l.length : Int) := by omega
    simp only [↓reduceIte, ↓LL, LM, Value.cells, Nat.reduceAdd, Option.some.injEq, exists_eq_left', decide_true, decide_false, if_true, if_false, reduceCtorEq, cond_true, cond_false, c1]
    rw [List.take_of_length_le (by omega)] at ho
    have : o = til l := ho
    rw [this]
    exact kk w hb
  | succ m ih =>
    intro i o w hi hb ho kk
    have hil : i < l.length := by omega
    show f17_b2 _ _ _ _ _ _ w Q
    unfold f17_b2
    refine lnl_S hr ?_
    have c1 : (i : Int) < (l.length : Int) := by omega
    have e5 : IntKind.i64.wrap ((i : Int) + 1) = ((i + 1 : Nat) : Int) := by rw [w64 (by omega) (by omega)]; omega
    obtain ⟨a, es, e1, e2, e3, e4⟩ := rdS_at hr hil
    have e3 : es = encF l[i] := e3
    subst e3
    have cs5 := cellsAt_get (cellsAt_below hb e2) (j := 5) (v := .int .i64 l[i].st) rfl
    have cs7 := cellsAt_get (cellsAt_below hb e2) (j := 7) (v := .int .i64 l[i].till) rfl
    have nxt : ∀ o', o' = tilS o l[i] → f17_j3 (itr (fun _ _ _ _ => bot) (f17_b2 j1) (m + 1)) v (.int .i64 (o'.getD 0)) (.bool o'.isSome) (.int .i64 (i : Int)) w Q := by
      intro o' h'
      unfold f17_j3
      simp only [↓reduceIte, ↓LL, LM, Value.cells, Nat.reduceAdd, Option.some.injEq, exists_eq_left', decide_true, decide_false, if_true, if_false, reduceCtorEq, cond_true, cond_false, e5]
      refine ih (i + 1) o' w (by omega) hb ?_ kk
      rw [h', List.take_succ_eq_append_getElem hil, List.foldl_append, ho]
      rfl
    generalize l[i] = f at *
    by_cases hs : f.st = 2
    · cases o with
      | none =>
        simp only [↓reduceIte, ↓LL, LM, Value.cells, Nat.reduceAdd, Option.some.injEq, exists_eq_left', decide_true, decide_false, if_true, if_false, reduceCtorEq, cond_true, cond_false, c1, e4, cs5, cs7, hs, Option.isSome, Option.getD]
        exact nxt (some f.till) (by unfold tilS; rw [if_pos hs])
      | some y =>
        by_cases c : f.till < y
        · simp only [↓reduceIte, ↓LL, LM, Value.cells, Nat.reduceAdd, Option.some.injEq, exists_eq_left', decide_true, decide_false, if_true, if_false, reduceCtorEq, cond_true, cond_false, c1, e4, cs5, cs7, hs, Option.isSome, Option.getD, c]
          exact nxt (some f.till) (by unfold tilS; rw [if_pos hs]; simp [c])
        · simp only [↓reduceIte, ↓LL, LM, Value.cells, Nat.reduceAdd, Option.some.injEq, exists_eq_left', decide_true, decide_false, if_true, if_false, reduceCtorEq, cond_true, cond_false, c1, e4, cs5, cs7, hs, Option.isSome, Option.getD, c]
          exact nxt (some y) (by unfold tilS; rw [if_pos hs]; simp [c])
    · simp only [↓reduceIte, ↓LL, LM, Value.cells, Nat.reduceAdd, Option.some.injEq, exists_eq_left', decide_true, decide_false, if_true, if_false, reduceCtorEq, cond_true, cond_false, c1, e4, cs5, cs7, hs]
      exact nxt o (by unfold tilS; rw [if_neg hs])
theorem f17_s (hr : rdS 14 (eR encF) W v l) (hl : l.length ≤ 1000000) (kk : ∀ w', Below W.heap.size W w' → Q (tilV (til l)) w') : f17 v W Q := by
  unfold f17
  rw [jn_e]
  refine ⟨_, til_loop (V := W) hr (by omega) l.length 0 none W (by omega) (Below.refl _ _) rfl fun w1 b1 => ?_⟩
  unfold f17_j1
  rw [rt_e]
  exact kk w1 b1
/-- a program's workflows, as the document tells them -/
theorem with_loop {p : Int} {j1 : Value → M} (hr : rdS 14 (eR encF) V v l) (hl : l.length ≤ 1000000) : ∀ (m i : Nat) (ov : Value) (w : World), i + m = l.length → Below V.heap.size V w → ownE V.heap.size 55 14 encF w ov (flP p (l.take i)) →
    (∀ w' ov', Below V.heap.size V w' → ownE V.heap.size 55 14 encF w' ov' (flP p l) → j1 ov' w' Q) →
    itr (fun _ _ _ _ => bot) (f15_b2 j1) (m + 1) v (.int .i64 p) ov (.int .i64 (i : Int)) w Q := by
  intro m
  induction m with
  | zero =>
    intro i ov w hi hb ho kk
    show f15_b2 _ _ _ _ _ _ w Q
    unfold f15_b2
    refine lnl_S hr ?_
    have c1 : ¬ (i : Int) < (l.length : Int) := by omega
    simp only [↓reduceIte, ↓LL, LM, Value.cells, Nat.reduceAdd, Option.some.injEq, exists_eq_left', decide_true, decide_false, if_true, if_false, reduceCtorEq, cond_true, cond_false, c1]
    rw [List.take_of_length_le (by omega)] at ho
    exact kk w ov hb ho
  | succ m ih =>
    intro i ov w hi hb ho kk
    have hil : i < l.length := by omega
    show f15_b2 _ _ _ _ _ _ w Q
    unfold f15_b2
    refine lnl_S hr ?_
    have c1 : (i : Int) < (l.length : Int) := by omega
    have e5 : IntKind.i64.wrap ((i : Int) + 1) = ((i + 1 : Nat) : Int) := by rw [w64 (by omega) (by omega)]; omega
    obtain ⟨a, es, e1, e2, e3, e4⟩ := rdS_at hr hil
    have e3 : es = encF l[i] := e3
    subst e3
    have cs1 := cellsAt_get (cellsAt_below hb e2) (j := 1) (v := .int .i64 l[i].prog) rfl
    have htk : flP p (l.take (i + 1)) = flP p (l.take i) ++ (if l[i].prog = p then [l[i]] else []) := by rw [List.take_succ_eq_append_getElem hil, flP_one]
    have hfl : (flP p (l.take i)).length ≤ i := Nat.le_trans (List.length_filter_le _ _) (by rw [List.length_take]; omega)
    by_cases hp : l[i].prog = p
    · rw [if_pos hp] at htk
      simp only [lt_e, cnd_e, c1, decide_true, cond_true, if_true, ↓reduceIte, e4, fa_e, ld_e, cs1, eqi_e, hp, jn_e, Option.some.injEq, exists_eq_left']
      refine ldn_at (cellsAt_below hb e2) e1 ?_
      refine bslE (x := l[i]) (enc := encF) slt22 rfl (by decide) (by decide) rfl fun w2 h2 hb2 => ?_
      have b2 := bt hb hb2
      have o2 := ownE_below ho hb2
      refine ap_E (m := [l[i]]) slt22 rfl (by decide) encF_len encF_one o2 (rd_lit rfl h2) (by unfold maxLen; simp; omega) (by simp; omega) b2.size fun v3 w3 o3 g3 _ => ?_
      unfold f15_j3
      simp only [↓reduceIte, ↓LL, LM, Value.cells, Nat.reduceAdd, Option.some.injEq, exists_eq_left', decide_true, decide_false, if_true, if_false, reduceCtorEq, cond_true, cond_false, e5]
      refine ih (i + 1) v3 w3 (by omega) (b2.grown g3 b2.size (fun k hk => (ownE_blk o2 k hk).1)) ?_ kk
      rw [htk]; exact o3
    · rw [if_neg hp, List.append_nil] at htk
      simp only [↓reduceIte, ↓LL, LM, Value.cells, Nat.reduceAdd, Option.some.injEq, exists_eq_left', decide_true, decide_false, if_true, if_false, reduceCtorEq, cond_true, cond_false, c1, e4, cs1, hp]
      unfold f15_j3
      simp only [↓reduceIte, ↓LL, LM, Value.cells, Nat.reduceAdd, Option.some.injEq, exists_eq_left', decide_true, decide_false, if_true, if_false, reduceCtorEq, cond_true, cond_false, e5]
      refine ih (i + 1) ov w (by omega) hb ?_ kk
      rw [htk]; exact ho
theorem f15_s {p : Int} (hr : rdS 14 (eR encF) W v l) (hl : l.length ≤ 1000000) (kk : ∀ w' ov, Below W.heap.size W w' → ownE W.heap.size 55 14 encF w' ov (flP p l) → Q ov w') : f15 v (.int .i64 p) W Q := by
  unfold f15
  rw [jn_e]
  refine ⟨_, with_loop (V := W) hr hl l.length 0 (.slice none 0 0) W (by omega) (Below.refl _ _) ownE_nil fun w1 ov b1 o1 => ?_⟩
  unfold f15_j1
  rw [rt_e]
  exact kk w1 ov b1 o1
end
end Go.Proofs.Ytiajdaagamhbnaa

namespace Go.Proofs.Ytiajdaagamhbnaa
open Sh RowKit Go.MapKept

section
variable {α : Type} {enc : α → List Value} {n b : Nat} {P : Program} {w0 : World} {Q : Value → World → Prop} {K : Value → M} {t e : TypeId} {z u1 u2 xv : Value} {l1 l2 : List α} {x : α} {C : World → Prop}
/-- append(append(append(nil, l1...), x), l2...), in either order -/
theorem ins_E (ht : slT P t e z n b) (hz : z.cells.size = n) (hn0 : 0 < n) (hn : ∀ x, (enc x).length = n) (h1 : ∀ x, ∀ c ∈ enc x, c.oneCell' = true)
    (hbs : ∀ (w : World) (K : Value → M), (∀ w', w'.heap[w.heap.size]? = some (.cells (enc x).toArray e (0, 0)) → Below w.heap.size w w' → K (.slice (some ⟨w.heap.size, 0, none⟩) 1 1) w' Q) → sm P (Instr.buildSlice t 1 #[(0, xv)]) K w Q)
    (r1 : rdS n (eR enc) w0 u1 l1) (r2 : rdS n (eR enc) w0 u2 l2) (hl : l1.length + l2.length ≤ 281474976710656) (hb : (l1.length + 1 + l2.length) * b ≤ 140737488355328) (hC : ∀ w', Below w0.heap.size w0 w' → C w')
    (kk : ∀ w' v', Below w0.heap.size w0 w' → ownE w0.heap.size e n enc w' v' (l1 ++ [x] ++ l2) → K v' w' Q) :
    amb (sm P (Builtin.append_ #[t, t] t #[.slice none 0 0, u1]) fun t49 => kp C <| sm P (Instr.buildSlice t 1 #[(0, xv)]) fun t55 => sm P (Builtin.append_ #[t, t] t #[t49, t55]) fun t56 => sm P (Builtin.append_ #[t, t] t #[t56, u2]) K)
      (sm P (Instr.buildSlice t 1 #[(0, xv)]) fun t55 => sm P (Builtin.append_ #[t, t] t #[.slice none 0 0, u1]) fun t49 => kp C <| sm P (Builtin.append_ #[t, t] t #[t49, t55]) fun t56 => sm P (Builtin.append_ #[t, t] t #[t56, u2]) K) w0 Q := by
  have hm1 : l1.length * b ≤ (l1.length + 1 + l2.length) * b := Nat.mul_le_mul_right _ (by omega)
  have hm2 : (l1.length + 1) * b ≤ (l1.length + 1 + l2.length) * b := Nat.mul_le_mul_right _ (by omega)
  have tailA : ∀ (w : World) (v49 v55 : Value), Below w0.heap.size w0 w → ownE w0.heap.size e n enc w v49 l1 → rdS n (eR enc) w v55 [x] →
      sm P (Builtin.append_ #[t, t] t #[v49, v55]) (fun t56 => sm P (Builtin.append_ #[t, t] t #[t56, u2]) K) w Q := by
    intro w v49 v55 bw o1 rx
    refine ap_E ht hz hn0 hn h1 o1 rx (by simp; unfold maxLen; omega) (by simp only [List.length_singleton]; omega) bw.size fun v2 w2 o2 g2 _ => ?_
    have b2 : Below w0.heap.size w0 w2 := bw.grown g2 bw.size (fun k hk => (ownE_blk o1 k hk).1)
    refine ap_E ht hz hn0 hn h1 o2 (rdS_below eR_st b2 r2) (by simp; unfold maxLen; omega) (by simp only [List.length_append, List.length_singleton]; omega) b2.size fun v3 w3 o3 g3 _ => ?_
    exact kk w3 v3 (b2.grown g3 b2.size (fun k hk => (ownE_blk o2 k hk).1)) o3
  rw [amb_e]
  constructor
  · refine ap_E (B := w0.heap.size) (l := []) ht hz hn0 hn h1 ownE_nil r1 (by simp; unfold maxLen; omega) (by simp only [List.length_nil, Nat.zero_add]; omega) (Nat.le_refl _) fun v2 w2 o2 g2 _ => ?_
    rw [List.nil_append] at o2
    have b2 : Below w0.heap.size w0 w2 := (Below.refl _ _).grown g2 (Nat.le_refl _) (fun k hk => by cases hk)
    rw [kp_e]
    refine ⟨hC w2 b2, ?_⟩
    refine hbs w2 _ fun w3 h3 b3 => ?_
    exact tailA w3 v2 _ (bt b2 b3) (ownE_below o2 b3) (rd_lit (hn x) h3)
  · refine hbs w0 _ fun w2 h2 b2 => ?_
    refine ap_E (B := w0.heap.size) (l := []) ht hz hn0 hn h1 ownE_nil (rdS_below eR_st b2 r1) (by simp; unfold maxLen; omega) (by simp only [List.length_nil, Nat.zero_add]; omega) b2.size fun v3 w3 o3 g3 _ => ?_
    rw [List.nil_append] at o3
    have b3 : Below w2.heap.size w2 w3 := (Below.refl _ _).grown g3 (Nat.le_refl _) (fun k hk => by cases hk)
    rw [kp_e]
    refine ⟨hC w3 (bt b2 b3), ?_⟩
    exact tailA w3 v3 _ (bt b2 b3) o3 (rd_lit (hn x) (stay b3 h2))
end
def encI (x : Int) : List Value := [.int .i64 x]
theorem encI_len : ∀ x, (encI x).length = 1 := fun _ => rfl
theorem encI_one : ∀ x, ∀ c ∈ encI x, c.oneCell' = true := by
  intro x c hc
  simp only [encI, List.mem_cons, List.not_mem_nil, or_false] at hc
  subst hc; rfl
/-- the programs so far -/
def PrL (l : List Fl) (acc : List Int) : Prop := acc.Pairwise (· < ·) ∧ ∀ p, p ∈ acc ↔ ∃ f ∈ l, f.prog = p
theorem PrL.uniq {l : List Fl} {a b : List Int} (ha : PrL l a) (hb : PrL l b) : a = b := by
  have na : a.Nodup := ha.1.imp (fun h => by omega)
  have nb : b.Nodup := hb.1.imp (fun h => by omega)
  have hp : a.Perm b := (List.perm_ext_iff_of_nodup na nb).2 fun p => by rw [ha.2, hb.2]
  exact hp.eq_of_pairwise (le := fun x y => x < y) (fun x y _ _ h1 h2 => by omega) ha.1 hb.1
theorem PrL.len {l : List Fl} {a : List Int} (ha : PrL l a) : a.length ≤ l.length := by
  have na : a.Nodup := ha.1.imp (fun h => by omega)
  have := List.Nodup.length_le_of_subset na (l₂ := l.map (·.prog)) fun p hp => by
    obtain ⟨f, hf, e⟩ := (ha.2 p).1 hp
    exact List.mem_map.2 ⟨f, hf, e⟩
  rwa [List.length_map] at this
theorem PrL.there {l : List Fl} {a : List Int} {f : Fl} (ha : PrL l a) (h : f.prog ∈ a) : PrL (l ++ [f]) a := by
  refine ⟨ha.1, fun p => ?_⟩
  rw [ha.2]
  constructor
  · rintro ⟨g, hg, e⟩; exact ⟨g, List.mem_append_left _ hg, e⟩
  · rintro ⟨g, hg, e⟩
    rcases List.mem_append.1 hg with hg | hg
    · exact ⟨g, hg, e⟩
    · rw [List.mem_singleton.1 hg] at e
      subst e
      exact (ha.2 _).1 h
theorem PrL.ins {l : List Fl} {a : List Int} {f : Fl} {k : Nat} (ha : PrL l a) (hk : k ≤ a.length) (h1 : ∀ x ∈ a.take k, x < f.prog) (h2 : ∀ x ∈ a.drop k, f.prog < x) : PrL (l ++ [f]) (a.take k ++ [f.prog] ++ a.drop k) := by
  have hs := ha.1
  rw [← List.take_append_drop k a, List.pairwise_append] at hs
  refine ⟨?_, fun p => ?_⟩
  · rw [List.pairwise_append]
    refine ⟨?_, hs.2.1, fun x hx y hy => ?_⟩
    · rw [List.pairwise_append]
      exact ⟨hs.1, by simp, fun x hx y hy => by rw [List.mem_singleton.1 hy]; exact h1 x hx⟩
    · rcases List.mem_append.1 hx with hx | hx
      · exact hs.2.2 x hx y hy
      · rw [List.mem_singleton.1 hx]; exact h2 y hy
  · have hm : p ∈ a ↔ p ∈ a.take k ∨ p ∈ a.drop k := by rw [← List.mem_append, List.take_append_drop]
    constructor
    · intro hp
      rcases List.mem_append.1 hp with hp | hp
      · rcases List.mem_append.1 hp with hp | hp
        · obtain ⟨g, hg, e⟩ := (ha.2 p).1 (hm.2 (.inl hp)); exact ⟨g, List.mem_append_left _ hg, e⟩
        · exact ⟨f, by simp, (List.mem_singleton.1 hp).symm⟩
      · obtain ⟨g, hg, e⟩ := (ha.2 p).1 (hm.2 (.inr hp)); exact ⟨g, List.mem_append_left _ hg, e⟩
    · rintro ⟨g, hg, e⟩
      rcases List.mem_append.1 hg with hg | hg
      · rcases hm.1 ((ha.2 p).2 ⟨g, hg, e⟩) with h | h
        · exact List.mem_append_left _ (List.mem_append_left _ h)
        · exact List.mem_append_right _ h
      · rw [List.mem_singleton.1 hg] at e
        subst e
        simp
section
variable {w V W : World} {Q : Value → World → Prop} {v ov : Value} {l : List Fl} {acc : List Int} {i : Nat}
set_option maxRecDepth 20000 in
theorem prog_k {j4 : Value → Value → Value → Value → M} (hr : rdS 14 (eR encF) V v l) (hi : i < l.length) (ho : rdS 1 (eR encI) V ov acc) (ha : acc.length ≤ 1000000) : ∀ (m k : Nat) (w : World), k + m = acc.length → Below V.heap.size V w → (∀ x ∈ acc.take k, x < l[i].prog) →
    (∀ w' k, Below V.heap.size V w' → k ≤ acc.length → (∀ x ∈ acc.take k, x < l[i].prog) → (∀ h : k < acc.length, l[i].prog ≤ acc[k]) → j4 v ov (.int .i64 (i : Int)) (.int .i64 (k : Int)) w' Q) →
    itr (fun _ _ _ _ => bot) (f12_b5 j4) (m + 1) v ov (.int .i64 (i : Int)) (.int .i64 (k : Int)) w Q := by
  obtain ⟨a, es, e1, e2, e3, e4⟩ := rdS_at hr hi
  have e3 : es = encF l[i] := e3
  subst e3
  obtain ⟨op, oc, hov⟩ := rdS_len ho
  intro m
  induction m with
  | zero =>
    intro k w hk hb hx kk
    show f12_b5 _ _ _ _ _ _ w Q
    unfold f12_b5
    have c1 : ¬ (k : Int) < (acc.length : Int) := by omega
    have hb := Below_drw hb
    simp only [dr_q, idv_e]
    rw [hov]
    simp only [↓reduceIte, ↓LL, LM, Value.cells, Nat.reduceAdd, Option.some.injEq, exists_eq_left', decide_true, decide_false, if_true, if_false, reduceCtorEq, cond_true, cond_false, c1]
    rw [← hov]
    exact kk _ k hb (by omega) hx (fun h => by omega)
  | succ m ih =>
    intro k w hk hb hx kk
    show f12_b5 _ _ _ _ _ _ w Q
    unfold f12_b5
    have hkl : k < acc.length := by omega
    have c1 : (k : Int) < (acc.length : Int) := by omega
    have hb : Below V.heap.size V (drw w) := Below_drw hb
    have cs1 := cellsAt_get (cellsAt_below hb e2) (j := 1) (v := .int .i64 l[i].prog) rfl
    obtain ⟨a', es', f1, f2, f3, f4⟩ := rdS_at ho hkl
    have f3 : es' = encI acc[k] := f3
    subst f3
    have ck := cellsAt_get (cellsAt_below hb f2) (j := 0) (v := .int .i64 acc[k]) rfl
    rw [add_zero'] at ck
    have e5 : IntKind.i64.wrap ((k : Int) + 1) = ((k + 1 : Nat) : Int) := by rw [w64 (by omega) (by omega)]; omega
    simp only [dr_q, idv_e]
    generalize drw w = w1 at *
    have hlen : ∀ {K : Value → M}, lnl ov K w1 Q = K (.int .i64 (acc.length : Int)) w1 Q := fun {K} => by rw [hov, lnl_e]
    by_cases c2 : acc[k] < l[i].prog
    · simp only [↓reduceIte, ↓LL, LM, Value.cells, Nat.reduceAdd, Option.some.injEq, exists_eq_left', decide_true, decide_false, if_true, if_false, reduceCtorEq, cond_true, cond_false, hlen, c1, f4, ck, e4, cs1, c2, e5]
      refine ih (k + 1) w1 (by omega) hb (fun x hx' => ?_) kk
      rw [List.take_succ_eq_append_getElem hkl] at hx'
      rcases List.mem_append.1 hx' with h | h
      · exact hx x h
      · rw [List.mem_singleton.1 h]; exact c2
    · simp only [↓reduceIte, ↓LL, LM, Value.cells, Nat.reduceAdd, Option.some.injEq, exists_eq_left', decide_true, decide_false, if_true, if_false, reduceCtorEq, cond_true, cond_false, hlen, c1, f4, ck, e4, cs1, c2]
      exact kk w1 k hb (by omega) hx (fun _ => by omega)
set_option maxRecDepth 20000 in
theorem prog_loop {j1 : Value → M} (hr : rdS 14 (eR encF) W v l) (hl : l.length ≤ 1000) : ∀ (m i : Nat) (acc : List Int) (ov : Value) (w : World), i + m = l.length → Below W.heap.size W w → ownE W.heap.size 3 1 encI w ov acc → PrL (l.take i) acc →
    (∀ w' ov' acc', Below W.heap.size W w' → ownE W.heap.size 3 1 encI w' ov' acc' → PrL l acc' → j1 ov' w' Q) →
    itr (fun _ _ _ => bot) (f12_b2 j1) (m + 1) v ov (.int .i64 (i : Int)) w Q := by
  intro m
  induction m with
  | zero =>
    intro i acc ov w hi hb ho hp kk
    show f12_b2 _ _ _ _ _ w Q
    unfold f12_b2
    refine lnl_S hr ?_
    have c1 : ¬ (i : Int) < (l.length : Int) := by omega
    simp only [↓reduceIte, ↓LL, LM, Value.cells, Nat.reduceAdd, Option.some.injEq, exists_eq_left', decide_true, decide_false, if_true, if_false, reduceCtorEq, cond_true, cond_false, c1]
    rw [List.take_of_length_le (by omega)] at hp
    exact kk w ov acc hb ho hp
  | succ m ih =>
    intro i acc ov w hi hb ho hp kk
    have hil : i < l.length := by omega
    show f12_b2 _ _ _ _ _ w Q
    unfold f12_b2
    refine lnl_S hr ?_
    have c1 : (i : Int) < (l.length : Int) := by omega
    have e5 : IntKind.i64.wrap ((i : Int) + 1) = ((i + 1 : Nat) : Int) := by rw [w64 (by omega) (by omega)]; omega
    have hal := hp.len
    have hal2 : acc.length ≤ i := Nat.le_trans hal (by rw [List.length_take]; omega)
    have htk : l.take (i + 1) = l.take i ++ [l[i]] := by rw [List.take_succ_eq_append_getElem hil]
    have ro := ownE_rd encI_len (by decide) ho
    have rl := rdS_below eR_st hb hr
    have nxt : ∀ w' ov' acc', Below w.heap.size w w' → ownE W.heap.size 3 1 encI w' ov' acc' → PrL (l.take i ++ [l[i]]) acc' → f12_j3 (itr (fun _ _ _ => bot) (f12_b2 j1) (m + 1)) v ov' (.int .i64 (i : Int)) w' Q := by
      intro w' ov' acc' b' o' p'
      unfold f12_j3
      simp only [↓reduceIte, ↓LL, LM, Value.cells, Nat.reduceAdd, Option.some.injEq, exists_eq_left', decide_true, decide_false, if_true, if_false, reduceCtorEq, cond_true, cond_false, e5]
      exact ih (i + 1) acc' ov' w' (by omega) (bt hb b') o' (by rw [htk]; exact p') kk
    simp only [lt_e, cnd_e, c1, decide_true, cond_true, if_true, ↓reduceIte, jn_e]
    refine ⟨_, prog_k (V := w) (i := i) (acc := acc) rl hil ro (by omega) acc.length 0 w (by omega) (Below.refl _ _) (fun x hx => by cases hx) ?_⟩
    intro w1 k b1 hk hlo hhi
    unfold f12_j4
    have b1 : Below w.heap.size w (drw w1) := Below_drw b1
    simp only [dr_q, idv_e]
    generalize drw w1 = w2 at *
    obtain ⟨op, oc, hov⟩ := rdS_len ro
    obtain ⟨a, es, e1, e2, e3, e4⟩ := rdS_at rl hil
    have e3 : es = encF l[i] := e3
    subst e3
    have cs1 := cellsAt_get (cellsAt_below b1 e2) (j := 1) (v := .int .i64 l[i].prog) rfl
    have hlen : ∀ {K : Value → M} {w1 : World}, lnl ov K w1 Q = K (.int .i64 (acc.length : Int)) w1 Q := fun {K w1} => by rw [hov, lnl_e]
    have hins : (∀ x ∈ acc.drop k, l[i].prog < x) → (dr <| idv ov fun t46 => idv (.int .i64 (k : Int)) fun t47 => sll 1 t46 none (some t47) fun t48 => idv v fun t50 => idv (.int .i64 (i : Int)) fun t51 => ia 14 t50 t51 fun t52 => fa 1 t52 fun t53 => ld t53 fun t54 => idv ov fun t57 => idv (.int .i64 (k : Int)) fun t58 => sll 1 t57 (some t58) none fun t59 =>
        amb (sm Try.prog (Builtin.append_ #[34, 34] 34 #[(.slice none 0 0), t48]) fun t49 => kp (Kld t53 t54) <| sm Try.prog (Instr.buildSlice 34 1 #[(0, t54)]) fun t55_1 => sm Try.prog (Builtin.append_ #[34, 34] 34 #[t49, t55_1]) fun t56 => sm Try.prog (Builtin.append_ #[34, 34] 34 #[t56, t59]) fun t60 => idv t60 fun t3_3 => f12_j3 (itr (fun _ _ _ => bot) (f12_b2 j1) (m + 1)) v t3_3 (.int .i64 (i : Int)))
          (sm Try.prog (Instr.buildSlice 34 1 #[(0, t54)]) fun t55 => sm Try.prog (Builtin.append_ #[34, 34] 34 #[(.slice none 0 0), t48]) fun t49_1 => kp (Kld t53 t54) <| sm Try.prog (Builtin.append_ #[34, 34] 34 #[t49_1, t55]) fun t56_1 => sm Try.prog (Builtin.append_ #[34, 34] 34 #[t56_1, t59]) fun t60_1 => idv t60_1 fun t3_4 => f12_j3 (itr (fun _ _ _ => bot) (f12_b2 j1) (m + 1)) v t3_4 (.int .i64 (i : Int)))) w2 Q := by
      intro hd
      have b2 : Below w.heap.size w (drw w2) := Below_drw b1
      have cs1 := cellsAt_get (cellsAt_below b2 e2) (j := 1) (v := .int .i64 l[i].prog) rfl
      simp only [dr_q, idv_e]
      generalize drw w2 = w3 at *
      have ro3 := rdS_below eR_st b2 ro
      refine sll_S ro3 hk fun u1 r1 => ?_
      simp only [idv_e, e4, fa_e]
      refine ⟨_, _, rfl, cs1, ?_⟩
      simp only [idv_e]
      refine sll_drop ro3 hk fun u2 r2 _ _ => ?_
      refine ins_E (x := l[i].prog) slt34 rfl (by decide) encI_len encI_one (fun w K h => ?_) r1 r2 (by rw [List.length_take, List.length_drop]; omega) (by rw [List.length_take, List.length_drop]; omega) (fun w' b' => ⟨_, rfl, cell_below b' cs1⟩) fun w4 v4 b4 o4 => ?_
      · exact bsl1 slt34 rfl rfl (h _ blk_psh_new (b_psh _ _))
      · exact nxt w4 v4 _ (bt b2 b4) (ownE_weak o4 (Nat.le_trans hb.size b2.size)) (hp.ins hk hlo hd)
    by_cases c2 : k < acc.length
    · have c2' : (k : Int) < (acc.length : Int) := by omega
      obtain ⟨a', es', f1, f2, f3, f4⟩ := rdS_at ro c2
      have f3 : es' = encI acc[k] := f3
      subst f3
      have ck := cellsAt_get (cellsAt_below b1 f2) (j := 0) (v := .int .i64 acc[k]) rfl
      rw [add_zero'] at ck
      by_cases c3 : acc[k] = l[i].prog
      · simp only [↓reduceIte, ↓LL, LM, Value.cells, Nat.reduceAdd, Option.some.injEq, exists_eq_left', decide_true, decide_false, if_true, if_false, reduceCtorEq, cond_true, cond_false, hlen, c2', f4, ck, e4, cs1, c3]
        exact nxt w2 ov acc b1 (ownE_below ho b1) (hp.there (by rw [← c3]; exact List.getElem_mem c2))
      · have h := hins (fun x hx => by
          have h1 := hhi c2
          have hs := hp.1
          obtain ⟨j, hj, rfl⟩ := List.mem_iff_getElem.1 hx
          rw [List.getElem_drop]
          rcases Nat.eq_zero_or_pos j with rfl | hj0
          · simp only [Nat.add_zero]; omega
          · have := List.pairwise_iff_getElem.1 hs k (k + j) c2 (by rw [List.length_drop] at hj; omega) (by omega)
            omega)
        simp only [↓reduceIte, ↓LL, LM, Value.cells, Nat.reduceAdd, Option.some.injEq, exists_eq_left', decide_true, decide_false, if_true, if_false, reduceCtorEq, cond_true, cond_false, hlen, c2', f4, ck, e4, cs1, c3] at h ⊢
        exact h
    · have c2' : ¬ (k : Int) < (acc.length : Int) := by omega
      have h := hins (fun x hx => by rw [List.drop_of_length_le (by omega)] at hx; cases hx)
      simp only [↓reduceIte, ↓LL, LM, Value.cells, Nat.reduceAdd, Option.some.injEq, exists_eq_left', decide_true, decide_false, if_true, if_false, reduceCtorEq, cond_true, cond_false, hlen, c2', e4, cs1] at h ⊢
      exact h
end
end Go.Proofs.Ytiajdaagamhbnaa

namespace Go.Proofs.Ytiajdaagamhbnaa
open Sh RowKit Go.MapKept

section
variable {w V W : World} {Q : Value → World → Prop} {v ov pv lv : Value} {l : List Fl} {ks : List Int}
theorem f12_s (hr : rdS 14 (eR encF) W v l) (hl : l.length ≤ 1000) (kk : ∀ w' ov acc, Below W.heap.size W w' → ownE W.heap.size 3 1 encI w' ov acc → PrL l acc → Q ov w') : f12 v W Q := by
  unfold f12
  rw [jn_e]
  refine ⟨_, prog_loop (W := W) hr hl l.length 0 [] (.slice none 0 0) W (by omega) (Below.refl _ _) ownE_nil ⟨List.Pairwise.nil, fun p => by simp⟩ fun w1 ov acc b1 o1 p1 => ?_⟩
  unfold f12_j1
  rw [rt_e]
  exact kk w1 ov acc b1 o1 p1
set_option maxRecDepth 20000 in
theorem counts_loop {j1 : Value → M} (hr : rdS 14 (eR encF) W v l) (hl : l.length ≤ 1000) (hL : rdS 7 (eR encL) W lv (ks.map fun p => (p, flP p l))) (hP : rdS 1 (eR encI) W pv ks) (hk : ks.length ≤ 1000) : ∀ (m i : Nat) (w : World), i + m = ks.length → Below W.heap.size W w →
    (∀ w', Below W.heap.size W w' → j1 v w' Q) → itr (fun _ _ _ _ => bot) (f4_b2 j1) (m + 1) v lv pv (.int .i64 (i : Int)) w Q := by
  intro m
  induction m with
  | zero =>
    intro i w hi hb kk
    show f4_b2 _ _ _ _ _ _ w Q
    unfold f4_b2
    refine lnl_S hL ?_
    rw [List.length_map]
    have c1 : ¬ (i : Int) < (ks.length : Int) := by omega
    simp only [↓reduceIte, ↓LL, LM, Value.cells, Nat.reduceAdd, Option.some.injEq, exists_eq_left', decide_true, decide_false, if_true, if_false, reduceCtorEq, cond_true, cond_false, c1]
    exact kk w hb
  | succ m ih =>
    intro i w hi hb kk
    have hil : i < ks.length := by omega
    show f4_b2 _ _ _ _ _ _ w Q
    unfold f4_b2
    refine lnl_S hL ?_
    rw [List.length_map]
    have c1 : (i : Int) < (ks.length : Int) := by omega
    have e5 : IntKind.i64.wrap ((i : Int) + 1) = ((i + 1 : Nat) : Int) := by rw [w64 (by omega) (by omega)]; omega
    obtain ⟨a, es, e1, e2, e3, e4⟩ := rdS_at hL (i := i) (by simpa using hil)
    rw [List.getElem_map] at e3
    have e3 : es = encL (ks[i], flP ks[i] l) := e3
    subst e3
    obtain ⟨a', es', f1, f2, f3, f4⟩ := rdS_at hP hil
    have f3 : es' = encI ks[i] := f3
    subst f3
    generalize ks[i] = p at *
    have hb : Below W.heap.size W (drw w) := Below_drw hb
    simp only [lt_e, cnd_e, c1, decide_true, cond_true, if_true, ↓reduceIte, dr_q, idv_e]
    generalize drw w = w1 at *
    have c0 := cellsAt_get (cellsAt_below hb e2) (j := 0) (v := .int .i64 p) rfl
    have d0 := cellsAt_get (cellsAt_below hb f2) (j := 0) (v := .int .i64 p) rfl
    rw [add_zero'] at c0 d0
    simp only [e4, f4, idv_e, fa_e, add_zero', ld_e, c0, d0, Option.some.injEq, exists_eq_left', nei_e, ne_eq, not_true_eq_false, decide_false, gd_e, if_true, ↓reduceIte]
    refine ldn_at (es := (cC (ctL (flP p l))).toList) (cells_tail (cellsAt_below hb e2)) rfl ?_
    simp only [gd_e, if_true, ↓reduceIte, idv_e, f4, ld_e, d0, Option.some.injEq, exists_eq_left', cl_e]
    refine f13_s fun w2 b2 => ?_
    rw [kp_e]
    refine ⟨fun _ => ⟨_, rfl, cell_below b2 d0⟩, ?_⟩
    have b02 := bt hb b2
    simp only [gd_e, if_true, ↓reduceIte, cl_e]
    refine f15_s (rdS_below eR_st b02 hr) (by omega) fun w3 ov b3 o3 => ?_
    have hfl : (flP p l).length ≤ l.length := List.length_filter_le _ _
    try simp only [gd_e, if_true, ↓reduceIte, cl_e]
    refine f14_s (ownE_rd encF_len (by decide) o3) (by omega) fun w4 b4 => ?_
    try simp only [gd_e, if_true, ↓reduceIte]
    rw [smr_e]
    refine ⟨_, ne37t (fun _ _ => rfl) _ _ _, ?_⟩
    simp only [↓reduceIte, ↓LL, LM, Value.cells, Nat.reduceAdd, Option.some.injEq, exists_eq_left', decide_true, decide_false, if_true, if_false, reduceCtorEq, cond_true, cond_false, e5]
    exact ih (i + 1) w4 (by omega) (bt (bt b02 b3) b4) kk
set_option maxRecDepth 20000 in
theorem f4_s (hr : rdS 14 (eR encF) W v l) (hwf : ∀ f ∈ l, (Lit.int .i64 f.prog).wf = true) (kk : ∀ w', Below W.heap.size W w' → Q (.bool true) w') : f4 v W Q := by
  unfold f4
  rw [cl_e]
  refine f7_s fun w1 b1 => ?_
  simp only [↓reduceIte, ↓LL, LM, Value.cells, Nat.reduceAdd, Option.some.injEq, exists_eq_left', decide_true, decide_false, if_true, if_false, reduceCtorEq, cond_true, cond_false]
  refine f8_s (rdS_below eR_st b1 hr) fun v1 r1 => ?_
  have hl : (l.take 150).length ≤ 150 := by rw [List.length_take]; omega
  have hwf : ∀ f ∈ l.take 150, (Lit.int .i64 f.prog).wf = true := fun f hf => hwf f (List.mem_of_mem_take hf)
  generalize l.take 150 = l at *
  try rw [cl_e]
  refine f9_s r1 (by omega) hwf fun w2 lv ks b2 hp hm hk oL => ?_
  have rL := ownE_rd encL_len (by decide) oL
  try rw [cl_e]
  refine f12_s (rdS_below eR_st b2 r1) (by omega) fun w3 pv acc b3 oP hPr => ?_
  obtain rfl : acc = ks := hPr.uniq ⟨hp, hm⟩
  have rP := ownE_rd encI_len (by decide) oP
  have b13 := bt b2 b3
  try rw [cl_e]
  refine f11_s (rdS_below eR_st b13 r1) (by omega) fun w4 b4 => ?_
  try rw [cl_e]
  refine f13_s fun w5 b5 => ?_
  have b15 := bt (bt b13 b4) b5
  try rw [cl_e]
  refine f14_s (rdS_below eR_st b15 r1) (by omega) fun w6 b6 => ?_
  rw [smr_e]
  refine ⟨_, ne37t (fun _ _ => rfl) _ _ _, ?_⟩
  have b16 := bt b15 b6
  have b36 := bt (bt b4 b5) b6
  have b26 := bt b3 b36
  simp only [gd_e, if_true, ↓reduceIte, idv_e]
  refine lnl_S rL ?_
  simp only [gd_e, if_true, ↓reduceIte, idv_e]
  refine lnl_S rP ?_
  rw [List.length_map]
  simp only [↓reduceIte, ↓LL, LM, Value.cells, Nat.reduceAdd, Option.some.injEq, exists_eq_left', decide_true, decide_false, if_true, if_false, reduceCtorEq, cond_true, cond_false, ne_eq, not_true_eq_false]
  refine ⟨_, counts_loop (W := w6) (rdS_below eR_st b16 r1) (by omega) (rdS_below eR_st b26 rL) (rdS_below eR_st b36 rP) hk acc.length 0 w6 (by omega) (Below.refl _ _) fun w7 b7 => ?_⟩
  unfold f4_j1
  have b17 := bt b16 b7
  try rw [cl_e]
  refine f16_s (rdS_below eR_st b17 r1) (by omega) fun w8 b8 => ?_
  have b18 := bt b17 b8
  unfold tilV
  simp only [↓reduceIte, ↓LL, LM, Value.cells, Nat.reduceAdd, Option.some.injEq, exists_eq_left', decide_true, decide_false, if_true, if_false, reduceCtorEq, cond_true, cond_false]
  refine f17_s (rdS_below eR_st b18 r1) (by omega) fun w9 b9 => ?_
  unfold tilV
  simp only [↓reduceIte, ↓LL, LM, Value.cells, Nat.reduceAdd, Option.some.injEq, exists_eq_left', decide_true, decide_false, if_true, if_false, reduceCtorEq, cond_true, cond_false, beq_self_eq_true]
  exact kk w9 (bt b1 (bt b18 b9))
end
end Go.Proofs.Ytiajdaagamhbnaa

namespace Go.Proofs.Ytiajdaagamhbnaa
namespace Sh
open RowKit
section
variable {H : Type} {enc : TypeId × Value → H} {P : Program}
theorem trodAll_below (hl : laidOutB P = true) {W W' : World} (hb : Below W.heap.size W W') : ∀ (ts : List TypeId) (vs : List Value) (ds : List (DataW H)) (ps : List MemPlace),
    (∀ t ∈ ts, P.readableRec t = true ∧ t < P.types.size) → DataW.TrodAll enc P W 0 (fun _ => true) true ts vs ds ps → (∀ x ∈ ps, x.block < W.heap.size) →
    DataW.TrodAll enc P W' 0 (fun b => decide (b < W.heap.size)) true ts vs ds ps := by
  intro ts
  induction ts with
  | nil =>
    intro vs ds ps _ h _
    match vs, ds, h with
    | [], [], h => exact h
  | cons t ts ih =>
    intro vs ds ps ht h hp
    match vs, ds, h with
    | v :: vs, d :: ds, ⟨p, q, h1, h2, h3⟩ =>
      subst h3
      exact ⟨p, q, Below.trod hl (ht t (by simp)).1 (ht t (by simp)).2 h1 hb (fun x hx => hp x (by simp [hx])), ih vs ds q (fun u hu => ht u (by simp [hu])) h2 (fun x hx => hp x (by simp [hx])), rfl⟩
theorem trodAll_len : ∀ (ts : List TypeId) (vs : List Value) (ds : List (DataW H)) (ps : List MemPlace) {W : World}, DataW.TrodAll enc P W 0 (fun _ => true) true ts vs ds ps → ds.length = ts.length := by
  intro ts
  induction ts with
  | nil => intro vs ds ps W h; match vs, ds, h with | [], [], h => rfl
  | cons t ts ih => intro vs ds ps W h; match vs, ds, h with | v :: vs, d :: ds, ⟨p, q, h1, h2, h3⟩ => simp [ih vs ds q h2]
theorem law_post {fn : Func} {s : ChangeSpec} {apart : Bool} {W W' : World} {args : Array Value} {ds gs : List (DataW H)} {before : List MemPlace} {tb : TypeId} (hv : s.vars = []) (hl : laidOutB P = true)
    (hp : ∀ t ∈ fn.params.toList, P.readableRec t = true ∧ t < P.types.size) (hr : fn.resultTypes = #[tb]) (hb : P.underlying tb = some .bool)
    (hs : ∀ ds : List (DataW H), ds.length = fn.params.toList.length → (s.fn H ds).results = [.lit (.bool true)] ∧ (s.fn H ds).args = ds ∧ (s.fn H ds).vars = [])
    (hW : DataW.Whole enc P fn.params.toList s.vars apart W args.toList ds gs before) (h : Below W.heap.size W W') :
    s.post enc P fn apart true false false W args (.bool true) W' := by
  have hW0 := hW
  obtain ⟨p, q, hA, hV, rfl, hfz, hnd⟩ := hW
  rw [hv] at hV
  have hg : gs = [] ∧ q = [] := by
    cases gs with
    | nil => exact ⟨rfl, hV⟩
    | cons g gs => exact hV.elim
  obtain ⟨rfl, rfl⟩ := hg
  obtain ⟨e1, e2, e3⟩ := hs ds (trodAll_len _ _ _ _ hA)
  refine ⟨ds, [], p ++ [], [], p, [], hW0, ?_, ?_, ?_, Below.frame h _, fun h => by cases h⟩
  · rw [hr, List.append_nil, e1]
    exact ⟨[], [], ⟨1, by simp [DataW.trod, hb, Value.cells]⟩, rfl, rfl⟩
  · rw [List.append_nil, e2]
    exact trodAll_below hl h _ _ _ _ hp hA (fun x hx => by have := hW0.lt x (by simp [hx]); simpa using this)
  · rw [List.append_nil, hv, e3]
    rfl
theorem law_lifted {C : Checked} {os : Os} {f : FuncId} {fn : Func} {s : ChangeSpec} {conds : List PathCond} {tb : TypeId}
    (own : ownKnob C.prog.godebug = none) (started : os.Started) (noInit : C.prog.inits.idxOf? f = none) (hfn : C.prog.funcs[f]? = some fn)
    (witness : ∃ (w : World) (tape : Tape) (i : Input), w.os = os ∧ (w.forCall tape i).Shaped C.prog ∧ i.vars = [] ∧ Input.okWide C.prog (w.forCall tape i) .any w.heap.size f i ∧
      s.pre6 enc C.prog fn conds false (w.forCall tape i).memory i.args ∧ ({} : Assume).holds C.prog (lone (Frame.enter C.prog f i.args .normal) [] (w.forCall tape i)))
    (hv : s.vars = []) (hl : laidOutB C.prog = true) (hp : fn.params.toList.all (fun t => C.prog.readableRec t && decide (t < C.prog.types.size)) = true) (hr : fn.resultTypes = #[tb]) (hb : C.prog.underlying tb = some .bool)
    (hs : ∀ ds : List (DataW H), ds.length = fn.params.toList.length → (s.fn H ds).results = [.lit (.bool true)] ∧ (s.fn H ds).args = ds ∧ (s.fn H ds).vars = [])
    (contract : ∀ (W : World) (base : Nat) (args : Array Value) (ds : List (DataW H)) (p : List MemPlace),
      (∀ (j : Nat) t v, fn.params[j]? = some t → args[j]? = some v → Value.okWide C.prog W .any base t v) →
      DataW.TrodAll enc C.prog W 0 (fun _ => true) true fn.params.toList args.toList ds p →
      (DataW.weightsEach C.prog fn.params.toList ds).all (· ≤ reachBytes) = true →
      Calls C.prog f args W (Rt fun v W' => v = .bool true ∧ Below W.heap.size W W')) :
    ReturnsInHanded {} C os f .any (s.pre6 enc C.prog fn conds false) (s.post enc C.prog fn false true false false) := by
  refine returnsInHanded_of_change_sized own started noInit hfn witness ?_
  intro W base args ds gs before hval hW _ hz _
  have hp' : ∀ t ∈ fn.params.toList, C.prog.readableRec t = true ∧ t < C.prog.types.size := fun t ht => by
    have := List.all_eq_true.1 hp t ht
    simpa using this
  obtain ⟨p, q, hA, hV, hq⟩ := hW
  have hW : DataW.Whole enc C.prog fn.params.toList s.vars false W args.toList ds gs before := ⟨p, q, hA, hV, hq⟩
  have hg : gs = [] := by
    rw [hv] at hV
    cases gs with
    | nil => rfl
    | cons g gs => exact hV.elim
  subst hg
  have hvt : s.plain.varTypes C.prog = [] := by
    simp [ChangeSpec.plain, DataSpec.varTypes, hv]
  rw [hvt, List.append_nil, List.append_nil] at hz
  refine (contract W base args ds p hval hA hz).mono fun e W' he => ?_
  cases e with
  | returned v =>
    obtain ⟨hv', hbel⟩ := he
    subst hv'
    exact ⟨_, rfl, law_post hv hl hp' hr hb hs hW hbel⟩
  | panicked c => exact he.elim
  | outgrown => exact he.elim
end
end Sh
end Go.Proofs.Ytiajdaagamhbnaa

namespace Go.Proofs.Ytiajdaagamhbnaa
namespace Sh
open RowKit ChangeShapes
/-- all arguments, told by R -/
def OpensA (P : Program) (ts : List TypeId) (α : Type) (R : World → List Value → α → Prop) (bulk : α → Nat) : Prop :=
  ∀ {H : Type} (enc : TypeId × Value → H) (W : World) (vs : List Value) (ds : List (DataW H)) (ps : List MemPlace) (base : Nat),
    (∀ (j : Nat) t v, ts[j]? = some t → vs[j]? = some v → Value.okWide P W .any base t v) →
    DataW.TrodAll enc P W 0 (fun _ => true) true ts vs ds ps → (DataW.weightsEach P ts ds).all (· ≤ reachBytes) = true → ∃ a, R W vs a ∧ bulk a ≤ Rows.uptoBulkAll ds
section
variable {P : Program}
theorem oa_nil : OpensA P [] Unit (fun _ vs _ => vs = []) (fun _ => 0) := by
  intro H enc W vs ds ps base hv h _
  match vs, ds, h with
  | [], [], _ => exact ⟨(), rfl, Nat.zero_le _⟩
theorem OpensA.mono {ts : List TypeId} {α β : Type} {R : World → List Value → α → Prop} {S : World → List Value → β → Prop} {b : α → Nat} {c : β → Nat} (h : OpensA P ts α R b)
    (f : ∀ W vs a, R W vs a → ∃ x, S W vs x ∧ c x ≤ b a) : OpensA P ts β S c := by
  intro H enc W vs ds ps base hv hd hw
  obtain ⟨a, h1, h2⟩ := h enc W vs ds ps base hv hd hw
  obtain ⟨y, h3, h4⟩ := f W vs a h1
  exact ⟨y, h3, Nat.le_trans h4 h2⟩
theorem oa_one {t : TypeId} {ts : List TypeId} {α β : Type} {R : RepT α} {S : World → List Value → β → Prop} {b : α → Nat} {c : β → Nat} (h : Opens P t α R b) (hs : isSc P t = true) (h1 : ∀ w cs a, R w cs a → ∃ v, cs = [v])
    (hr : OpensA P ts β S c) : OpensA P (t :: ts) (α × β) (fun w vs x => ∃ v r, vs = v :: r ∧ R w [v] x.1 ∧ S w r x.2) (fun x => b x.1 + c x.2) := by
  intro H enc W vs ds ps base hv hd hw
  match vs, ds, hd with
  | v :: vs, d :: ds, ⟨p, q, k1, k2, k3⟩ =>
    simp only [DataW.weightsEach, List.all_append, Bool.and_eq_true] at hw
    obtain ⟨a, e1, e2⟩ := open_one h hs h1 (hv 0 t v rfl rfl) k1 hw.1
    obtain ⟨a', e3, e4⟩ := hr enc W vs ds q base (fun j t v g1 g2 => hv (j + 1) t v g1 g2) k2 hw.2
    exact ⟨(a, a'), ⟨v, vs, rfl, e1, e3⟩, by simp only [Rows.uptoBulkAll]; omega⟩
end
section
variable {H : Type} {enc : TypeId × Value → H}
theorem law_from {C : Checked} {os : Os} {f : FuncId} {fn : Func} {s : ChangeSpec} {conds : List PathCond} {tb : TypeId} {α : Type} {R : World → List Value → α → Prop} {b : α → Nat}
    (own : ownKnob C.prog.godebug = none) (started : os.Started) (noInit : C.prog.inits.idxOf? f = none) (hfn : C.prog.funcs[f]? = some fn)
    (witness : ∃ (w : World) (tape : Tape) (i : Input), w.os = os ∧ (w.forCall tape i).Shaped C.prog ∧ i.vars = [] ∧ Input.okWide C.prog (w.forCall tape i) .any w.heap.size f i ∧
      s.pre6 enc C.prog fn conds false (w.forCall tape i).memory i.args ∧ ({} : Assume).holds C.prog (lone (Frame.enter C.prog f i.args .normal) [] (w.forCall tape i)))
    (hv : s.vars = []) (hl : laidOutB C.prog = true) (hp : fn.params.toList.all (fun t => C.prog.readableRec t && decide (t < C.prog.types.size)) = true) (hr : fn.resultTypes = #[tb]) (hb : C.prog.underlying tb = some .bool)
    (hs : ∀ ds : List (DataW H), ds.length = fn.params.toList.length → (s.fn H ds).results = [.lit (.bool true)] ∧ (s.fn H ds).args = ds ∧ (s.fn H ds).vars = [])
    (oa : OpensA C.prog fn.params.toList α R b)
    (law : ∀ (W : World) (vs : List Value) (a : α), R W vs a → Calls C.prog f vs.toArray W (Rt fun v W' => v = .bool true ∧ Below W.heap.size W W')) :
    ReturnsInHanded {} C os f .any (s.pre6 enc C.prog fn conds false) (s.post enc C.prog fn false true false false) := by
  refine law_lifted own started noInit hfn witness hv hl hp hr hb hs ?_
  intro W base args ds p hval hA hz
  obtain ⟨a, h1, _⟩ := oa enc W args.toList ds p base (fun j t v h1 h2 => hval j t v (by simpa using h1) (by simpa using h2)) hA hz
  exact law W args.toList a h1
end
end Sh
end Go.Proofs.Ytiajdaagamhbnaa

namespace Go.Proofs.Ytiajdaagamhbnaa
open Sh RowKit
theorem u2 : Try.prog.underlying 2 = some (.int .i64) := by kernel_rfl
theorem u3 : Try.prog.underlying 3 = some (.int .i64) := by kernel_rfl
theorem u4 : Try.prog.underlying 4 = some .bool := by kernel_rfl
theorem u9 : Try.prog.underlying 9 = some .string := by kernel_rfl
theorem u48 : Try.prog.underlying 48 = some (.int .i64) := by kernel_rfl
theorem u22 : Try.prog.underlying 22 = some (.slice 55) := by kernel_rfl
theorem u51 : Try.prog.underlying 51 = some (.slice 50) := by kernel_rfl
theorem xsc22 : isSc Try.prog 22 = true := by kernel_rfl
theorem len2 {cs : List Value} (h : cs.length = 2) : ∃ a b, cs = [a, b] := by
  match cs, h with
  | [a, b], _ => exact ⟨a, b, rfl⟩
theorem len3 {cs : List Value} (h : cs.length = 3) : ∃ a b c, cs = [a, b, c] := by
  match cs, h with
  | [a, b, c], _ => exact ⟨a, b, c, rfl⟩
theorem len14 {cs : List Value} (h : cs.length = 14) : ∃ a b c d e f g i j k l m n o, cs = [a, b, c, d, e, f, g, i, j, k, l, m, n, o] := by
  match cs, h with
  | [a, b, c, d, e, f, g, i, j, k, l, m, n, o], _ => exact ⟨a, b, c, d, e, f, g, i, j, k, l, m, n, o, rfl⟩
theorem one_cell {x y : Value} (h : [x] = [y]) : x = y := (List.cons.inj h).1
theorem op50 : Opens Try.prog 50 Vl (eR encV) (fun _ => 1) := by
  refine Opens.mono (op_struct Try.underlying50 (n := 3) (by kernel_rfl) (opf_cons (n := 1) (by kernel_rfl) (op_int u48) (opf_cons (n := 1) (by kernel_rfl) (op_int u2)
    (opf_cons (n := 1) (by kernel_rfl) (op_str u9) opf_nil)))) ?_
  rintro w cs ⟨a, b, n, ⟨⟩⟩ ⟨hl, ⟨h0, h0'⟩, ⟨h1, h1'⟩, ⟨h2, h2'⟩, -⟩
  obtain ⟨c0, c1, c2, rfl⟩ := len3 hl
  have e0 := one_cell (x := c0) h0
  have e1 := one_cell (x := c1) h1
  have e2 := one_cell (x := c2) h2
  exact ⟨⟨a, b, n⟩, by rw [e0, e1, e2]; rfl, by simp⟩
/-- a frame -/
structure Fr where
  pc : Int
  rp : Option Addr
  rl : Nat
  rc : Nat
def frR : RepT Fr := fun w cs f => cs = [.int .i64 f.pc, .slice f.rp f.rl f.rc] ∧ ∃ rl, rdS 3 (eR encV) w (.slice f.rp f.rl f.rc) rl
theorem op53 : Opens Try.prog 53 Fr frR (fun _ => 0) := by
  refine Opens.mono (op_struct Try.underlying53 (n := 2) (by kernel_rfl) (opf_cons (n := 1) (by kernel_rfl) (op_int u3) (opf_cons (n := 1) (by kernel_rfl) (op_slice u51 (n := 3) (by kernel_rfl) op50) opf_nil))) ?_
  rintro w cs ⟨a, l, ⟨⟩⟩ ⟨hl, ⟨h0, h0'⟩, ⟨v, hv, hr, hs⟩, -⟩
  obtain ⟨c0, c1, rfl⟩ := len2 hl
  have e0 := one_cell (x := c0) h0
  have e1 := one_cell (x := c1) hv
  obtain ⟨p, c, e2⟩ := rdS_len hr
  refine ⟨⟨a, p, l.length, c⟩, ⟨by rw [e0, e1, e2], l, by rw [e2] at hr; exact hr⟩, Nat.zero_le _⟩
/-- a workflow in an argument: its program's number is one, its registers can be read -/
def flR : RepT Fl := fun w cs f => cs = encF f ∧ (Lit.int .i64 f.prog).wf = true ∧ ∃ rl, rdS 3 (eR encV) w f.regs rl
theorem op55 : Opens Try.prog 55 Fl flR (fun _ => 0) := by
  refine Opens.mono (op_struct Try.underlying55 (n := 14) (by kernel_rfl) (opf_cons (n := 1) (by kernel_rfl) (op_int u3) (opf_cons (n := 1) (by kernel_rfl) (op_int u3) (opf_cons (n := 3) (by kernel_rfl) op50
    (opf_cons (n := 1) (by kernel_rfl) (op_int u3) (opf_cons (n := 1) (by kernel_rfl) (op_int u3) (opf_cons (n := 1) (by kernel_rfl) (op_int u2) (opf_cons (n := 3) (by kernel_rfl) op50 (opf_cons (n := 2) (by kernel_rfl) op53 (opf_cons (n := 1) (by kernel_rfl) (op_bool u4) opf_nil)))))))))) ?_
  rintro w cs ⟨a0, a1, a2, a3, a4, a5, a6, a7, a8, ⟨⟩⟩ ⟨hl, ⟨h0, h0'⟩, ⟨h1, h1'⟩, h2, ⟨h3, h3'⟩, ⟨h4, h4'⟩, ⟨h5, h5'⟩, h6, ⟨h7, h7'⟩, h8, -⟩
  obtain ⟨c0, c1, c2, c3, c4, c5, c6, c7, c8, c9, c10, c11, c12, c13, rfl⟩ := len14 hl
  have e0 := one_cell (x := c0) h0
  have e1 := one_cell (x := c1) h1
  have e2 : [c2, c3, c4] = encV a2 := h2
  have e3 := one_cell (x := c5) h3
  have e4 := one_cell (x := c6) h4
  have e5 := one_cell (x := c7) h5
  have e6 : [c8, c9, c10] = encV a6 := h6
  have e7 : [c11, c12] = [.int .i64 a7.pc, .slice a7.rp a7.rl a7.rc] := h7
  have e8 := one_cell (x := c13) h8
  simp only [encV, List.cons.injEq, and_true] at e2 e6 e7
  obtain ⟨rfl, rfl, rfl⟩ := e2
  obtain ⟨rfl, rfl, rfl⟩ := e6
  obtain ⟨rfl, rfl⟩ := e7
  exact ⟨⟨a0, a1, a2, a3, a4, a5, a6, a7.pc, a7.rp, a7.rl, a7.rc, a8⟩, ⟨by rw [e0, e1, e3, e4, e5, e8]; rfl, h1', h7'⟩, Nat.zero_le _⟩
theorem flR_eq {w : World} {v : Value} {l : List Fl} (h : rdS 14 flR w v l) : rdS 14 (eR encF) w v l := rdS_mono (fun _ _ h => h.1) h
theorem flR_all {w : World} {v : Value} {l : List Fl} (h : rdS 14 flR w v l) : ∀ f ∈ l, (Lit.int .i64 f.prog).wf = true ∧ ∃ rl, rdS 3 (eR encV) w f.regs rl := by
  intro f hf
  obtain ⟨i, hi, rfl⟩ := List.mem_iff_getElem.1 hf
  obtain ⟨_, _, _, _, hz, _⟩ := rdS_at h hi
  exact hz.2
def b3 : List Fl × List Fl → Nat := fun _ => 0
def R4 : World → List Value → List Fl → Prop := fun W vs x => ∃ v, vs = [v] ∧ rdS 14 flR W v x
def b4 : List Fl → Nat := fun _ => 0
theorem oa4 : OpensA Try.prog [22] (List Fl) R4 b4 := by
  refine OpensA.mono (oa_one (op_slice u22 (n := 14) (by kernel_rfl) op55) xsc22 (fun w cs a h => ⟨_, h.choose_spec.1⟩) oa_nil) ?_
  rintro W vs ⟨l, ⟨⟩⟩ ⟨v, r, rfl, ⟨v', hv, hr, hl⟩, rfl⟩
  exact ⟨l, ⟨v, rfl, by rw [one_cell hv]; exact hr⟩, Nat.zero_le _⟩
end Go.Proofs.Ytiajdaagamhbnaa

namespace Go.Proofs.Ytiajdaagamhbnaa
open Go.ChangeShapes Go.WideShapes Go.ChangeAt Go.RowKit
open Sh
theorem law4 (W : World) (vs : List Value) (a : List Fl) (h : R4 W vs a) : Calls Try.prog 4 vs.toArray W (Rt fun v W' => v = .bool true ∧ Below W.heap.size W W') := by
  obtain ⟨v, rfl, hr⟩ := h
  exact s4 _ _ _ (f4_s (flR_eq hr) (fun f hf => (flR_all hr f hf).1) fun w' h => ⟨rfl, h⟩)
theorem own : ownKnob Try.prog.godebug = none := by kernel_rfl
set_option maxRecDepth 100000 in
theorem lifted4 (os : Os) (started : os.Started) (H : Type) (enc : TypeId × Value → H) :
    ReturnsInHanded {} Try.checked os 4 .any (Rows.reportCountsSpec.pre6 enc Try.prog Try.f4 Rows.reportCountsRow.domain false) (Rows.reportCountsSpec.post enc Try.prog Try.f4 false true false false) := by
  refine law_from (C := Try.checked) (tb := 4) (R := R4) (b := b4) own started (by kernel_rfl) Try.func4
    (ChangeSpec.witness6 (enc := enc) (C := Try.checked) false ⟨#[], #[.slice none 0 0], []⟩ 8 (by kernel_rfl) (by kernel_rfl) (by kernel_rfl) (by kernel_rfl))
    rfl (by kernel_rfl) (by kernel_rfl) rfl Try.underlying4 (fun ds hd => ?_) ?_ law4
  · match ds, hd with
    | [d0], _ => exact ⟨rfl, rfl, rfl⟩
  · show OpensA Try.prog Try.f4.params.toList _ R4 b4
    rw [Try.params4]; exact oa4
theorem reportCounts_holds : Rows.ReportCountsSaid :=
  OpenClaim.holds_of_wide 4 Try.f4 rfl rfl rfl rfl rfl rfl rfl ⟨rfl, rfl, rfl, rfl, rfl⟩ rfl rfl rfl rfl rfl (by kernel_rfl) Try.func4 (by kernel_rfl)
    (of_decide_eq_true (by kernel_rfl)) (by unfold Func.isWrapper; first | (rw [if_pos (by decide +kernel)]; kernel_rfl) | (rw [if_neg (by decide +kernel)]; exact ⟨rfl, rfl⟩))
    (fun os started H enc _ => lifted4 os started H enc)
#print axioms reportCounts_holds
end Go.Proofs.Ytiajdaagamhbnaa
