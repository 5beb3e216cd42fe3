/- Maps of the call's own: what they hold, told as a list of keys and values; lookups, updates, deletions, ranges. -/
import Derived.Test.YtlmiimojgledpaaSh17
import Derived.MapKept
import Derived.Maps.RangeRun
set_option linter.unusedVariables false
set_option linter.unusedSimpArgs false
set_option linter.unusedSectionVars false
namespace Go.Proofs.Ytlmiimojgledpaa
namespace Sh
open RowKit Go.MapKept
/-- a map's type, its keys' -/
structure KeyK (P : Program) (t kt et : TypeId) (d : TypeDesc) {α : Type} (kv : α → Value) : Prop where
  hm : P.underlying t = some (.map kt et)
  hd : P.underlying kt = some d
  key : ∀ a, IsKey d (kv a)
  inj : ∀ a b, kv a = kv b → a = b
def MapAt {α : Type} (kv : α → Value) (w : World) (b : Nat) (L : List (α × Value)) : Prop :=
  ∃ es clock, w.heap[b]? = some (.map es clock) ∧ Stamped es clock ∧ es.toList.map (fun e => (e.key, e.val)) = L.map (fun p => (kv p.1, p.2))
def put {α : Type} [DecidableEq α] (L : List (α × Value)) (k : α) (v : Value) : List (α × Value) :=
  if k ∈ L.map (·.1) then L.map (fun p => if p.1 = k then (k, v) else p) else L ++ [(k, v)]
def del {α : Type} [DecidableEq α] (L : List (α × Value)) (k : α) : List (α × Value) := L.filter (fun p => decide (p.1 ≠ k))
def lk {α : Type} [DecidableEq α] (L : List (α × Value)) (k : α) : Option Value := (L.find? (fun p => decide (p.1 = k))).map (·.2)
theorem blk_sb {w : World} {b : Nat} {o o' : Obj} (h : w.heap[b]? = some o) : (sb w b o').heap[b]? = some o' := by simp [sb, blk_lt h]
theorem Upd_sb {w : World} {b : Nat} {o : Obj} : Upd b w (sb w b o) := ⟨rfl, rfl, rfl, by simp [sb], fun k hk => by simp [sb, Array.getElem?_setIfInBounds_ne (Ne.symm hk)]⟩
section
variable {α : Type} [DecidableEq α] {kv : α → Value} {P : Program} {t kt et : TypeId} {d : TypeDesc} {w : World} {b : Nat} {L : List (α × Value)} {K : Value → M} {K0 : M} {Q : Value → World → Prop}
omit [DecidableEq α] in
theorem MapAt.stay {w' : World} (h : MapAt kv w b L) (hb : w'.heap[b]? = w.heap[b]?) : MapAt kv w' b L := by
  obtain ⟨es, clock, h1, h2, h3⟩ := h
  exact ⟨es, clock, by rw [hb]; exact h1, h2, h3⟩
omit [DecidableEq α] in
theorem MapAt.lt (h : MapAt kv w b L) : b < w.heap.size := by obtain ⟨es, clock, h1, _⟩ := h; exact blk_lt h1
omit [DecidableEq α] in
theorem MapAt.below {w' : World} (h : MapAt kv w b L) (hb : Below w.heap.size w w') : MapAt kv w' b L := h.stay (hb.block b h.lt)
omit [DecidableEq α] in
theorem MapAt.chg {w' : World} {p : Nat} (h : MapAt kv w b L) (hc : Chg p w w') (hp : b ≠ p) : MapAt kv w' b L := h.stay (hc.block b h.lt hp)
omit [DecidableEq α] in
theorem MapAt.upd {w' : World} {p : Nat} (h : MapAt kv w b L) (hc : Upd p w w') (hp : b ≠ p) : MapAt kv w' b L := h.stay (hc.block b hp)
omit [DecidableEq α] in
theorem MapAt.nodup (h : MapAt kv w b L) : (L.map (·.1)).Nodup := by
  obtain ⟨es, clock, h1, ⟨_, _, h2⟩, h3⟩ := h
  have e : es.toList.map (·.key) = (L.map (·.1)).map kv := by
    have := congrArg (List.map Prod.fst) h3
    simpa [List.map_map, Function.comp_def] using this
  rw [e] at h2
  exact List.Pairwise.of_map kv (fun a b hab e => hab (by rw [e])) h2
omit [DecidableEq α] in
theorem isKeys {es : Array MapEntry} (KK : KeyK P t kt et d kv) (h : es.toList.map (fun e => (e.key, e.val)) = L.map (fun p => (kv p.1, p.2))) : ∀ x ∈ es.toList, IsKey d x.key := by
  intro x hx
  have : (x.key, x.val) ∈ L.map (fun p => (kv p.1, p.2)) := h ▸ List.mem_map.2 ⟨x, hx, rfl⟩
  obtain ⟨p, _, e⟩ := List.mem_map.1 this
  rw [← (Prod.mk.inj e).1]
  exact KK.key _
omit [DecidableEq α] in
theorem ent_at {es : Array MapEntry} (h : es.toList.map (fun e => (e.key, e.val)) = L.map (fun p => (kv p.1, p.2))) (i : Nat) :
    (es.toList[i]?).map (fun e => (e.key, e.val)) = (L[i]?).map (fun p => (kv p.1, p.2)) := by
  rw [← List.getElem?_map, ← List.getElem?_map, h]
theorem lk_none {k : α} : lk L k = none ↔ ∀ p ∈ L, p.1 ≠ k := by simp [lk]
theorem lk_cons {a k : α} {v : Value} : lk ((a, v) :: L) k = if a = k then some v else lk L k := by
  unfold lk
  by_cases h : a = k <;> simp [h]
theorem lk_mem {k : α} {v : Value} (h : lk L k = some v) : (k, v) ∈ L := by
  induction L with
  | nil => simp [lk] at h
  | cons p L ih =>
    obtain ⟨a, u⟩ := p
    rw [lk_cons] at h
    split at h
    · rename_i e; cases h; subst e; simp
    · exact List.mem_cons_of_mem _ (ih h)
theorem mem_lk (hn : (L.map (·.1)).Nodup) {k : α} {v : Value} (h : (k, v) ∈ L) : lk L k = some v := by
  induction L with
  | nil => cases h
  | cons p L ih =>
    obtain ⟨a, u⟩ := p
    rw [lk_cons]
    simp only [List.map_cons, List.nodup_cons] at hn
    rcases List.mem_cons.1 h with e | h
    · cases e; simp
    · have : a ≠ k := fun e => hn.1 (e ▸ List.mem_map.2 ⟨_, h, rfl⟩)
      rw [if_neg this]
      exact ih hn.2 h
/-- what a search finds -/
theorem found (KK : KeyK P t kt et d kv) {es : Array MapEntry} {clock : Nat} (hs : Stamped es clock) (h : es.toList.map (fun e => (e.key, e.val)) = L.map (fun p => (kv p.1, p.2))) (k : α) :
    (lk L k = none ∧ Instr.findNow d (kv k) es.toList 0 = some none ∧ ∀ x ∈ es.toList, x.key ≠ kv k) ∨
    ∃ (i : Nat) (e : MapEntry) (v : Value), lk L k = some v ∧ Instr.findNow d (kv k) es.toList 0 = some (some (i, v)) ∧ es[i]? = some e ∧ e.key = kv k ∧ e.val = v ∧ L[i]? = some (k, v) := by
  have hn : (L.map (·.1)).Nodup := MapAt.nodup (w := { (default : World) with heap := #[.map es clock] }) (b := 0) ⟨es, clock, rfl, hs, h⟩
  rcases findNow_spec (KK.key k) es.toList 0 (isKeys KK h) with ⟨h1, h2⟩ | ⟨j, e, h1, h2, h3⟩
  · refine .inl ⟨lk_none.2 fun p hp e => ?_, h1, h2⟩
    have : (kv p.1, p.2) ∈ es.toList.map (fun e => (e.key, e.val)) := h ▸ List.mem_map.2 ⟨p, hp, rfl⟩
    obtain ⟨x, hx, e2⟩ := List.mem_map.1 this
    exact h2 x hx (by rw [(Prod.mk.inj e2).1, e])
  · right
    have hj := ent_at h j
    rw [h2] at hj
    cases hL : L[j]? with
    | none => simp [hL] at hj
    | some p =>
      simp [hL] at hj
      have hk : p.1 = k := KK.inj _ _ (by rw [← hj.1, h3])
      have hm : (k, p.2) ∈ L := by rw [← hk]; exact List.mem_of_getElem? hL
      refine ⟨j, e, p.2, mem_lk hn hm, ?_, by simpa using h2, h3, hj.2, by rw [← hk]; exact hL⟩
      rw [h1, hj.2, Nat.zero_add]
theorem look_ok (KK : KeyK P t kt et d kv) (h : MapAt kv w b L) {z : Value} (hz : zeroIs P et z) (k : α) :
    smr P (Instr.lookup t (.map (some b)) (kv k) true) K w Q = K (.tuple #[(lk L k).getD z, .bool (lk L k).isSome]) w Q := by
  obtain ⟨es, clock, h1, h2, h3⟩ := h
  refine smr_run ?_
  rcases found KK h2 h3 k with ⟨e1, e2, _⟩ | ⟨i, e, v, e1, e2, _, _, _, _⟩
  · simp [Instr.lookup, run_underlying KK.hm, Go.MapKept.run_getObj_map h1, Go.MapKept.run_checkKey KK.hd (KK.key k), Go.MapKept.run_findKey KK.hd e2, e1, Result.andThen, zero_run hz]
  · simp [Instr.lookup, run_underlying KK.hm, Go.MapKept.run_getObj_map h1, Go.MapKept.run_checkKey KK.hd (KK.key k), Go.MapKept.run_findKey KK.hd e2, e1, Result.andThen]
theorem look_v (KK : KeyK P t kt et d kv) (h : MapAt kv w b L) {z : Value} (hz : zeroIs P et z) (k : α) :
    smr P (Instr.lookup t (.map (some b)) (kv k) false) K w Q = K ((lk L k).getD z) w Q := by
  obtain ⟨es, clock, h1, h2, h3⟩ := h
  refine smr_run ?_
  rcases found KK h2 h3 k with ⟨e1, e2, _⟩ | ⟨i, e, v, e1, e2, _, _, _, _⟩
  · simp [Instr.lookup, run_underlying KK.hm, Go.MapKept.run_getObj_map h1, Go.MapKept.run_checkKey KK.hd (KK.key k), Go.MapKept.run_findKey KK.hd e2, e1, Result.andThen, zero_run hz]
  · simp [Instr.lookup, run_underlying KK.hm, Go.MapKept.run_getObj_map h1, Go.MapKept.run_checkKey KK.hd (KK.key k), Go.MapKept.run_findKey KK.hd e2, e1, Result.andThen]
theorem Ksm_look_v (KK : KeyK P t kt et d kv) (h : MapAt kv w b L) {z : Value} (hz : zeroIs P et z) (k : α) : Ksm P (Instr.lookup t (.map (some b)) (kv k) false) ((lk L k).getD z) w := by
  obtain ⟨es, clock, h1, h2, h3⟩ := h
  unfold Ksm
  rcases found KK h2 h3 k with ⟨e1, e2, _⟩ | ⟨i, e, v, e1, e2, _, _, _, _⟩
  · simp [Instr.lookup, run_underlying KK.hm, Go.MapKept.run_getObj_map h1, Go.MapKept.run_checkKey KK.hd (KK.key k), Go.MapKept.run_findKey KK.hd e2, e1, Result.andThen, zero_run hz]
  · simp [Instr.lookup, run_underlying KK.hm, Go.MapKept.run_getObj_map h1, Go.MapKept.run_checkKey KK.hd (KK.key k), Go.MapKept.run_findKey KK.hd e2, e1, Result.andThen]
theorem Ksm_look_ok (KK : KeyK P t kt et d kv) (h : MapAt kv w b L) {z : Value} (hz : zeroIs P et z) (k : α) : Ksm P (Instr.lookup t (.map (some b)) (kv k) true) (.tuple #[(lk L k).getD z, .bool (lk L k).isSome]) w := by
  obtain ⟨es, clock, h1, h2, h3⟩ := h
  unfold Ksm
  rcases found KK h2 h3 k with ⟨e1, e2, _⟩ | ⟨i, e, v, e1, e2, _, _, _, _⟩
  · simp [Instr.lookup, run_underlying KK.hm, Go.MapKept.run_getObj_map h1, Go.MapKept.run_checkKey KK.hd (KK.key k), Go.MapKept.run_findKey KK.hd e2, e1, Result.andThen, zero_run hz]
  · simp [Instr.lookup, run_underlying KK.hm, Go.MapKept.run_getObj_map h1, Go.MapKept.run_checkKey KK.hd (KK.key k), Go.MapKept.run_findKey KK.hd e2, e1, Result.andThen]
theorem put_at {i : Nat} {k : α} {u v : Value} (hn : (L.map (·.1)).Nodup) (h : L[i]? = some (k, u)) : put L k v = L.set i (k, v) := by
  unfold put
  rw [if_pos (List.mem_map.2 ⟨_, List.mem_of_getElem? h, rfl⟩)]
  apply List.ext_getElem?
  intro j
  rw [List.getElem?_map, List.getElem?_set]
  have hi : i < L.length := by
    rcases Nat.lt_or_ge i L.length with c | c
    · exact c
    · simp [List.getElem?_eq_none c] at h
  by_cases hij : i = j
  · subst hij
    rw [h]
    simp [hi]
  · simp only [hij, if_false]
    cases hj : L[j]? with
    | none => rfl
    | some p =>
      simp only [Option.map_some]
      have : p.1 ≠ k := by
        intro e
        have h1 : (L.map (·.1))[i]? = some k := by simp [h]
        have h2 : (L.map (·.1))[j]? = some k := by simp [hj, e]
        exact hij ((List.getElem?_inj (by simpa using hi) hn).1 (by rw [h1, h2]))
      simp [this]
/-- a key's value set -/
theorem upd_map (KK : KeyK P t kt et d kv) (h : MapAt kv w b L) (k : α) (v : Value) (kk : ∀ w', MapAt kv w' b (put L k v) → Upd b w w' → K0 w' Q) : smu P (Instr.mapUpdate t (.map (some b)) (kv k) v) K0 w Q := by
  have hn := h.nodup
  obtain ⟨es, clock, h1, h2, h3⟩ := h
  rcases found KK h2 h3 k with ⟨e1, e2, e3⟩ | ⟨i, e, u, e1, e2, e3, e4, e5, e6⟩
  · refine ⟨sb w b (.map (es.push { key := kv k, val := v, born := clock }) (clock + 1)), ?_, kk _ ⟨_, _, blk_sb h1, stamped_push h2 e3, ?_⟩ Upd_sb⟩
    · simp [Instr.mapUpdate, run_underlying KK.hm, Go.MapKept.run_getObj_map h1, Go.MapKept.run_checkKey KK.hd (KK.key k), Go.MapKept.run_findKey KK.hd e2, Go.MapKept.run_setObj_map _ h1, Result.andThen, sb]
    · have : ¬ k ∈ L.map (·.1) := by
        intro hm
        obtain ⟨p, hp, e⟩ := List.mem_map.1 hm
        exact lk_none.1 e1 p hp e
      simp [put, this, h3]
  · refine ⟨sb w b (.map (es.modify i fun x => { x with key := kv k, val := v }) clock), ?_, kk _ ⟨_, _, blk_sb h1, ?_, ?_⟩ Upd_sb⟩
    · simp [Instr.mapUpdate, run_underlying KK.hm, Go.MapKept.run_getObj_map h1, Go.MapKept.run_checkKey KK.hd (KK.key k), Go.MapKept.run_findKey KK.hd e2, e3, e4, Go.MapKept.run_keyThatStays (KK.key k), Go.MapKept.run_setObj_map _ h1, Result.andThen, sb]
    · exact stamped_modify h2 _ _ (fun _ _ => rfl) (fun e' _ he' => by rw [e3] at he'; cases he'; exact e4.symm)
    · rw [put_at hn e6]
      apply List.ext_getElem?
      intro j
      have hj := ent_at h3 j
      have hi := ent_at h3 i
      simp only [List.getElem?_map, Array.getElem?_toList, Array.getElem?_modify, List.getElem?_set] at hj ⊢
      by_cases hij : i = j
      · subst hij
        have hlt : i < L.length := by
          rcases Nat.lt_or_ge i L.length with c | c
          · exact c
          · simp [List.getElem?_eq_none c] at e6
        simp [e3, hlt]
      · simp only [hij, if_false]
        exact hj
omit [DecidableEq α] in
theorem map_eraseIdx' {β γ : Type} (f : β → γ) (l : List β) (i : Nat) : (l.eraseIdx i).map f = (l.map f).eraseIdx i := by
  rw [List.eraseIdx_eq_take_drop_succ, List.eraseIdx_eq_take_drop_succ, List.map_append, List.map_take, List.map_drop]
/-- a key deleted -/
theorem del_map {ts0 : Nat} {ty : TypeId} (KK : KeyK P t kt et d kv) (h : MapAt kv w b L) (k : α) (kk : ∀ w', MapAt kv w' b (del L k) → Upd b w w' → K (.tuple #[]) w' Q) : sm P (Builtin.delete_ #[t, ts0] ty #[.map (some b), kv k]) K w Q := by
  have hn := h.nodup
  obtain ⟨es, clock, h1, h2, h3⟩ := h
  rcases found KK h2 h3 k with ⟨e1, e2, e3⟩ | ⟨i, e, u, e1, e2, e3, e4, e5, e6⟩
  · refine ⟨.tuple #[], sb w b (.map es clock), ?_, kk _ ⟨_, _, blk_sb h1, h2, ?_⟩ Upd_sb⟩
    · simp [Builtin.delete_, run_underlying KK.hm, Go.MapKept.run_getObj_map h1, Go.MapKept.run_checkKey KK.hd (KK.key k), Go.MapKept.run_findKey KK.hd e2, Go.MapKept.run_setObj_map _ h1, Result.andThen, sb]
    · rw [h3]
      congr 1
      unfold del
      rw [List.filter_eq_self.2]
      intro p hp
      simpa using lk_none.1 e1 p hp
  · refine ⟨.tuple #[], sb w b (.map (es.eraseIdxIfInBounds i) clock), ?_, kk _ ⟨_, _, blk_sb h1, stamped_erase h2 _, ?_⟩ Upd_sb⟩
    · simp [Builtin.delete_, run_underlying KK.hm, Go.MapKept.run_getObj_map h1, Go.MapKept.run_checkKey KK.hd (KK.key k), Go.MapKept.run_findKey KK.hd e2, Go.MapKept.run_setObj_map _ h1, Result.andThen, sb]
    · have hi : i < es.size := by
        rcases Nat.lt_or_ge i es.size with c | c
        · exact c
        · simp [Array.getElem?_eq_none c] at e3
      have e7 : (es.eraseIdxIfInBounds i).toList = es.toList.eraseIdx i := by
        unfold Array.eraseIdxIfInBounds
        simp [hi]
      rw [e7, map_eraseIdx', h3, ← map_eraseIdx']
      congr 1
      have hiL : i < L.length := by
        rcases Nat.lt_or_ge i L.length with c | c
        · exact c
        · simp [List.getElem?_eq_none c] at e6
      have e8 : L = L.take i ++ (k, u) :: L.drop (i + 1) := by
        have hLi : L[i] = (k, u) := by rw [List.getElem?_eq_getElem hiL] at e6; exact Option.some.inj e6
        rw [← hLi, List.getElem_cons_drop, List.take_append_drop]
      have hn' := hn
      rw [e8, List.map_append, List.map_cons, List.nodup_append] at hn'
      obtain ⟨_, n2, n3⟩ := hn'
      rw [List.nodup_cons] at n2
      have f1 : ∀ p ∈ L.take i, p.1 ≠ k := fun p hp e => n3 p.1 (List.mem_map.2 ⟨p, hp, rfl⟩) k (by simp) e
      have f2 : ∀ p ∈ L.drop (i + 1), p.1 ≠ k := fun p hp e => n2.1 (List.mem_map.2 ⟨p, hp, e⟩)
      rw [List.eraseIdx_eq_take_drop_succ]
      conv => rhs; rw [e8]
      unfold del
      rw [List.filter_append, List.filter_cons]
      simp only [ne_eq, not_true_eq_false, decide_false, Bool.false_eq_true, if_false]
      rw [List.filter_eq_self.2 (fun p hp => by simpa using f1 p hp), List.filter_eq_self.2 (fun p hp => by simpa using f2 p hp)]
/-- all keys deleted -/
theorem clear_map {ty : TypeId} (KK : KeyK P t kt et d kv) (h : MapAt kv w b L) (kk : ∀ w', MapAt kv w' b [] → Upd b w w' → K (.tuple #[]) w' Q) : sm P (Builtin.clear_ #[t] ty #[.map (some b)]) K w Q := by
  obtain ⟨es, clock, h1, h2, h3⟩ := h
  refine ⟨.tuple #[], sb w b (.map #[] clock), ?_, kk _ ⟨_, _, blk_sb h1, stamped_empty _, rfl⟩ Upd_sb⟩
  simp [Builtin.clear_, run_underlying KK.hm, Go.MapKept.run_getObj_map h1, Go.MapKept.run_setObj_map _ h1, Result.andThen, sb]
omit [DecidableEq α] in
/-- a new map -/
theorem mm_map (kk : ∀ w', MapAt kv w' w.heap.size [] → Below w.heap.size w w' → K (.map (some w.heap.size)) w' Q) : mm K w Q :=
  kk _ ⟨#[], 0, blk_psh_new, stamped_empty _, rfl⟩ (b_psh _ _)
omit [DecidableEq α] in
theorem len_map {ty : TypeId} (KK : KeyK P t kt et d kv) (h : MapAt kv w b L) : (Builtin.len_ #[t] ty #[.map (some b)]).run P w = .ok (.int .i64 L.length) w := by
  obtain ⟨es, clock, h1, h2, h3⟩ := h
  have : es.size = L.length := by simpa using congrArg List.length h3
  simp [Builtin.len_, run_underlying KK.hm, Go.MapKept.run_getObj_map h1, Result.andThen, goInt, this]
/-! ranges -/
/-- an iterator over a map: what has not yet been told -/
def RangeAt {α : Type} (kv : α → Value) (w : World) (r b : Nat) (L rest : List (α × Value)) : Prop :=
  ∃ es clock since seen c0, w.heap[b]? = some (.map es clock) ∧ w.heap[r]? = some (.mapIter (some b) since seen c0) ∧ Stamped es clock ∧ (∀ x ∈ es.toList, x.born < since) ∧ since ≤ c0 ∧ since ≤ clock ∧
    es.toList.map (fun e => (e.key, e.val)) = L.map (fun p => (kv p.1, p.2)) ∧ (leftOf es seen).toList.map (fun e => (e.key, e.val)) = rest.map (fun p => (kv p.1, p.2))
omit [DecidableEq α] in
theorem RangeAt.map {r : Nat} {rest : List (α × Value)} (h : RangeAt kv w r b L rest) : MapAt kv w b L := by
  obtain ⟨es, clock, since, seen, c0, h1, h2, h3, h4, h5, h6, h7, h8⟩ := h
  exact ⟨es, clock, h1, h3, h7⟩
omit [DecidableEq α] in
theorem RangeAt.stay {r : Nat} {rest : List (α × Value)} {w' : World} (h : RangeAt kv w r b L rest) (hb : w'.heap[b]? = w.heap[b]?) (hr : w'.heap[r]? = w.heap[r]?) : RangeAt kv w' r b L rest := by
  obtain ⟨es, clock, since, seen, c0, h1, h2, h3⟩ := h
  exact ⟨es, clock, since, seen, c0, by rw [hb]; exact h1, by rw [hr]; exact h2, h3⟩
omit [DecidableEq α] in
theorem RangeAt.lt {r : Nat} {rest : List (α × Value)} (h : RangeAt kv w r b L rest) : b < w.heap.size ∧ r < w.heap.size := by
  obtain ⟨es, clock, since, seen, c0, h1, h2, _⟩ := h
  exact ⟨blk_lt h1, blk_lt h2⟩
omit [DecidableEq α] in
theorem RangeAt.below {r : Nat} {rest : List (α × Value)} {w' : World} (h : RangeAt kv w r b L rest) (hb : Below w.heap.size w w') : RangeAt kv w' r b L rest := h.stay (hb.block _ h.lt.1) (hb.block _ h.lt.2)
omit [DecidableEq α] in
theorem RangeAt.chg {r p : Nat} {rest : List (α × Value)} {w' : World} (h : RangeAt kv w r b L rest) (hb : Chg p w w') (h1 : b ≠ p) (h2 : r ≠ p) : RangeAt kv w' r b L rest := h.stay (hb.block _ h.lt.1 h1) (hb.block _ h.lt.2 h2)
omit [DecidableEq α] in
theorem range_map (KK : KeyK P t kt et d kv) (h : MapAt kv w b L) (kk : ∀ w', RangeAt kv w' w.heap.size b L L → Below w.heap.size w w' → K (.pointer (some ⟨w.heap.size, 0, none⟩)) w' Q) : sm P (Instr.range t (.map (some b))) K w Q := by
  obtain ⟨es, clock, h1, h2, h3⟩ := h
  have hlt := blk_lt h1
  refine ⟨.pointer (some ⟨w.heap.size, 0, none⟩), psh w (.mapIter (some b) clock #[] clock), ?_, kk _ ⟨es, clock, clock, #[], clock, ?_, blk_psh_new, h2, h2.1, Nat.le_refl _, Nat.le_refl _, h3, ?_⟩ (b_psh _ _)⟩
  · simp [Instr.range, run_underlying KK.hm, Go.MapKept.run_getObj_map h1, Result.andThen, newObj, psh, Sem.run]
  · rw [blk_psh_old hlt]; exact h1
  · have : leftOf es #[] = es := by simp [leftOf]
    rw [this]; exact h3
theorem filter_born : ∀ (l : List MapEntry), (l.map (·.born)).Nodup → ∀ (i : Nat) (hi : i < l.length), l.filter (fun x => !(x.born == l[i].born)) = l.eraseIdx i := by
  intro l
  induction l with
  | nil => intro _ i hi; simp at hi
  | cons a l ih =>
    intro hn i hi
    simp only [List.map_cons, List.nodup_cons] at hn
    cases i with
    | zero =>
      simp only [List.getElem_cons_zero, List.eraseIdx_cons_zero, List.filter_cons, beq_self_eq_true, Bool.not_true, Bool.false_eq_true, if_false]
      rw [List.filter_eq_self.2]
      intro x hx
      have : x.born ≠ a.born := fun e => hn.1 (e ▸ List.mem_map.2 ⟨x, hx, rfl⟩)
      simpa using this
    | succ i =>
      have hi' : i < l.length := by simpa using hi
      have : a.born ≠ l[i].born := fun e => hn.1 (e ▸ List.mem_map.2 ⟨_, List.getElem_mem hi', rfl⟩)
      simp only [List.getElem_cons_succ, List.eraseIdx_cons_succ, List.filter_cons]
      rw [if_pos (by simpa using this), ih hn.2 i hi']
omit [DecidableEq α] in
theorem next_map {ty : TypeId} {r : Nat} {rest : List (α × Value)} (hrb : r ≠ b) (h : RangeAt kv w r b L rest) (k0 : rest = [] → K (.tuple #[.bool false]) w Q)
    (k1 : ∀ (i : Nat) (hi : i < rest.length) w', RangeAt kv w' r b L (rest.eraseIdx i) → Chg r w w' → K (.tuple #[.bool true, kv rest[i].1, rest[i].2]) w' Q) :
    sm P (Instr.next (.pointer (some ⟨r, 0, none⟩)) false ty) K w Q := by
  obtain ⟨es, clock, since, seen, c0, h1, h2, h3, h4, h5, h6, h7, h8⟩ := h
  rcases run_next_at (P := P) w ty r b since c0 seen es clock h2 h1 h4 h5 with ⟨e1, e2⟩ | ⟨e, he, w1, hw1, hrun⟩
  · refine ⟨_, w, e2, k0 ?_⟩
    have : (leftOf es seen).toList = [] := by simpa using e1
    rw [this] at h8
    simpa using h8.symm
  · obtain ⟨i, hi, hie⟩ := List.mem_iff_getElem.1 he
    have hli : i < rest.length := by have := congrArg List.length h8; simp at this; simp at hi; omega
    have hent : e.key = kv rest[i].1 ∧ e.val = rest[i].2 := by
      have := congrArg (fun l => l[i]?) h8
      simp only [List.getElem?_map, List.getElem?_eq_getElem hi, List.getElem?_eq_getElem hli, Option.map_some, hie] at this
      simpa using this
    refine ⟨_, _, hrun, ?_⟩
    rw [hent.1, hent.2]
    have hw1h : w1.heap = w.heap := by rcases hw1 with rfl | rfl <;> rfl
    refine k1 i hli _ ⟨es, clock, since, seen.push e.born, clock, ?_, ?_, h3, h4, h6, h6, h7, ?_⟩ ?_
    · show (w1.heap.setIfInBounds r _)[b]? = _
      rw [Array.getElem?_setIfInBounds_ne hrb, hw1h]; exact h1
    · show (w1.heap.setIfInBounds r _)[r]? = _
      rw [hw1h]
      have := blk_lt h2
      simp [this]
    · have : (leftOf es (seen.push e.born)).toList = (leftOf es seen).toList.eraseIdx i := by
        have hnd : ((leftOf es seen).toList.map (·.born)).Nodup := by
          unfold leftOf
          rw [Array.toList_filter]
          exact List.Nodup.sublist (List.Sublist.map _ List.filter_sublist) h3.2.1
        rw [← filter_born _ hnd i hi, hie]
        unfold leftOf
        simp only [Array.toList_filter, List.filter_filter]
        apply List.filter_congr
        intro x _
        rw [Bool.eq_iff_iff]
        simp [Array.mem_push, not_or, and_comm]
      rw [this, map_eraseIdx', h8, ← map_eraseIdx']
    · refine ⟨?_, ?_, ?_, ?_, ?_⟩
      · rcases hw1 with rfl | rfl <;> rfl
      · rcases hw1 with rfl | rfl <;> rfl
      · rcases hw1 with rfl | rfl <;> rfl
      · show _ ≤ (w1.heap.setIfInBounds r _).size
        rw [Array.size_setIfInBounds, hw1h]; exact Nat.le_refl _
      · intro k hk hne
        show (w1.heap.setIfInBounds r _)[k]? = _
        rw [Array.getElem?_setIfInBounds_ne (Ne.symm hne), hw1h]
end
end Sh
end Go.Proofs.Ytlmiimojgledpaa
