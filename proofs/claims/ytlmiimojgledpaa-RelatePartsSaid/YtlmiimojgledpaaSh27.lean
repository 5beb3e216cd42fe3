/- Maps whose keys are structs of plain fields: lookups, an entry taken and stored. -/
import Derived.Test.YtlmiimojgledpaaSh25
import Derived.DeepKeys5
set_option linter.unusedVariables false
set_option linter.unusedSimpArgs false
set_option linter.unusedSectionVars false
namespace Go.Proofs.Ytlmiimojgledpaa
namespace Sh
open RowKit Go.MapKept
structure KeyG {α : Type} (P : Program) (t kt et : TypeId) (kv : α → Value) (ok : α → Prop) : Prop where
  hm : P.underlying t = some (.map kt et)
  law : WideMaps.KeyLaw P kt
  ko : ∀ a, ok a → ∃ l, keyOf P kt (kv a) = some l
  inj : ∀ a b, kv a = kv b → a = b
section
variable {α : Type} [DecidableEq α] {kv : α → Value} {ok : α → Prop} {P : Program} {t kt et : TypeId} {w : World} {b : Nat} {L : List (α × Value)} {K : Value → M} {K0 : M} {Q : Value → World → Prop}
theorem foundG (KK : KeyG P t kt et kv ok) {es : Array MapEntry} {clock : Nat} (hs : Stamped es clock) (h : es.toList.map (fun e => (e.key, e.val)) = L.map (fun p => (kv p.1, p.2))) (hL : ∀ p ∈ L, ok p.1) (k : α) (hk : ok k) :
    (lk L k = none ∧ (Instr.findKey kt (kv k) es.toList).run P w = .ok none w ∧ ∀ x ∈ es.toList, x.key ≠ kv k) ∨
    ∃ (i : Nat) (e : MapEntry) (v : Value), lk L k = some v ∧ (Instr.findKey kt (kv k) es.toList).run P w = .ok (some (i, v)) w ∧ es[i]? = some e ∧ e.key = kv k ∧ e.val = v ∧ L[i]? = some (k, v) := by
  have hn : (L.map (·.1)).Nodup := MapAt.nodup (w := { (default : World) with heap := #[.map es clock] }) (b := 0) ⟨es, clock, rfl, hs, h⟩
  obtain ⟨lx, hlx⟩ := KK.ko k hk
  have hall : ∀ e ∈ es.toList, ∃ l, keyOf P kt e.key = some l := by
    intro e he
    have : (e.key, e.val) ∈ L.map (fun p => (kv p.1, p.2)) := h ▸ List.mem_map.2 ⟨e, he, rfl⟩
    obtain ⟨p, hp, e1⟩ := List.mem_map.1 this
    rw [← (Prod.mk.inj e1).1]
    exact KK.ko _ (hL p hp)
  rcases KK.law.find w hlx es.toList hall with ⟨h1, h2⟩ | ⟨j, e, h1, h2, h3⟩
  · refine .inl ⟨lk_none.2 fun p hp e => ?_, h1, h2⟩
    have : (kv p.1, p.2) ∈ es.toList.map (fun e => (e.key, e.val)) := h ▸ List.mem_map.2 ⟨p, hp, rfl⟩
    obtain ⟨x, hx, e1⟩ := List.mem_map.1 this
    exact h2 x hx (by rw [(Prod.mk.inj e1).1, e])
  · have ha := ent_at h j
    rw [h2] at ha
    cases hp : L[j]? with
    | none => rw [hp] at ha; cases ha
    | some p =>
      rw [hp] at ha
      simp only [Option.map_some, Option.some.injEq, Prod.mk.injEq] at ha
      have hk1 : p.1 = k := KK.inj _ _ (by rw [← ha.1, h3])
      obtain ⟨p1, p2⟩ := p
      simp only at hk1 ha
      subst hk1
      refine .inr ⟨j, e, p2, mem_lk hn (List.mem_of_getElem? hp), by rw [h1, ha.2], by simpa using h2, h3, ha.2, hp⟩
theorem look_vG (KK : KeyG P t kt et kv ok) (h : MapAt kv w b L) (hL : ∀ p ∈ L, ok p.1) {z : Value} (hz : zeroIs P et z) (k : α) (hk : ok k) :
    smr P (Instr.lookup t (.map (some b)) (kv k) false) K w Q = K ((lk L k).getD z) w Q := by
  obtain ⟨es, clock, h1, h2, h3⟩ := h
  obtain ⟨lx, hlx⟩ := KK.ko k hk
  refine smr_run ?_
  rcases foundG (w := w) KK h2 h3 hL k hk with ⟨e1, e2, _⟩ | ⟨i, e, v, e1, e2, _, _, _, _⟩
  · simp [Instr.lookup, run_underlying KK.hm, Go.MapKept.run_getObj_map h1, KK.law.check w _ hlx, e2, e1, Result.andThen, zero_run hz]
  · simp [Instr.lookup, run_underlying KK.hm, Go.MapKept.run_getObj_map h1, KK.law.check w _ hlx, e2, e1, Result.andThen]
/-- a map of which one entry is at hand -/
def EntryAt {α : Type} (kv : α → Value) (w : World) (b : Nat) (L : List (α × Value)) (k : α) (st : Nat) : Prop :=
  ∃ es clock, w.heap[b]? = some (.map es clock) ∧ Stamped es clock ∧ es.toList.map (fun e => (e.key, e.val)) = L.map (fun p => (kv p.1, p.2)) ∧ ∃ (i : Nat) (e : MapEntry), es[i]? = some e ∧ e.born = st ∧ e.key = kv k
omit [DecidableEq α] in
theorem EntryAt.stay {w' : World} {k : α} {st : Nat} (h : EntryAt kv w b L k st) (hb : w'.heap[b]? = w.heap[b]?) : EntryAt kv w' b L k st := by
  obtain ⟨es, clock, h1, h2⟩ := h
  exact ⟨es, clock, by rw [hb]; exact h1, h2⟩
omit [DecidableEq α] in
theorem EntryAt.lt {k : α} {st : Nat} (h : EntryAt kv w b L k st) : b < w.heap.size := by obtain ⟨es, clock, h1, _⟩ := h; exact blk_lt h1
omit [DecidableEq α] in
theorem EntryAt.map {k : α} {st : Nat} (h : EntryAt kv w b L k st) : MapAt kv w b L := by
  obtain ⟨es, clock, h1, h2, h3, _⟩ := h
  exact ⟨es, clock, h1, h2, h3⟩
def ent (L : List (α × Value)) (k : α) (z : Value) : List (α × Value) := if k ∈ L.map (·.1) then L else L ++ [(k, z)]
theorem put_ent (L : List (α × Value)) (k : α) (z v : Value) : put (ent L k z) k v = put L k v := by
  unfold ent
  split
  · rfl
  · rename_i h
    unfold put
    rw [if_pos (by simp), if_neg h, List.map_append]
    congr 1
    · conv => rhs; rw [← List.map_id L]
      refine List.map_congr_left fun p hp => ?_
      rw [if_neg (fun e => h (by rw [← e]; exact List.mem_map.2 ⟨p, hp, rfl⟩))]; rfl
    · simp
theorem lk_some_mem {k : α} {v : Value} (h : lk L k = some v) : k ∈ L.map (·.1) := List.mem_map.2 ⟨_, lk_mem h, rfl⟩
theorem ent_map (KK : KeyG P t kt et kv ok) (h : MapAt kv w b L) (hL : ∀ p ∈ L, ok p.1) {z : Value} (hz : zeroIs P et z) (k : α) (hk : ok k)
    (kk : ∀ w' st, EntryAt kv w' b (ent L k z) k st → Upd b w w' → K (.tuple #[(lk L k).getD z, .int .i64 (st : Nat)]) w' Q) : sm P (Instr.mapEntry t (.map (some b)) (kv k)) K w Q := by
  obtain ⟨es, clock, h1, h2, h3⟩ := h
  obtain ⟨lx, hlx⟩ := KK.ko k hk
  rcases foundG (w := w) KK h2 h3 hL k hk with ⟨e1, e2, e3⟩ | ⟨i, e, v, e1, e2, e4, e5, e6, e7⟩
  · refine ⟨.tuple #[z, .int .i64 clock], sb w b (.map (es.push { key := kv k, val := z, born := clock }) (clock + 1)), ?_, ?_⟩
    · simp [Instr.mapEntry, run_underlying KK.hm, Go.MapKept.run_getObj_map h1, KK.law.check w _ hlx, e2, Go.MapKept.run_setObj_map _ h1, Result.andThen, sb, zero_run hz, goInt]
    · have hne : ¬ k ∈ L.map (·.1) := by
        intro hm
        obtain ⟨p, hp, rfl⟩ := List.mem_map.1 hm
        exact lk_none.1 e1 p hp rfl
      have hpL : (es.push { key := kv k, val := z, born := clock }).toList.map (fun e => (e.key, e.val)) = (ent L k z).map (fun p => (kv p.1, p.2)) := by
        unfold ent
        rw [if_neg hne]
        simp [h3]
      have := kk (sb w b (.map (es.push { key := kv k, val := z, born := clock }) (clock + 1))) clock ⟨_, _, blk_sb h1, stamped_push h2 e3, hpL, es.size, { key := kv k, val := z, born := clock }, by simp, rfl, rfl⟩ Upd_sb
      rw [e1] at this
      exact this
  · have hmod : es.modify i (fun x => { x with key := kv k }) = es := by
      apply Array.ext_getElem?
      intro j
      rw [Array.getElem?_modify]
      split
      · rename_i c
        subst c
        rw [e4, Option.map_some, ← e5]
      · rfl
    have hst := KK.law.stays w hlx
    refine ⟨.tuple #[v, .int .i64 e.born], sb w b (.map es clock), ?_, ?_⟩
    · have e5' : (es[i]?.map (·.key)).getD (kv k) = kv k := by rw [e4]; simp [e5]
      simp [Instr.mapEntry, run_underlying KK.hm, Go.MapKept.run_getObj_map h1, KK.law.check w _ hlx, e2, e4, e5, hst, hmod, Go.MapKept.run_setObj_map _ h1, Result.andThen, sb, goInt]
    · have hpL : es.toList.map (fun e => (e.key, e.val)) = (ent L k z).map (fun p => (kv p.1, p.2)) := by
        unfold ent
        rw [if_pos (lk_some_mem e1)]
        exact h3
      have := kk (sb w b (.map es clock)) e.born ⟨_, _, blk_sb h1, h2, hpL, i, e, e4, rfl, e5⟩ Upd_sb
      rw [e1] at this
      exact this
theorem sto_map (KK : KeyG P t kt et kv ok) {k : α} {st : Nat} (h : EntryAt kv w b L k st) (v : Value) (kk : ∀ w', MapAt kv w' b (put L k v) → Upd b w w' → K0 w' Q) : smu P (Instr.entryStore t (.map (some b)) (.int .i64 (st : Nat)) v) K0 w Q := by
  have hn := h.map.nodup
  obtain ⟨es, clock, h1, h2, h3, i, e, e4, rfl, e5⟩ := h
  have hi : i < es.size := (Array.getElem?_eq_some_iff.1 e4).1
  have hei : es[i] = e := (Array.getElem?_eq_some_iff.1 e4).2
  have hidx : es.findIdx? (fun x => (x.born : Int) == (e.born : Int)) = some i := by
    rw [Array.findIdx?_eq_some_iff_getElem]
    refine ⟨hi, by rw [hei]; simp, fun j hj => ?_⟩
    have hne : es[j].born ≠ e.born := by
      intro c
      have hb := h2.2.1
      have z1 : (es.toList.map (·.born))[j]? = (es.toList.map (·.born))[i]? := by
        rw [List.getElem?_map, List.getElem?_map, Array.getElem?_toList, Array.getElem?_toList, Array.getElem?_eq_getElem (by omega), e4]
        simp [c]
      have := (List.getElem?_inj (by simp; omega) hb).1 z1
      omega
    simp
    omega
  refine ⟨sb w b (.map (es.modify i fun x => { x with val := v }) clock), ?_, kk _ ⟨_, _, blk_sb h1, ?_, ?_⟩ Upd_sb⟩
  · simp [Instr.entryStore, Go.MapKept.run_getObj_map h1, asInt, asIntOf, hidx, Go.MapKept.run_setObj_map _ h1, Result.andThen, sb]
  · exact stamped_modify h2 _ _ (fun _ _ => rfl) (fun _ _ _ => rfl)
  · have ha := ent_at h3 i
    rw [show es.toList[i]? = some e by simpa using e4] at ha
    cases hp : L[i]? with
    | none => rw [hp] at ha; cases ha
    | some p =>
      rw [hp] at ha
      simp only [Option.map_some, Option.some.injEq, Prod.mk.injEq] at ha
      have hk1 : p.1 = k := KK.inj _ _ (by rw [← ha.1, e5])
      obtain ⟨p1, p2⟩ := p
      simp only at hk1
      subst hk1
      rw [put_at hn hp]
      apply List.ext_getElem?
      intro j
      have hj := ent_at h3 j
      have hlt : i < L.length := (List.getElem?_eq_some_iff.1 hp).1
      simp only [List.getElem?_map, Array.getElem?_toList, Array.getElem?_modify, List.getElem?_set] at hj ⊢
      by_cases hij : i = j
      · subst hij
        simp [e4, hlt, e5]
      · simp only [hij, if_false]
        exact hj
end
end Sh
end Go.Proofs.Ytlmiimojgledpaa
