/- Join: the rows by their column's value. -/
import Derived.Test.YtlmiimojgledpaaR3
set_option linter.unusedVariables false
set_option linter.unusedSimpArgs false
set_option linter.unusedSectionVars false
namespace Go.Proofs.Ytlmiimojgledpaa
open Sh RowKit Go.MapKept
abbrev SV := Option Addr × Nat × Nat
def slV (x : SV) : Value := .slice x.1 x.2.1 x.2.2
def encSl (x : SV) : List Value := [slV x]
theorem encSl_len (x : SV) : (encSl x).length = 1 := rfl
theorem encSl_one (x : SV) : ∀ c ∈ encSl x, c.oneCell' = true := by intro c hc; simp [encSl] at hc; rw [hc]; rfl
def colV (c : Nat) (r : Row) : Val := (r[c]?).getD ⟨0, 0, ⟨#[]⟩⟩
theorem colV_get {c : Nat} {r : Row} (h : c < r.length) : colV c r = r[c] := by unfold colV; rw [List.getElem?_eq_getElem h]; rfl
def Rows (W : World) (sl : List SV) (rs : List Row) : Prop := sl.length = rs.length ∧ ∀ (i : Nat) (x : SV) (r : Row), sl[i]? = some x → rs[i]? = some r → rdR W (slV x) r
section
variable {α : Type} [DecidableEq α]
theorem lk_put {L : List (α × Value)} {k k' : α} {v : Value} : lk (put L k v) k' = if k' = k then some v else lk L k' := by
  unfold put
  split
  · rename_i h
    have gen : ∀ L : List (α × Value), lk (L.map (fun p => if p.1 = k then (k, v) else p)) k' = if k' = k then (if k ∈ L.map (·.1) then some v else none) else lk L k' := by
      intro L
      induction L with
      | nil => simp [lk]
      | cons p L ih =>
        obtain ⟨a, u⟩ := p
        rw [List.map_cons]
        by_cases ha : a = k
        · rw [if_pos ha, lk_cons, lk_cons, ih]
          by_cases hk : k' = k
          · subst hk; simp [ha]
          · have : ¬ k = k' := fun e => hk e.symm
            have h2 : ¬ a = k' := fun e => hk (by rw [← e, ha])
            simp [hk, this, h2]
        · rw [if_neg ha, lk_cons, lk_cons, ih]
          by_cases hk : k' = k
          · subst hk
            have h2 : ¬ k' = a := fun e => ha e.symm
            have h3 : (k' ∈ List.map (fun x => x.1) ((a, u) :: L)) ↔ (k' ∈ List.map (fun x => x.1) L) := by
              rw [List.map_cons, List.mem_cons]
              exact ⟨fun h => h.resolve_left h2, .inr⟩
            rw [if_neg ha, if_pos rfl, if_pos rfl]
            by_cases h4 : k' ∈ List.map (fun x => x.1) L
            · rw [if_pos h4, if_pos (h3.2 h4)]
            · rw [if_neg h4, if_neg (fun e => h4 (h3.1 e))]
          · simp [hk]
    rw [gen, if_pos h]
  · rename_i h
    have gen : ∀ L : List (α × Value), lk (L ++ [(k, v)]) k' = (lk L k').or (if k' = k then some v else none) := by
      intro L
      induction L with
      | nil =>
        rw [List.nil_append, lk_cons]
        by_cases hk : k' = k
        · subst hk; simp [lk]
        · have : ¬ k = k' := fun e => hk e.symm
          simp [lk, hk, this]
      | cons p L ih =>
        obtain ⟨a, u⟩ := p
        rw [List.cons_append, lk_cons, lk_cons, ih]
        split <;> simp
    rw [gen]
    by_cases hk : k' = k
    · subst hk
      have : lk L k' = none := lk_none.2 fun p hp e => h (e ▸ List.mem_map.2 ⟨p, hp, rfl⟩)
      simp [this]
    · simp [hk]
theorem put_mem {L : List (α × Value)} {k : α} {v : Value} {p : α × Value} (h : p ∈ put L k v) : p = (k, v) ∨ p ∈ L := by
  unfold put at h
  split at h
  · obtain ⟨q, hq, e⟩ := List.mem_map.1 h
    split at e
    · exact .inl e.symm
    · exact .inr (e ▸ hq)
  · rcases List.mem_append.1 h with h | h
    · exact .inr h
    · exact .inl (List.mem_singleton.1 h)
end
/-- the rows by a column's value -/
structure BY (W : World) (w : World) (m c : Nat) (bs : List Row) : Prop where
  mB : W.heap.size ≤ m
  ex : ∃ L : List (Val × Value), MapAt valV w m L ∧ (∀ p ∈ L, okV p.1) ∧
    (∀ k v, lk L k = some v → ∃ sl, ownE W.heap.size 33 1 encSl w v sl ∧ Rows W sl (bs.filter fun r => decide (colV c r = k))) ∧
    (∀ k, lk L k = none → (bs.filter fun r => decide (colV c r = k)) = []) ∧
    ∀ k v k' v' g, lk L k = some v → lk L k' = some v' → v.ownBlock = some g → v'.ownBlock = some g → k = k'
section
variable {W w w' : World} {Q : Value → World → Prop}
theorem own_rdL {v : Value} {sl : List SV} {rs : List Row} {B : Nat} (h : ownE B 33 1 encSl w v sl) (hr : Rows W sl rs) (hb : Below W.heap.size W w) : rdL w v rs := by
  rcases ownE_rd encSl_len (by decide) h with ⟨rfl, rfl⟩ | ⟨a, c, rfl, hc, h1⟩
  · exact .inl ⟨rfl, List.length_eq_zero_iff.1 (by rw [← hr.1]; rfl)⟩
  · refine .inr ⟨a, c, by rw [hr.1], by rw [← hr.1]; exact hc, fun i hi => ?_⟩
    have his : i < sl.length := by rw [hr.1]; exact hi
    obtain ⟨es, e1, e2, e3⟩ := h1 i his
    exact ⟨es, e1, e2, slV sl[i], e3, rdR_b hb (hr.2 i sl[i] rs[i] (List.getElem?_eq_getElem his) (List.getElem?_eq_getElem hi))⟩
theorem slV_of {v : Value} {r : Row} (h : rdR w v r) : ∃ x : SV, v = slV x := by
  obtain ⟨p, c, rfl⟩ := rdS_len h
  exact ⟨(p, r.length, c), rfl⟩
theorem okc {r : Row} {W : World} {v : Value} {c : Nat} (h : rdR W v r) (hc : c < r.length) : okV (colV c r) := by rw [colV_get hc]; exact okV_all h _ (List.getElem_mem hc)
/-- one row more -/
theorem by_step {m c : Nat} {bs : List Row} {rv : Value} {r : Row} {K0 : M} (h : BY W w m c bs) (hr : rdR W rv r) (hc : c < r.length) (hb : Below W.heap.size W w) (hl : bs.length ≤ 1000)
    (kk : ∀ w', BY W w' m c (bs ++ [r]) → Below W.heap.size W w' → K0 w' Q) :
    (sm Try.prog (Instr.buildSlice 22 1 #[(0, rv)]) fun t40 =>
    sm Try.prog (Instr.mapEntry 48 (.map (some m)) (.agg (encV (colV c r)).toArray)) fun t41 =>
    ex 0 t41 fun t38 =>
    sm Try.prog (Builtin.append_ #[22, 22] 22 #[t38, t40]) fun t42 =>
    ex 1 t41 fun t43 =>
    smu Try.prog (Instr.entryStore 48 (.map (some m)) t43 t42) K0) w Q := by
  obtain ⟨L, hm, hok, hsome, hnone, hdis⟩ := h.ex
  obtain ⟨x, rfl⟩ := slV_of hr
  have hk := okc hr hc
  generalize hkey : colV c r = key at *
  have hml := hm.lt
  refine bsl1 sl22 rfl rfl ?_
  have b1 := b_psh w (.cells #[slV x] 33)
  have blk := blk_psh_new (w := w) (o := .cells #[slV x] 33)
  have hm1 := hm.below b1
  generalize psh w (.cells #[slV x] 33) = w1 at *
  refine ent_map (kv := valV) KG hm1 hok z22 key hk fun w2 st hent hu2 => ?_
  have b2 : Below W.heap.size W w2 := (hb.trans (b1.mono hb.size)).trans (hu2.below h.mB)
  have hne2 : w.heap.size ≠ m := by omega
  have blk2 : w2.heap[w.heap.size]? = some (.cells #[slV x] 33 (0, 0)) := by rw [hu2.block _ hne2]; exact blk
  have g0 : (#[(lk L key).getD (.slice none 0 0), (.int .i64 (st : Nat) : Value)] : Array Value)[0]? = some ((lk L key).getD (.slice none 0 0)) := rfl
  have g1 : (#[(lk L key).getD (.slice none 0 0), (.int .i64 (st : Nat) : Value)] : Array Value)[1]? = some (.int .i64 (st : Nat)) := rfl
  have keepB : ∀ v sl, ownE W.heap.size 33 1 encSl w v sl → ownE W.heap.size 33 1 encSl w2 v sl := by
    intro v sl ho
    refine ownE_stay (ownE_below ho b1) (fun g hg => hu2.block g (fun e => ?_))
    obtain ⟨_, _, cur, hcur⟩ := ownE_blk (ownE_below ho b1) g hg
    obtain ⟨es, clock, hmm, _⟩ := hm1
    rw [e, hmm] at hcur; cases hcur
  obtain ⟨sl0, ho0, hR0⟩ : ∃ sl, ownE W.heap.size 33 1 encSl w2 ((lk L key).getD (.slice none 0 0)) sl ∧ Rows W sl (bs.filter fun r => decide (colV c r = key)) := by
    cases hlk : lk L key with
    | none => exact ⟨[], ownE_nil, by rw [hnone key hlk]; exact ⟨rfl, fun i x r h => by simp at h⟩⟩
    | some v =>
      obtain ⟨sl, h1, h2⟩ := hsome key v hlk
      exact ⟨sl, keepB v sl h1, h2⟩
  have hsl0 : sl0.length ≤ 1000 := by rw [hR0.1]; exact Nat.le_trans (List.length_filter_le _ _) hl
  generalize hv0 : (lk L key).getD (.slice none 0 0) = v0 at *
  simp only [↓reduceIte, ↓bx_e, ↓al_e, ↓fa_e, ↓ld_e, ↓ad_e, ↓su_e, ↓mu_e, ↓lt_e, ↓le_e, ↓gt_e, ↓ge_e, ↓eqi_e, ↓nei_e, ↓qu_e, ↓re_e, ↓cv_e, ↓nt_e, ↓pk_t, ↓pk_f, ↓pk_e, ↓eqb_e, ↓neb_e, ↓nc_e, ↓ex_e, ↓lnl_e, ↓lns_e, ↓idv_e, ↓cl_e, ↓cnd_e, ↓gd_e, ↓gd_u, ↓gdu_e, ↓rt_e, ↓jn_e, ↓dr_q, ↓kp_e, ↓mnm_e, ↓mxm_e, ↓mif_e, ↓asrt_e, ↓eqs_e, ↓nes_e, Value.cells, add_lit, cell_psh_new, cell_drw, Nat.zero_add, Nat.reduceAdd, get4_0, get4_1, get4_2, get4_3, get3_0, get3_1, get3_2, get2_0, get2_1, get1_0, Option.some.injEq, exists_eq_left', decide_true, decide_false, decide_eq_true_eq, if_true, if_false, Bool.not_true, Bool.not_false, Bool.false_eq_true, Bool.true_eq_false, Bool.not_eq_true', decide_eq_false_iff_not, not_false_eq_true, not_true_eq_false, reduceCtorEq, bx_e, al_e, fa_e, ld_e, ad_e, su_e, mu_e, lt_e, le_e, gt_e, ge_e, eqi_e, nei_e, qu_e, re_e, cv_e, nt_e, pk_t, pk_f, pk_e, eqb_e, neb_e, nc_e, ex_e, lnl_e, lns_e, idv_e, cl_e, cnd_e, gd_e, gd_u, gdu_e, rt_e, jn_e, dr_q, kp_e, mnm_e, mxm_e, mif_e, asrt_e, eqs_e, nes_e, cond_true, cond_false, Bool.true_and, Bool.and_true, Bool.false_and, Bool.and_false, decide_not, g0]
  refine ap_E (m := [x]) sl22 rfl (by decide) encSl_len encSl_one ho0 (rd_lit (x := x) (enc := encSl) (n := 1) rfl blk2) (by simp; unfold maxLen; omega) (by simp; omega) b2.size fun v3 w3 o3 gr hv3 => ?_
  have b3 := b2.grown gr b2.size (fun k hk => (ownE_blk ho0 k hk).1)
  have hm2 : m < w2.heap.size := hent.lt
  have hmv : v0.ownBlock ≠ some m := by
    intro e
    obtain ⟨_, _, cur, hcur⟩ := ownE_blk ho0 m e
    obtain ⟨es, clock, hmm, _⟩ := hent
    rw [hmm] at hcur; cases hcur
  have hent3 := hent.stay (w' := w3) (gr.block m hm2 (fun e => hmv e.symm))
  simp only [↓reduceIte, ↓bx_e, ↓al_e, ↓fa_e, ↓ld_e, ↓ad_e, ↓su_e, ↓mu_e, ↓lt_e, ↓le_e, ↓gt_e, ↓ge_e, ↓eqi_e, ↓nei_e, ↓qu_e, ↓re_e, ↓cv_e, ↓nt_e, ↓pk_t, ↓pk_f, ↓pk_e, ↓eqb_e, ↓neb_e, ↓nc_e, ↓ex_e, ↓lnl_e, ↓lns_e, ↓idv_e, ↓cl_e, ↓cnd_e, ↓gd_e, ↓gd_u, ↓gdu_e, ↓rt_e, ↓jn_e, ↓dr_q, ↓kp_e, ↓mnm_e, ↓mxm_e, ↓mif_e, ↓asrt_e, ↓eqs_e, ↓nes_e, Value.cells, add_lit, cell_psh_new, cell_drw, Nat.zero_add, Nat.reduceAdd, get4_0, get4_1, get4_2, get4_3, get3_0, get3_1, get3_2, get2_0, get2_1, get1_0, Option.some.injEq, exists_eq_left', decide_true, decide_false, decide_eq_true_eq, if_true, if_false, Bool.not_true, Bool.not_false, Bool.false_eq_true, Bool.true_eq_false, Bool.not_eq_true', decide_eq_false_iff_not, not_false_eq_true, not_true_eq_false, reduceCtorEq, bx_e, al_e, fa_e, ld_e, ad_e, su_e, mu_e, lt_e, le_e, gt_e, ge_e, eqi_e, nei_e, qu_e, re_e, cv_e, nt_e, pk_t, pk_f, pk_e, eqb_e, neb_e, nc_e, ex_e, lnl_e, lns_e, idv_e, cl_e, cnd_e, gd_e, gd_u, gdu_e, rt_e, jn_e, dr_q, kp_e, mnm_e, mxm_e, mif_e, asrt_e, eqs_e, nes_e, cond_true, cond_false, Bool.true_and, Bool.and_true, Bool.false_and, Bool.and_false, decide_not, g1]
  refine sto_map KG hent3 v3 fun w4 hm4 hu4 => ?_
  rw [put_ent] at hm4
  have b4 := b3.trans (hu4.below h.mB)
  have keep4 : ∀ v sl, ownE W.heap.size 33 1 encSl w3 v sl → ownE W.heap.size 33 1 encSl w4 v sl := by
    intro v sl ho
    refine ownE_stay ho (fun g hg => hu4.block g (fun e => ?_))
    obtain ⟨_, _, cur, hcur⟩ := ownE_blk ho g hg
    obtain ⟨es, clock, hmm, _⟩ := hent3
    rw [e, hmm] at hcur; cases hcur
  refine kk w4 ⟨h.mB, put L key v3, hm4, ?_, ?_, ?_, ?_⟩ b4
  · intro p hp
    rcases put_mem hp with rfl | hp
    · exact hk
    · exact hok p hp
  · intro k v hlk
    rw [lk_put] at hlk
    have hf : (bs ++ [r]).filter (fun r => decide (colV c r = k)) = bs.filter (fun r => decide (colV c r = k)) ++ (if key = k then [r] else []) := by
      rw [List.filter_append]
      congr 1
      simp [List.filter_cons, hkey]
    by_cases e : k = key
    · subst e
      rw [if_pos rfl] at hlk
      cases hlk
      refine ⟨sl0 ++ [x], keep4 _ _ o3, ?_⟩
      rw [hf, if_pos rfl]
      refine ⟨by simp [hR0.1], fun i y s h1 h2 => ?_⟩
      rw [List.getElem?_append] at h1 h2
      split at h1
      · rename_i hi
        rw [if_pos (by rw [← hR0.1]; exact hi)] at h2
        exact hR0.2 i y s h1 h2
      · rename_i hi
        rw [if_neg (by rw [← hR0.1]; exact hi)] at h2
        have hi0 : i - sl0.length = 0 := by
          rcases Nat.eq_zero_or_pos (i - sl0.length) with c | c
          · exact c
          · rw [List.getElem?_eq_none (by simp; omega)] at h1; cases h1
        rw [hi0] at h1
        rw [← hR0.1, hi0] at h2
        cases h1; cases h2
        exact hr
    · rw [if_neg e] at hlk
      obtain ⟨sl, h1, h2⟩ := hsome k v hlk
      refine ⟨sl, keep4 _ _ (ownE_stay (keepB v sl h1) (fun g hg => gr.block g (ownE_blk (keepB v sl h1) g hg).2.1 (fun e2 => ?_))), ?_⟩
      · have hv0s : lk L key = some v0 := by
          cases hlk2 : lk L key with
          | none =>
            rw [hlk2] at hv0
            rw [← hv0] at e2; cases e2
          | some v' => rw [hlk2] at hv0; rw [← hv0]; rfl
        exact e (hdis k v key v0 g hlk hv0s hg e2.symm)
      · rw [hf, if_neg (fun e2 => e e2.symm), List.append_nil]
        exact h2
  · intro k hlk
    rw [lk_put] at hlk
    by_cases e : k = key
    · rw [if_pos e] at hlk; cases hlk
    · rw [if_neg e] at hlk
      rw [List.filter_append, hnone k hlk, List.nil_append]
      simp [List.filter_cons, hkey]
      exact fun e2 => e e2.symm
  · intro k v k' v' g h1 h2 hg hg'
    have lt2 : ∀ k v, lk L k = some v → ∀ g, v.ownBlock = some g → g < w2.heap.size := by
      intro k v hlk g hg
      obtain ⟨sl, h1, _⟩ := hsome k v hlk
      exact (ownE_blk (keepB v sl h1) g hg).2.1
    have v0s : ∀ g, v0.ownBlock = some g → lk L key = some v0 := by
      intro g hg
      cases hlk2 : lk L key with
      | none => rw [hlk2] at hv0; rw [← hv0] at hg; cases hg
      | some v' => rw [hlk2] at hv0; rw [← hv0]; rfl
    have three : ∀ k v g, lk L k = some v → v.ownBlock = some g → v3.ownBlock = some g → k = key := by
      intro k v g hlk hg h3
      rcases hv3 with e | e
      · rw [e] at h3
        exact hdis k v key v0 g hlk (v0s g h3) hg h3
      · rw [e] at h3
        cases h3
        exact absurd (lt2 k v hlk _ hg) (Nat.lt_irrefl _)
    rw [lk_put] at h1 h2
    by_cases e1 : k = key
    · by_cases e2 : k' = key
      · rw [e1, e2]
      · rw [if_pos e1] at h1; cases h1
        rw [if_neg e2] at h2
        rw [e1]; exact (three k' v' g h2 hg' hg).symm
    · rw [if_neg e1] at h1
      by_cases e2 : k' = key
      · rw [if_pos e2] at h2; cases h2
        rw [e2]; exact three k v g h1 hg hg'
      · rw [if_neg e2] at h2
        exact hdis k v k' v' g h1 h2 hg hg'
end
end Go.Proofs.Ytlmiimojgledpaa
