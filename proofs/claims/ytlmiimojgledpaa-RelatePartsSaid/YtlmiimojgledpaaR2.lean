/- Rows of rows of the call's own; a row cloned; one among some; once. -/
import Derived.Test.YtlmiimojgledpaaR1
set_option linter.unusedVariables false
set_option linter.unusedSimpArgs false
set_option linter.unusedSectionVars false
namespace Go.Proofs.Ytlmiimojgledpaa
open Sh RowKit Go.MapKept
theorem sn_eq {t e : TypeId} {p : Option Addr} {n c : Nat} {x y : Operand} {w : World} (h : Try.prog.underlying t = some (.slice e)) :
    ((do eqGuard .eql t x y (.slice p n c) (.slice none 0 0); binOp .eql t (.slice p n c) (.slice none 0 0) : Sem Value)).run Try.prog w = .ok (.bool p.isNone) w := by
  have h1 : (Op.equalIn 10000 t (.slice p n c) (.slice none 0 0)).run Try.prog w = .ok p.isNone w := by
    have h0 : ∀ d, (Op.equalIn (d + 1) t (.slice p n c) (.slice none 0 0)).run Try.prog w = .ok p.isNone w := by
      intro d
      cases p <;> simp [Op.equalIn, run_underlying h]
    exact h0 9999
  have h2 : (Op.equal t (.slice p n c) (.slice none 0 0)).run Try.prog w = .ok p.isNone w := h1
  simp [eqGuard, binOp, h2]
/-- a row of the call's own -/
def ownR (B : Nat) (w : World) (v : Value) (r : Row) : Prop := ownE B 31 3 encV w v r ∧ ∀ a ∈ r, okV a
/-- a row that stays: of the arguments, or the call's own -/
def RowK (W : World) (w : World) (v : Value) (r : Row) : Prop := rdR W v r ∨ ownR W.heap.size w v r
/-- what a deed may do to others' rows -/
structure Keeps (W w w' : World) : Prop where
  b : Below W.heap.size w w'
  o : ∀ (k : Nat) (cur : Array Value), w.heap[k]? = some (.cells cur 31 (0, 0)) → w'.heap[k]? = some (.cells cur 31 (0, 0))
section
variable {W w w' w2 : World} {Q : Value → World → Prop}
theorem ownR_rd {B : Nat} {v : Value} {r : Row} (h : ownR B w v r) : rdR w v r := by
  rcases ownE_rd encV_len (by decide) h.1 with h1 | ⟨a, c, rfl, hc, h1⟩
  · exact .inl h1
  · refine .inr ⟨a, c, rfl, hc, fun i hi => ?_⟩
    obtain ⟨es, e1, e2, e3⟩ := h1 i hi
    exact ⟨es, e1, e2, e3, h.2 _ (List.getElem_mem hi)⟩
theorem RowK.rd {v : Value} {r : Row} (h : RowK W w v r) (hb : Below W.heap.size W w) : rdR w v r := by
  rcases h with h | h
  · exact rdR_b hb h
  · exact ownR_rd h
theorem Keeps.refl (W w : World) : Keeps W w w := ⟨Below.refl _ _, fun _ _ h => h⟩
theorem Keeps.trans (h : Keeps W w w') (k : Keeps W w' w2) : Keeps W w w2 := ⟨h.b.trans k.b, fun i c hc => k.o i c (h.o i c hc)⟩
theorem Keeps.of_below (h : Below w.heap.size w w') (hW : W.heap.size ≤ w.heap.size) : Keeps W w w' := ⟨h.mono hW, fun k c hc => stay h hc⟩
theorem ownR_keep {v : Value} {r : Row} {B : Nat} (h : ownR B w v r) (hk : Keeps W w w') : ownR B w' v r := by
  refine ⟨ownE_stay h.1 (fun g hg => ?_), h.2⟩
  obtain ⟨_, _, cur, hc⟩ := ownE_blk h.1 g hg
  rw [hk.o g cur hc, hc]
theorem RowK.keep {v : Value} {r : Row} (h : RowK W w v r) (hk : Keeps W w w') : RowK W w' v r := h.imp id (fun h => ownR_keep h hk)
/-- rows of the call's own list -/
def OL (W w : World) (v : Value) (l : List Row) : Prop := ∃ xs : List Value, ownV W.heap.size 33 w v xs ∧ xs.length = l.length ∧ ∀ (i : Nat) (x : Value) (r : Row), xs[i]? = some x → l[i]? = some r → RowK W w x r
theorem OL_nil : OL W w (.slice none 0 0) [] := ⟨[], ownV_nil, rfl, fun i x r h => by simp at h⟩
theorem OL.rd {v : Value} {l : List Row} (h : OL W w v l) (hb : Below W.heap.size W w) : rdL w v l := by
  obtain ⟨xs, ho, hl, hr⟩ := h
  rcases ownV_cases ho with ⟨rfl, rfl⟩ | ⟨g, cap, cur, rfl, hg, hblk, hn, hm, hs, ht⟩
  · exact .inl ⟨rfl, List.length_eq_zero_iff.1 (by simpa using hl.symm)⟩
  · refine .inr ⟨⟨g, 0, none⟩, cap, by rw [hl], by omega, fun i hi => ?_⟩
    have hix : i < xs.length := by omega
    refine ⟨[xs[i]], rfl, fun j u hj => ?_, xs[i], rfl, (hr i xs[i] l[i] (List.getElem?_eq_getElem hix) (List.getElem?_eq_getElem hi)).rd hb⟩
    have : j = 0 := by
      rcases Nat.eq_zero_or_pos j with c | c
      · exact c
      · rw [List.getElem?_eq_none (by simp; omega)] at hj; cases hj
    subst this
    rw [add_zero', add_lit, Nat.zero_add, Nat.mul_one, cell_of_blk hblk]
    have h1 : (cur.toList.take xs.length)[i]? = xs[i]? := by rw [ht]
    rw [List.getElem?_take_of_lt hix] at h1
    rw [← Array.getElem?_toList, h1, List.getElem?_eq_getElem hix]
    simpa using hj
theorem OL.keep {v : Value} {l : List Row} (h : OL W w v l) (hb : Below w.heap.size w w') (hW : W.heap.size ≤ w.heap.size) : OL W w' v l := by
  obtain ⟨xs, ho, hl, hr⟩ := h
  exact ⟨xs, ownV_below ho hb, hl, fun i x r h1 h2 => (hr i x r h1 h2).keep (Keeps.of_below hb hW)⟩
/-- one more -/
theorem ap_L {v x : Value} {l : List Row} {r : Row} {K : Value → M} (h : OL W w v l) (hx : RowK W w x r) (hxs : ∃ p n c, x = .slice p n c) (hb : Below W.heap.size W w) (hl : l.length + 1 ≤ 1000000) (kk : ∀ v' w', OL W w' v' (l ++ [r]) → Keeps W w w' → K v' w' Q) :
    sm Try.prog (Instr.buildSlice 22 1 #[(0, x)]) (fun u => sm Try.prog (Builtin.append_ #[22, 22] 22 #[v, u]) K) w Q := by
  obtain ⟨xs, ho, hlx, hr⟩ := h
  obtain ⟨p, n, c, rfl⟩ := hxs
  refine ap_V (x := .slice p n c) sl22 rfl rfl rfl ho (by unfold maxLen; omega) (by omega) hb.size fun v' w' ho' hf hsz hos hown => ?_
  have hk : Keeps W w w' := by
    refine ⟨⟨hos.1, hos.2.1, hos.2.2, hsz, fun k hk => hf k (Nat.lt_of_lt_of_le hk hb.size) (fun e => by have := (ownV_lt ho k e).1; omega)⟩, fun k cur hc => ?_⟩
    rw [hf k (blk_lt hc) (fun e => ?_)]
    · exact hc
    · obtain ⟨_, _, cur', hc'⟩ := ownV_lt ho k e
      rw [hc] at hc'; cases hc'
  refine kk v' w' ⟨xs ++ [.slice p n c], ho', by simp [hlx], fun i x' r' h1 h2 => ?_⟩ hk
  rw [List.getElem?_append] at h1 h2
  split at h1
  · rename_i hi
    rw [if_pos (by omega)] at h2
    exact (hr i x' r' h1 h2).keep hk
  · rename_i hi
    rw [if_neg (by omega)] at h2
    have hi0 : i - xs.length = 0 := by
      rcases Nat.eq_zero_or_pos (i - xs.length) with c | c
      · exact c
      · rw [List.getElem?_eq_none (by simp; omega)] at h1; cases h1
    rw [hi0] at h1
    rw [← hlx, hi0] at h2
    cases h1; cases h2
    exact hx.keep hk
theorem rd_eR {v : Value} {r : Row} (h : rdR w v r) : rdS 3 (eR encV) w v r := rdS_mono (fun _ _ h => h.1) h
theorem ownE_lenv {B : Nat} {v : Value} {r : Row} (h : ownR B w v r) : ∃ p n c, v = .slice p n c := by
  rcases rdS_len (ownR_rd h) with ⟨p, c, rfl⟩
  exact ⟨_, _, _, rfl⟩
/-- a row cloned -/
theorem f30_s {v : Value} {r : Row} (h : rdR w v r) (hsz : r.length * 32 ≤ 140737488355328) (kk : ∀ w' u, ownR w.heap.size w' u r → Below w.heap.size w w' → Q u w') : f30 v w Q := by
  unfold f30
  obtain ⟨p, c, hv⟩ := rdS_len h
  refine Eq.mpr (smr_run (by rw [hv]; exact sn_eq Try.underlying33)) ?_
  cases p with
  | none =>
    have hr0 : r = [] := by
      rcases h with ⟨_, h⟩ | ⟨a, c', e, _⟩
      · exact h
      · rw [hv] at e; cases e
    subst hr0
    simp only [↓bx_e, ↓al_e, ↓fa_e, ↓ld_e, ↓ad_e, ↓su_e, ↓mu_e, ↓lt_e, ↓le_e, ↓gt_e, ↓ge_e, ↓eqi_e, ↓nei_e, ↓qu_e, ↓re_e, ↓cv_e, ↓nt_e, ↓pk_t, ↓pk_f, ↓pk_e, ↓eqb_e, ↓neb_e, ↓nc_e, ↓ex_e, ↓lnl_e, ↓lns_e, ↓idv_e, ↓cl_e, ↓cnd_e, ↓gd_e, ↓gd_u, ↓gdu_e, ↓rt_e, ↓jn_e, ↓dr_q, ↓kp_e, ↓mnm_e, ↓mxm_e, ↓mif_e, ↓asrt_e, ↓eqs_e, ↓nes_e, Value.cells, add_lit, cell_psh_new, cell_drw, Nat.zero_add, Nat.reduceAdd, get4_0, get4_1, get4_2, get4_3, get3_0, get3_1, get3_2, get2_0, get2_1, get1_0, Option.some.injEq, exists_eq_left', decide_true, decide_false, decide_eq_true_eq, if_true, if_false, Bool.not_true, Bool.not_false, Bool.false_eq_true, Bool.true_eq_false, Bool.not_eq_true', decide_eq_false_iff_not, not_false_eq_true, not_true_eq_false, reduceCtorEq, bx_e, al_e, fa_e, ld_e, ad_e, su_e, mu_e, lt_e, le_e, gt_e, ge_e, eqi_e, nei_e, qu_e, re_e, cv_e, nt_e, pk_t, pk_f, pk_e, eqb_e, neb_e, nc_e, ex_e, lnl_e, lns_e, idv_e, cl_e, cnd_e, gd_e, gd_u, gdu_e, rt_e, jn_e, dr_q, kp_e, mnm_e, mxm_e, mif_e, asrt_e, eqs_e, nes_e, cond_true, cond_false, Bool.true_and, Bool.and_true, Bool.false_and, Bool.and_false, decide_not, Option.isNone]
    exact kk w _ ⟨ownE_nil, by simp⟩ (Below.refl _ w)
  | some a =>
    simp only [↓bx_e, ↓al_e, ↓fa_e, ↓ld_e, ↓ad_e, ↓su_e, ↓mu_e, ↓lt_e, ↓le_e, ↓gt_e, ↓ge_e, ↓eqi_e, ↓nei_e, ↓qu_e, ↓re_e, ↓cv_e, ↓nt_e, ↓pk_t, ↓pk_f, ↓pk_e, ↓eqb_e, ↓neb_e, ↓nc_e, ↓ex_e, ↓lnl_e, ↓lns_e, ↓idv_e, ↓cl_e, ↓cnd_e, ↓gd_e, ↓gd_u, ↓gdu_e, ↓rt_e, ↓jn_e, ↓dr_q, ↓kp_e, ↓mnm_e, ↓mxm_e, ↓mif_e, ↓asrt_e, ↓eqs_e, ↓nes_e, Value.cells, add_lit, cell_psh_new, cell_drw, Nat.zero_add, Nat.reduceAdd, get4_0, get4_1, get4_2, get4_3, get3_0, get3_1, get3_2, get2_0, get2_1, get1_0, Option.some.injEq, exists_eq_left', decide_true, decide_false, decide_eq_true_eq, if_true, if_false, Bool.not_true, Bool.not_false, Bool.false_eq_true, Bool.true_eq_false, Bool.not_eq_true', decide_eq_false_iff_not, not_false_eq_true, not_true_eq_false, reduceCtorEq, bx_e, al_e, fa_e, ld_e, ad_e, su_e, mu_e, lt_e, le_e, gt_e, ge_e, eqi_e, nei_e, qu_e, re_e, cv_e, nt_e, pk_t, pk_f, pk_e, eqb_e, neb_e, nc_e, ex_e, lnl_e, lns_e, idv_e, cl_e, cnd_e, gd_e, gd_u, gdu_e, rt_e, jn_e, dr_q, kp_e, mnm_e, mxm_e, mif_e, asrt_e, eqs_e, nes_e, cond_true, cond_false, Bool.true_and, Bool.and_true, Bool.false_and, Bool.and_false, decide_not, Option.isNone]
    have hb1 : (Instr.buildSlice 33 0 #[]).run Try.prog w = .ok (.slice (some ⟨w.heap.size, 0, none⟩) 0 0) (psh w (.cells #[] 31)) := by
      obtain ⟨i, h1, h2, h3, h4, h5⟩ := slT_info sl33
      simp only [Instr.buildSlice, underlying, Sem.run_bind, run_program, Result.andThen_ok, h1, Sem.run_pure, sizeOf, typeInfo, h2, h4, zeroValue, h3]
      have e0 : Array.map (fun (_ : Nat) => (default : Value)) (Array.range 0) = #[] := by apply Array.eq_empty_of_size_eq_zero; simp
      simp [Instr.fill, newRow, newObj, psh, Sem.run, e0]
      try rw [e0]
      try rfl
    refine ⟨_, _, hb1, ?_⟩
    have b1 := b_psh w (.cells #[] 31)
    have o1 : ownE w.heap.size 31 3 encV (psh w (.cells #[] 31)) (.slice (some ⟨w.heap.size, 0, none⟩) 0 0) ([] : Row) := ⟨by simp, .inr ⟨w.heap.size, 0, #[], rfl, Nat.le_refl _, blk_psh_new, Nat.le_refl _, by unfold maxLen; omega, by simp, by simp⟩⟩
    refine ap_E (m := r) sl33 rfl (by decide) encV_len encV_one o1 (rd_eR (rdR_b b1 h)) (by unfold maxLen; simp; omega) (by simpa using hsz) b1.size fun v2 w2 o2 g2 _ => ?_
    simp only [↓bx_e, ↓al_e, ↓fa_e, ↓ld_e, ↓ad_e, ↓su_e, ↓mu_e, ↓lt_e, ↓le_e, ↓gt_e, ↓ge_e, ↓eqi_e, ↓nei_e, ↓qu_e, ↓re_e, ↓cv_e, ↓nt_e, ↓pk_t, ↓pk_f, ↓pk_e, ↓eqb_e, ↓neb_e, ↓nc_e, ↓ex_e, ↓lnl_e, ↓lns_e, ↓idv_e, ↓cl_e, ↓cnd_e, ↓gd_e, ↓gd_u, ↓gdu_e, ↓rt_e, ↓jn_e, ↓dr_q, ↓kp_e, ↓mnm_e, ↓mxm_e, ↓mif_e, ↓asrt_e, ↓eqs_e, ↓nes_e, Value.cells, add_lit, cell_psh_new, cell_drw, Nat.zero_add, Nat.reduceAdd, get4_0, get4_1, get4_2, get4_3, get3_0, get3_1, get3_2, get2_0, get2_1, get1_0, Option.some.injEq, exists_eq_left', decide_true, decide_false, decide_eq_true_eq, if_true, if_false, Bool.not_true, Bool.not_false, Bool.false_eq_true, Bool.true_eq_false, Bool.not_eq_true', decide_eq_false_iff_not, not_false_eq_true, not_true_eq_false, reduceCtorEq, bx_e, al_e, fa_e, ld_e, ad_e, su_e, mu_e, lt_e, le_e, gt_e, ge_e, eqi_e, nei_e, qu_e, re_e, cv_e, nt_e, pk_t, pk_f, pk_e, eqb_e, neb_e, nc_e, ex_e, lnl_e, lns_e, idv_e, cl_e, cnd_e, gd_e, gd_u, gdu_e, rt_e, jn_e, dr_q, kp_e, mnm_e, mxm_e, mif_e, asrt_e, eqs_e, nes_e, cond_true, cond_false, Bool.true_and, Bool.and_true, Bool.false_and, Bool.and_false, decide_not]
    rw [List.nil_append] at o2
    exact kk w2 v2 ⟨o2, okV_all h⟩ (b1.grown g2 b1.size (fun k hk => (ownE_blk o1 k hk).1))
/-- whether a row is one of some -/
theorem f29_s {v x : Value} {l : List Row} {r : Row} (h : rdL w v l) (hx : rdR w x r) (hl : l.length ≤ 9223372036854775806) (hr : r.length ≤ 9223372036854775806) (kk : ∀ w', Below w.heap.size w w' → Q (.bool (l.any fun s => decide (r = s))) w') : f29 v x w Q := by
  unfold f29
  obtain ⟨p, c, hv⟩ := rdS_len hx
  have hb1 := b_psh w (.cells x.cells 33)
  have blk := blk_psh_new (w := w) (o := .cells x.cells 33)
  rw [bx_e]
  generalize psh w (.cells x.cells 33) = w1 at *
  try simp only [↓bx_e, ↓al_e, ↓fa_e, ↓ld_e, ↓ad_e, ↓su_e, ↓mu_e, ↓lt_e, ↓le_e, ↓gt_e, ↓ge_e, ↓eqi_e, ↓nei_e, ↓qu_e, ↓re_e, ↓cv_e, ↓nt_e, ↓pk_t, ↓pk_f, ↓pk_e, ↓eqb_e, ↓neb_e, ↓nc_e, ↓ex_e, ↓lnl_e, ↓lns_e, ↓idv_e, ↓cl_e, ↓cnd_e, ↓gd_e, ↓gd_u, ↓gdu_e, ↓rt_e, ↓jn_e, ↓dr_q, ↓kp_e, ↓mnm_e, ↓mxm_e, ↓mif_e, ↓asrt_e, ↓eqs_e, ↓nes_e, Value.cells, add_lit, cell_psh_new, cell_drw, Nat.zero_add, Nat.reduceAdd, get4_0, get4_1, get4_2, get4_3, get3_0, get3_1, get3_2, get2_0, get2_1, get1_0, Option.some.injEq, exists_eq_left', decide_true, decide_false, decide_eq_true_eq, if_true, if_false, Bool.not_true, Bool.not_false, Bool.false_eq_true, Bool.true_eq_false, Bool.not_eq_true', decide_eq_false_iff_not, not_false_eq_true, not_true_eq_false, reduceCtorEq, bx_e, al_e, fa_e, ld_e, ad_e, su_e, mu_e, lt_e, le_e, gt_e, ge_e, eqi_e, nei_e, qu_e, re_e, cv_e, nt_e, pk_t, pk_f, pk_e, eqb_e, neb_e, nc_e, ex_e, lnl_e, lns_e, idv_e, cl_e, cnd_e, gd_e, gd_u, gdu_e, rt_e, jn_e, dr_q, kp_e, mnm_e, mxm_e, mif_e, asrt_e, eqs_e, nes_e, cond_true, cond_false, Bool.true_and, Bool.and_true, Bool.false_and, Bool.and_false, decide_not]
  refine f43_s (rdL_b hb1 h) (pr := fun s => decide (r = s)) ?_ hl fun w2 hb2 => ?_
  · intro rv s w2 K Q hb hs k
    refine cf_p en46 ?_
    refine s46 rv (.pointer (some ⟨w.heap.size, 0, none⟩)) w2 _ ?_
    unfold f46
    have hc : w2.cell? ⟨w.heap.size, 0, none⟩ = some x := by rw [cell_of_blk (stay hb blk), hv]; rfl
    simp only [↓bx_e, ↓al_e, ↓fa_e, ↓ld_e, ↓ad_e, ↓su_e, ↓mu_e, ↓lt_e, ↓le_e, ↓gt_e, ↓ge_e, ↓eqi_e, ↓nei_e, ↓qu_e, ↓re_e, ↓cv_e, ↓nt_e, ↓pk_t, ↓pk_f, ↓pk_e, ↓eqb_e, ↓neb_e, ↓nc_e, ↓ex_e, ↓lnl_e, ↓lns_e, ↓idv_e, ↓cl_e, ↓cnd_e, ↓gd_e, ↓gd_u, ↓gdu_e, ↓rt_e, ↓jn_e, ↓dr_q, ↓kp_e, ↓mnm_e, ↓mxm_e, ↓mif_e, ↓asrt_e, ↓eqs_e, ↓nes_e, Value.cells, add_lit, cell_psh_new, cell_drw, Nat.zero_add, Nat.reduceAdd, get4_0, get4_1, get4_2, get4_3, get3_0, get3_1, get3_2, get2_0, get2_1, get1_0, Option.some.injEq, exists_eq_left', decide_true, decide_false, decide_eq_true_eq, if_true, if_false, Bool.not_true, Bool.not_false, Bool.false_eq_true, Bool.true_eq_false, Bool.not_eq_true', decide_eq_false_iff_not, not_false_eq_true, not_true_eq_false, reduceCtorEq, bx_e, al_e, fa_e, ld_e, ad_e, su_e, mu_e, lt_e, le_e, gt_e, ge_e, eqi_e, nei_e, qu_e, re_e, cv_e, nt_e, pk_t, pk_f, pk_e, eqb_e, neb_e, nc_e, ex_e, lnl_e, lns_e, idv_e, cl_e, cnd_e, gd_e, gd_u, gdu_e, rt_e, jn_e, dr_q, kp_e, mnm_e, mxm_e, mif_e, asrt_e, eqs_e, nes_e, cond_true, cond_false, Bool.true_and, Bool.and_true, Bool.false_and, Bool.and_false, decide_not, hc]
    refine f47_s (rdR_b (bt hb1 hb) hx) hs hr fun w3 hb3 => ?_
    try simp only [↓bx_e, ↓al_e, ↓fa_e, ↓ld_e, ↓ad_e, ↓su_e, ↓mu_e, ↓lt_e, ↓le_e, ↓gt_e, ↓ge_e, ↓eqi_e, ↓nei_e, ↓qu_e, ↓re_e, ↓cv_e, ↓nt_e, ↓pk_t, ↓pk_f, ↓pk_e, ↓eqb_e, ↓neb_e, ↓nc_e, ↓ex_e, ↓lnl_e, ↓lns_e, ↓idv_e, ↓cl_e, ↓cnd_e, ↓gd_e, ↓gd_u, ↓gdu_e, ↓rt_e, ↓jn_e, ↓dr_q, ↓kp_e, ↓mnm_e, ↓mxm_e, ↓mif_e, ↓asrt_e, ↓eqs_e, ↓nes_e, Value.cells, add_lit, cell_psh_new, cell_drw, Nat.zero_add, Nat.reduceAdd, get4_0, get4_1, get4_2, get4_3, get3_0, get3_1, get3_2, get2_0, get2_1, get1_0, Option.some.injEq, exists_eq_left', decide_true, decide_false, decide_eq_true_eq, if_true, if_false, Bool.not_true, Bool.not_false, Bool.false_eq_true, Bool.true_eq_false, Bool.not_eq_true', decide_eq_false_iff_not, not_false_eq_true, not_true_eq_false, reduceCtorEq, bx_e, al_e, fa_e, ld_e, ad_e, su_e, mu_e, lt_e, le_e, gt_e, ge_e, eqi_e, nei_e, qu_e, re_e, cv_e, nt_e, pk_t, pk_f, pk_e, eqb_e, neb_e, nc_e, ex_e, lnl_e, lns_e, idv_e, cl_e, cnd_e, gd_e, gd_u, gdu_e, rt_e, jn_e, dr_q, kp_e, mnm_e, mxm_e, mif_e, asrt_e, eqs_e, nes_e, cond_true, cond_false, Bool.true_and, Bool.and_true, Bool.false_and, Bool.and_false, decide_not]
    exact k w3 hb3
  · try simp only [↓bx_e, ↓al_e, ↓fa_e, ↓ld_e, ↓ad_e, ↓su_e, ↓mu_e, ↓lt_e, ↓le_e, ↓gt_e, ↓ge_e, ↓eqi_e, ↓nei_e, ↓qu_e, ↓re_e, ↓cv_e, ↓nt_e, ↓pk_t, ↓pk_f, ↓pk_e, ↓eqb_e, ↓neb_e, ↓nc_e, ↓ex_e, ↓lnl_e, ↓lns_e, ↓idv_e, ↓cl_e, ↓cnd_e, ↓gd_e, ↓gd_u, ↓gdu_e, ↓rt_e, ↓jn_e, ↓dr_q, ↓kp_e, ↓mnm_e, ↓mxm_e, ↓mif_e, ↓asrt_e, ↓eqs_e, ↓nes_e, Value.cells, add_lit, cell_psh_new, cell_drw, Nat.zero_add, Nat.reduceAdd, get4_0, get4_1, get4_2, get4_3, get3_0, get3_1, get3_2, get2_0, get2_1, get1_0, Option.some.injEq, exists_eq_left', decide_true, decide_false, decide_eq_true_eq, if_true, if_false, Bool.not_true, Bool.not_false, Bool.false_eq_true, Bool.true_eq_false, Bool.not_eq_true', decide_eq_false_iff_not, not_false_eq_true, not_true_eq_false, reduceCtorEq, bx_e, al_e, fa_e, ld_e, ad_e, su_e, mu_e, lt_e, le_e, gt_e, ge_e, eqi_e, nei_e, qu_e, re_e, cv_e, nt_e, pk_t, pk_f, pk_e, eqb_e, neb_e, nc_e, ex_e, lnl_e, lns_e, idv_e, cl_e, cnd_e, gd_e, gd_u, gdu_e, rt_e, jn_e, dr_q, kp_e, mnm_e, mxm_e, mif_e, asrt_e, eqs_e, nes_e, cond_true, cond_false, Bool.true_and, Bool.and_true, Bool.false_and, Bool.and_false, decide_not]
    exact kk w2 (bt hb1 hb2)
/-- each once -/
def once : List Row → List Row → List Row
  | out, [] => out
  | out, r :: l => once (if out.any (fun s => decide (r = s)) then out else out ++ [r]) l
theorem once_len : ∀ (l out : List Row), (once out l).length ≤ out.length + l.length
  | [], out => by simp [once]
  | r :: l, out => by
    unfold once
    have := once_len l (if out.any (fun s => decide (r = s)) then out else out ++ [r])
    split at this
    · rename_i c; rw [if_pos c]; simp; omega
    · rename_i c; rw [if_neg c]; simp at this ⊢; omega
theorem f14_loop {v : Value} {l : List Row} (h : rdL W v l) (hl : l.length ≤ 100000) (hsz : ∀ r ∈ l, r.length * 32 ≤ 140737488355328) : ∀ (d m i : Nat) (w : World) (u : Value) (out : List Row), i + d = l.length → d < m → Below W.heap.size W w → OL W w u out → out.length ≤ i →
    (∀ w' u', Below W.heap.size W w' → OL W w' u' (once out (l.drop i)) → Q u' w') →
    itr (fun _ _ _ _ => bot) (f14_b2 f14_j1) m u v (.int .i64 (l.length : Nat)) (.int .i64 (i : Int)) w Q := by
  intro d
  induction d with
  | zero =>
    intro m i w u out hi hm hb ho hoi kk
    obtain ⟨m, rfl⟩ : ∃ x, m = x + 1 := ⟨m - 1, by omega⟩
    show f14_b2 f14_j1 _ _ _ _ _ w Q
    unfold f14_b2
    have c : ¬ (i : Int) < (l.length : Nat) := by omega
    simp only [↓bx_e, ↓al_e, ↓fa_e, ↓ld_e, ↓ad_e, ↓su_e, ↓mu_e, ↓lt_e, ↓le_e, ↓gt_e, ↓ge_e, ↓eqi_e, ↓nei_e, ↓qu_e, ↓re_e, ↓cv_e, ↓nt_e, ↓pk_t, ↓pk_f, ↓pk_e, ↓eqb_e, ↓neb_e, ↓nc_e, ↓ex_e, ↓lnl_e, ↓lns_e, ↓idv_e, ↓cl_e, ↓cnd_e, ↓gd_e, ↓gd_u, ↓gdu_e, ↓rt_e, ↓jn_e, ↓dr_q, ↓kp_e, ↓mnm_e, ↓mxm_e, ↓mif_e, ↓asrt_e, ↓eqs_e, ↓nes_e, Value.cells, add_lit, cell_psh_new, cell_drw, Nat.zero_add, Nat.reduceAdd, get4_0, get4_1, get4_2, get4_3, get3_0, get3_1, get3_2, get2_0, get2_1, get1_0, Option.some.injEq, exists_eq_left', decide_true, decide_false, decide_eq_true_eq, if_true, if_false, Bool.not_true, Bool.not_false, Bool.false_eq_true, Bool.true_eq_false, Bool.not_eq_true', decide_eq_false_iff_not, not_false_eq_true, not_true_eq_false, reduceCtorEq, bx_e, al_e, fa_e, ld_e, ad_e, su_e, mu_e, lt_e, le_e, gt_e, ge_e, eqi_e, nei_e, qu_e, re_e, cv_e, nt_e, pk_t, pk_f, pk_e, eqb_e, neb_e, nc_e, ex_e, lnl_e, lns_e, idv_e, cl_e, cnd_e, gd_e, gd_u, gdu_e, rt_e, jn_e, dr_q, kp_e, mnm_e, mxm_e, mif_e, asrt_e, eqs_e, nes_e, cond_true, cond_false, Bool.true_and, Bool.and_true, Bool.false_and, Bool.and_false, decide_not, c]
    unfold f14_j1
    simp only [↓bx_e, ↓al_e, ↓fa_e, ↓ld_e, ↓ad_e, ↓su_e, ↓mu_e, ↓lt_e, ↓le_e, ↓gt_e, ↓ge_e, ↓eqi_e, ↓nei_e, ↓qu_e, ↓re_e, ↓cv_e, ↓nt_e, ↓pk_t, ↓pk_f, ↓pk_e, ↓eqb_e, ↓neb_e, ↓nc_e, ↓ex_e, ↓lnl_e, ↓lns_e, ↓idv_e, ↓cl_e, ↓cnd_e, ↓gd_e, ↓gd_u, ↓gdu_e, ↓rt_e, ↓jn_e, ↓dr_q, ↓kp_e, ↓mnm_e, ↓mxm_e, ↓mif_e, ↓asrt_e, ↓eqs_e, ↓nes_e, Value.cells, add_lit, cell_psh_new, cell_drw, Nat.zero_add, Nat.reduceAdd, get4_0, get4_1, get4_2, get4_3, get3_0, get3_1, get3_2, get2_0, get2_1, get1_0, Option.some.injEq, exists_eq_left', decide_true, decide_false, decide_eq_true_eq, if_true, if_false, Bool.not_true, Bool.not_false, Bool.false_eq_true, Bool.true_eq_false, Bool.not_eq_true', decide_eq_false_iff_not, not_false_eq_true, not_true_eq_false, reduceCtorEq, bx_e, al_e, fa_e, ld_e, ad_e, su_e, mu_e, lt_e, le_e, gt_e, ge_e, eqi_e, nei_e, qu_e, re_e, cv_e, nt_e, pk_t, pk_f, pk_e, eqb_e, neb_e, nc_e, ex_e, lnl_e, lns_e, idv_e, cl_e, cnd_e, gd_e, gd_u, gdu_e, rt_e, jn_e, dr_q, kp_e, mnm_e, mxm_e, mif_e, asrt_e, eqs_e, nes_e, cond_true, cond_false, Bool.true_and, Bool.and_true, Bool.false_and, Bool.and_false, decide_not]
    refine kk w u hb ?_
    rw [List.drop_of_length_le (by omega)]
    exact ho
  | succ d ih =>
    intro m i w u out hi hm hb ho hoi kk
    obtain ⟨m, rfl⟩ : ∃ x, m = x + 1 := ⟨m - 1, by omega⟩
    show f14_b2 f14_j1 _ _ _ _ _ w Q
    unfold f14_b2
    have c : (i : Int) < (l.length : Nat) := by omega
    have hil : i < l.length := by omega
    obtain ⟨ad, rv, hr, hc, hia⟩ := row_at h hil
    have cw := hc w hb
    have hrl := hsz l[i] (List.getElem_mem hil)
    have h3 : IntKind.i64.wrap ((i : Int) + 1) = ((i + 1 : Nat) : Int) := by rw [w64 (by omega) (by omega)]; rfl
    have hdrop : l.drop i = l[i] :: l.drop (i + 1) := List.drop_eq_getElem_cons hil
    simp only [↓bx_e, ↓al_e, ↓fa_e, ↓ld_e, ↓ad_e, ↓su_e, ↓mu_e, ↓lt_e, ↓le_e, ↓gt_e, ↓ge_e, ↓eqi_e, ↓nei_e, ↓qu_e, ↓re_e, ↓cv_e, ↓nt_e, ↓pk_t, ↓pk_f, ↓pk_e, ↓eqb_e, ↓neb_e, ↓nc_e, ↓ex_e, ↓lnl_e, ↓lns_e, ↓idv_e, ↓cl_e, ↓cnd_e, ↓gd_e, ↓gd_u, ↓gdu_e, ↓rt_e, ↓jn_e, ↓dr_q, ↓kp_e, ↓mnm_e, ↓mxm_e, ↓mif_e, ↓asrt_e, ↓eqs_e, ↓nes_e, Value.cells, add_lit, cell_psh_new, cell_drw, Nat.zero_add, Nat.reduceAdd, get4_0, get4_1, get4_2, get4_3, get3_0, get3_1, get3_2, get2_0, get2_1, get1_0, Option.some.injEq, exists_eq_left', decide_true, decide_false, decide_eq_true_eq, if_true, if_false, Bool.not_true, Bool.not_false, Bool.false_eq_true, Bool.true_eq_false, Bool.not_eq_true', decide_eq_false_iff_not, not_false_eq_true, not_true_eq_false, reduceCtorEq, bx_e, al_e, fa_e, ld_e, ad_e, su_e, mu_e, lt_e, le_e, gt_e, ge_e, eqi_e, nei_e, qu_e, re_e, cv_e, nt_e, pk_t, pk_f, pk_e, eqb_e, neb_e, nc_e, ex_e, lnl_e, lns_e, idv_e, cl_e, cnd_e, gd_e, gd_u, gdu_e, rt_e, jn_e, dr_q, kp_e, mnm_e, mxm_e, mif_e, asrt_e, eqs_e, nes_e, cond_true, cond_false, Bool.true_and, Bool.and_true, Bool.false_and, Bool.and_false, decide_not, c, hia, cw]
    refine f29_s (ho.rd hb) (rdR_b hb hr) (by omega) (by omega) fun w1 hb1 => ?_
    have b1 := bt hb hb1
    have o1 := ho.keep hb1 hb.size
    by_cases ha : (out.any fun s => decide (l[i] = s)) = true
    · simp only [↓bx_e, ↓al_e, ↓fa_e, ↓ld_e, ↓ad_e, ↓su_e, ↓mu_e, ↓lt_e, ↓le_e, ↓gt_e, ↓ge_e, ↓eqi_e, ↓nei_e, ↓qu_e, ↓re_e, ↓cv_e, ↓nt_e, ↓pk_t, ↓pk_f, ↓pk_e, ↓eqb_e, ↓neb_e, ↓nc_e, ↓ex_e, ↓lnl_e, ↓lns_e, ↓idv_e, ↓cl_e, ↓cnd_e, ↓gd_e, ↓gd_u, ↓gdu_e, ↓rt_e, ↓jn_e, ↓dr_q, ↓kp_e, ↓mnm_e, ↓mxm_e, ↓mif_e, ↓asrt_e, ↓eqs_e, ↓nes_e, Value.cells, add_lit, cell_psh_new, cell_drw, Nat.zero_add, Nat.reduceAdd, get4_0, get4_1, get4_2, get4_3, get3_0, get3_1, get3_2, get2_0, get2_1, get1_0, Option.some.injEq, exists_eq_left', decide_true, decide_false, decide_eq_true_eq, if_true, if_false, Bool.not_true, Bool.not_false, Bool.false_eq_true, Bool.true_eq_false, Bool.not_eq_true', decide_eq_false_iff_not, not_false_eq_true, not_true_eq_false, reduceCtorEq, bx_e, al_e, fa_e, ld_e, ad_e, su_e, mu_e, lt_e, le_e, gt_e, ge_e, eqi_e, nei_e, qu_e, re_e, cv_e, nt_e, pk_t, pk_f, pk_e, eqb_e, neb_e, nc_e, ex_e, lnl_e, lns_e, idv_e, cl_e, cnd_e, gd_e, gd_u, gdu_e, rt_e, jn_e, dr_q, kp_e, mnm_e, mxm_e, mif_e, asrt_e, eqs_e, nes_e, cond_true, cond_false, Bool.true_and, Bool.and_true, Bool.false_and, Bool.and_false, decide_not, ha]
      unfold f14_j3
      simp only [↓bx_e, ↓al_e, ↓fa_e, ↓ld_e, ↓ad_e, ↓su_e, ↓mu_e, ↓lt_e, ↓le_e, ↓gt_e, ↓ge_e, ↓eqi_e, ↓nei_e, ↓qu_e, ↓re_e, ↓cv_e, ↓nt_e, ↓pk_t, ↓pk_f, ↓pk_e, ↓eqb_e, ↓neb_e, ↓nc_e, ↓ex_e, ↓lnl_e, ↓lns_e, ↓idv_e, ↓cl_e, ↓cnd_e, ↓gd_e, ↓gd_u, ↓gdu_e, ↓rt_e, ↓jn_e, ↓dr_q, ↓kp_e, ↓mnm_e, ↓mxm_e, ↓mif_e, ↓asrt_e, ↓eqs_e, ↓nes_e, Value.cells, add_lit, cell_psh_new, cell_drw, Nat.zero_add, Nat.reduceAdd, get4_0, get4_1, get4_2, get4_3, get3_0, get3_1, get3_2, get2_0, get2_1, get1_0, Option.some.injEq, exists_eq_left', decide_true, decide_false, decide_eq_true_eq, if_true, if_false, Bool.not_true, Bool.not_false, Bool.false_eq_true, Bool.true_eq_false, Bool.not_eq_true', decide_eq_false_iff_not, not_false_eq_true, not_true_eq_false, reduceCtorEq, bx_e, al_e, fa_e, ld_e, ad_e, su_e, mu_e, lt_e, le_e, gt_e, ge_e, eqi_e, nei_e, qu_e, re_e, cv_e, nt_e, pk_t, pk_f, pk_e, eqb_e, neb_e, nc_e, ex_e, lnl_e, lns_e, idv_e, cl_e, cnd_e, gd_e, gd_u, gdu_e, rt_e, jn_e, dr_q, kp_e, mnm_e, mxm_e, mif_e, asrt_e, eqs_e, nes_e, cond_true, cond_false, Bool.true_and, Bool.and_true, Bool.false_and, Bool.and_false, decide_not, h3]
      refine ih m (i + 1) w1 u out (by omega) (by omega) b1 o1 (by omega) fun w' u' hb' ho' => kk w' u' hb' ?_
      rw [hdrop]; unfold once; rw [if_pos ha]; exact ho'
    · have haf : (out.any fun s => decide (l[i] = s)) = false := Bool.eq_false_iff.2 ha
      simp only [↓bx_e, ↓al_e, ↓fa_e, ↓ld_e, ↓ad_e, ↓su_e, ↓mu_e, ↓lt_e, ↓le_e, ↓gt_e, ↓ge_e, ↓eqi_e, ↓nei_e, ↓qu_e, ↓re_e, ↓cv_e, ↓nt_e, ↓pk_t, ↓pk_f, ↓pk_e, ↓eqb_e, ↓neb_e, ↓nc_e, ↓ex_e, ↓lnl_e, ↓lns_e, ↓idv_e, ↓cl_e, ↓cnd_e, ↓gd_e, ↓gd_u, ↓gdu_e, ↓rt_e, ↓jn_e, ↓dr_q, ↓kp_e, ↓mnm_e, ↓mxm_e, ↓mif_e, ↓asrt_e, ↓eqs_e, ↓nes_e, Value.cells, add_lit, cell_psh_new, cell_drw, Nat.zero_add, Nat.reduceAdd, get4_0, get4_1, get4_2, get4_3, get3_0, get3_1, get3_2, get2_0, get2_1, get1_0, Option.some.injEq, exists_eq_left', decide_true, decide_false, decide_eq_true_eq, if_true, if_false, Bool.not_true, Bool.not_false, Bool.false_eq_true, Bool.true_eq_false, Bool.not_eq_true', decide_eq_false_iff_not, not_false_eq_true, not_true_eq_false, reduceCtorEq, bx_e, al_e, fa_e, ld_e, ad_e, su_e, mu_e, lt_e, le_e, gt_e, ge_e, eqi_e, nei_e, qu_e, re_e, cv_e, nt_e, pk_t, pk_f, pk_e, eqb_e, neb_e, nc_e, ex_e, lnl_e, lns_e, idv_e, cl_e, cnd_e, gd_e, gd_u, gdu_e, rt_e, jn_e, dr_q, kp_e, mnm_e, mxm_e, mif_e, asrt_e, eqs_e, nes_e, cond_true, cond_false, Bool.true_and, Bool.and_true, Bool.false_and, Bool.and_false, decide_not, haf]
      refine f30_s (rdR_b b1 hr) hrl fun w2 x hx hb2 => ?_
      have b2 := bt b1 hb2
      have o2 := o1.keep hb2 b1.size
      try simp only [↓bx_e, ↓al_e, ↓fa_e, ↓ld_e, ↓ad_e, ↓su_e, ↓mu_e, ↓lt_e, ↓le_e, ↓gt_e, ↓ge_e, ↓eqi_e, ↓nei_e, ↓qu_e, ↓re_e, ↓cv_e, ↓nt_e, ↓pk_t, ↓pk_f, ↓pk_e, ↓eqb_e, ↓neb_e, ↓nc_e, ↓ex_e, ↓lnl_e, ↓lns_e, ↓idv_e, ↓cl_e, ↓cnd_e, ↓gd_e, ↓gd_u, ↓gdu_e, ↓rt_e, ↓jn_e, ↓dr_q, ↓kp_e, ↓mnm_e, ↓mxm_e, ↓mif_e, ↓asrt_e, ↓eqs_e, ↓nes_e, Value.cells, add_lit, cell_psh_new, cell_drw, Nat.zero_add, Nat.reduceAdd, get4_0, get4_1, get4_2, get4_3, get3_0, get3_1, get3_2, get2_0, get2_1, get1_0, Option.some.injEq, exists_eq_left', decide_true, decide_false, decide_eq_true_eq, if_true, if_false, Bool.not_true, Bool.not_false, Bool.false_eq_true, Bool.true_eq_false, Bool.not_eq_true', decide_eq_false_iff_not, not_false_eq_true, not_true_eq_false, reduceCtorEq, bx_e, al_e, fa_e, ld_e, ad_e, su_e, mu_e, lt_e, le_e, gt_e, ge_e, eqi_e, nei_e, qu_e, re_e, cv_e, nt_e, pk_t, pk_f, pk_e, eqb_e, neb_e, nc_e, ex_e, lnl_e, lns_e, idv_e, cl_e, cnd_e, gd_e, gd_u, gdu_e, rt_e, jn_e, dr_q, kp_e, mnm_e, mxm_e, mif_e, asrt_e, eqs_e, nes_e, cond_true, cond_false, Bool.true_and, Bool.and_true, Bool.false_and, Bool.and_false, decide_not]
      refine ap_L o2 (r := l[i]) (.inr ⟨ownE_weak hx.1 b1.size, hx.2⟩) (ownE_lenv hx) b2 (by omega) fun u' w3 o3 k3 => ?_
      unfold f14_j3
      simp only [↓bx_e, ↓al_e, ↓fa_e, ↓ld_e, ↓ad_e, ↓su_e, ↓mu_e, ↓lt_e, ↓le_e, ↓gt_e, ↓ge_e, ↓eqi_e, ↓nei_e, ↓qu_e, ↓re_e, ↓cv_e, ↓nt_e, ↓pk_t, ↓pk_f, ↓pk_e, ↓eqb_e, ↓neb_e, ↓nc_e, ↓ex_e, ↓lnl_e, ↓lns_e, ↓idv_e, ↓cl_e, ↓cnd_e, ↓gd_e, ↓gd_u, ↓gdu_e, ↓rt_e, ↓jn_e, ↓dr_q, ↓kp_e, ↓mnm_e, ↓mxm_e, ↓mif_e, ↓asrt_e, ↓eqs_e, ↓nes_e, Value.cells, add_lit, cell_psh_new, cell_drw, Nat.zero_add, Nat.reduceAdd, get4_0, get4_1, get4_2, get4_3, get3_0, get3_1, get3_2, get2_0, get2_1, get1_0, Option.some.injEq, exists_eq_left', decide_true, decide_false, decide_eq_true_eq, if_true, if_false, Bool.not_true, Bool.not_false, Bool.false_eq_true, Bool.true_eq_false, Bool.not_eq_true', decide_eq_false_iff_not, not_false_eq_true, not_true_eq_false, reduceCtorEq, bx_e, al_e, fa_e, ld_e, ad_e, su_e, mu_e, lt_e, le_e, gt_e, ge_e, eqi_e, nei_e, qu_e, re_e, cv_e, nt_e, pk_t, pk_f, pk_e, eqb_e, neb_e, nc_e, ex_e, lnl_e, lns_e, idv_e, cl_e, cnd_e, gd_e, gd_u, gdu_e, rt_e, jn_e, dr_q, kp_e, mnm_e, mxm_e, mif_e, asrt_e, eqs_e, nes_e, cond_true, cond_false, Bool.true_and, Bool.and_true, Bool.false_and, Bool.and_false, decide_not, h3]
      refine ih m (i + 1) w3 u' (out ++ [l[i]]) (by omega) (by omega) (b2.trans k3.b) o3 (by simp; omega) fun w' u' hb' ho' => kk w' u' hb' ?_
      rw [hdrop]; unfold once; rw [if_neg ha]; exact ho'
theorem f14_s {v : Value} {l : List Row} (h : rdL w v l) (hl : l.length ≤ 100000) (hsz : ∀ r ∈ l, r.length * 32 ≤ 140737488355328) (kk : ∀ w' u', Below w.heap.size w w' → OL w w' u' (once [] l) → Q u' w') : f14 v w Q := by
  unfold f14
  simp only [↓bx_e, ↓al_e, ↓fa_e, ↓ld_e, ↓ad_e, ↓su_e, ↓mu_e, ↓lt_e, ↓le_e, ↓gt_e, ↓ge_e, ↓eqi_e, ↓nei_e, ↓qu_e, ↓re_e, ↓cv_e, ↓nt_e, ↓pk_t, ↓pk_f, ↓pk_e, ↓eqb_e, ↓neb_e, ↓nc_e, ↓ex_e, ↓lnl_e, ↓lns_e, ↓idv_e, ↓cl_e, ↓cnd_e, ↓gd_e, ↓gd_u, ↓gdu_e, ↓rt_e, ↓jn_e, ↓dr_q, ↓kp_e, ↓mnm_e, ↓mxm_e, ↓mif_e, ↓asrt_e, ↓eqs_e, ↓nes_e, Value.cells, add_lit, cell_psh_new, cell_drw, Nat.zero_add, Nat.reduceAdd, get4_0, get4_1, get4_2, get4_3, get3_0, get3_1, get3_2, get2_0, get2_1, get1_0, Option.some.injEq, exists_eq_left', decide_true, decide_false, decide_eq_true_eq, if_true, if_false, Bool.not_true, Bool.not_false, Bool.false_eq_true, Bool.true_eq_false, Bool.not_eq_true', decide_eq_false_iff_not, not_false_eq_true, not_true_eq_false, reduceCtorEq, bx_e, al_e, fa_e, ld_e, ad_e, su_e, mu_e, lt_e, le_e, gt_e, ge_e, eqi_e, nei_e, qu_e, re_e, cv_e, nt_e, pk_t, pk_f, pk_e, eqb_e, neb_e, nc_e, ex_e, lnl_e, lns_e, idv_e, cl_e, cnd_e, gd_e, gd_u, gdu_e, rt_e, jn_e, dr_q, kp_e, mnm_e, mxm_e, mif_e, asrt_e, eqs_e, nes_e, cond_true, cond_false, Bool.true_and, Bool.and_true, Bool.false_and, Bool.and_false, decide_not, lnl_L h]
  exact ⟨_, f14_loop (W := w) h hl hsz l.length (l.length + 1) 0 w _ [] (by omega) (by omega) (Below.refl _ _) OL_nil (by simp) fun w' u' hb ho => kk w' u' hb (by simpa using ho)⟩
end
end Go.Proofs.Ytlmiimojgledpaa
