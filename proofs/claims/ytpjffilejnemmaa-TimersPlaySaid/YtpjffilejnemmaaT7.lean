/- Lists of numbers held against each other; that the layer lives; TimersNil. -/
import Derived.Test.YtpjffilejnemmaaT6
set_option linter.unusedVariables false
set_option linter.unusedSimpArgs false
set_option linter.unusedSectionVars false
namespace Go.Proofs.Ytpjffilejnemmaa
open Sh RowKit Go.MapKept

theorem same_loop (j1 : M) {Q : Value → World → Prop} {w0 : World} {v1 v2 : Value} {l1 l2 : List Int} (h1 : rdI .i64 w0 v1 l1) (h2 : rdI .i64 w0 v2 l2) (hl : l1.length = l2.length) (h64 : l1.length ≤ 4611686018427387904) : ∀ (d m i : Nat) (w : World), i + d = l1.length → d < m → w.heap = w0.heap → Below w0.heap.size w0 w → l1.take i = l2.take i →
    (∀ w', w'.heap = w0.heap → Below w0.heap.size w0 w' → l1 ≠ l2 → Q (.bool false) w') → (∀ w', w'.heap = w0.heap → Below w0.heap.size w0 w' → l1 = l2 → j1 w' Q) →
    itr (fun _ _ _ => bot) (f18_b2 j1) m v1 v2 (.int .i64 (i : Int)) w Q := by
  intro d
  induction d with
  | zero =>
    intro m i w hi hm hw hb ht k0 k1
    obtain ⟨m, rfl⟩ : ∃ x, m = x + 1 := ⟨m - 1, by omega⟩
    show f18_b2 j1 _ _ _ _ w Q
    unfold f18_b2
    refine lnl_rd h1 ?_
    have : ¬ (i : Int) < l1.length := by omega
    simp only [↓bx_e, ↓al_e, ↓fa_e, ↓ld_e, ↓ad_e, ↓su_e, ↓mu_e, ↓lt_e, ↓le_e, ↓gt_e, ↓ge_e, ↓eqi_e, ↓nei_e, ↓qu_e, ↓re_e, ↓cv_e, ↓nt_e, ↓pk_t, ↓pk_f, ↓pk_e, ↓eqb_e, ↓neb_e, ↓nc_e, ↓ex_e, ↓lnl_e, ↓lns_e, ↓idv_e, ↓cl_e, ↓cnd_e, ↓gd_e, ↓gd_u, ↓gdu_e, ↓rt_e, ↓jn_e, ↓dr_q, ↓kp_e, ↓mnm_e, ↓mxm_e, ↓mif_e, ↓asrt_e, ↓eqs_e, ↓nes_e, Value.cells, add_lit, cell_psh_new, cell_drw, Nat.zero_add, Nat.reduceAdd, get4_0, get4_1, get4_2, get4_3, get3_0, get3_1, get3_2, get2_0, get2_1, get1_0, Option.some.injEq, exists_eq_left', decide_true, decide_false, decide_eq_true_eq, if_true, if_false, Bool.not_true, Bool.not_false, Bool.false_eq_true, Bool.true_eq_false, Bool.not_eq_true', decide_eq_false_iff_not, not_false_eq_true, not_true_eq_false, reduceCtorEq, bx_e, al_e, fa_e, ld_e, ad_e, su_e, mu_e, lt_e, le_e, gt_e, ge_e, eqi_e, nei_e, qu_e, re_e, cv_e, nt_e, pk_t, pk_f, pk_e, eqb_e, neb_e, nc_e, ex_e, lnl_e, lns_e, idv_e, cl_e, cnd_e, gd_e, gd_u, gdu_e, rt_e, jn_e, dr_q, kp_e, mnm_e, mxm_e, mif_e, asrt_e, eqs_e, nes_e, cond_true, cond_false, Bool.true_and, Bool.and_true, Bool.false_and, Bool.and_false, decide_not, this]
    refine k1 w hw hb ?_
    rw [List.take_of_length_le (by omega), List.take_of_length_le (by omega)] at ht
    exact ht
  | succ d ih =>
    intro m i w hi hm hw hb ht k0 k1
    obtain ⟨m, rfl⟩ : ∃ x, m = x + 1 := ⟨m - 1, by omega⟩
    show f18_b2 j1 _ _ _ _ w Q
    unfold f18_b2
    refine lnl_rd h1 ?_
    have hlt : (i : Int) < l1.length := by omega
    have hi1 : i < l1.length := by omega
    have hi2 : i < l2.length := by omega
    have hb' : Below w0.heap.size w0 (drw w) := Below_drw hb
    have g1 := rdI_below hb' h1
    have g2 := rdI_below hb' h2
    simp only [↓bx_e, ↓al_e, ↓fa_e, ↓ld_e, ↓ad_e, ↓su_e, ↓mu_e, ↓lt_e, ↓le_e, ↓gt_e, ↓ge_e, ↓eqi_e, ↓nei_e, ↓qu_e, ↓re_e, ↓cv_e, ↓nt_e, ↓pk_t, ↓pk_f, ↓pk_e, ↓eqb_e, ↓neb_e, ↓nc_e, ↓ex_e, ↓lnl_e, ↓lns_e, ↓idv_e, ↓cl_e, ↓cnd_e, ↓gd_e, ↓gd_u, ↓gdu_e, ↓rt_e, ↓jn_e, ↓dr_q, ↓kp_e, ↓mnm_e, ↓mxm_e, ↓mif_e, ↓asrt_e, ↓eqs_e, ↓nes_e, Value.cells, add_lit, cell_psh_new, cell_drw, Nat.zero_add, Nat.reduceAdd, get4_0, get4_1, get4_2, get4_3, get3_0, get3_1, get3_2, get2_0, get2_1, get1_0, Option.some.injEq, exists_eq_left', decide_true, decide_false, decide_eq_true_eq, if_true, if_false, Bool.not_true, Bool.not_false, Bool.false_eq_true, Bool.true_eq_false, Bool.not_eq_true', decide_eq_false_iff_not, not_false_eq_true, not_true_eq_false, reduceCtorEq, bx_e, al_e, fa_e, ld_e, ad_e, su_e, mu_e, lt_e, le_e, gt_e, ge_e, eqi_e, nei_e, qu_e, re_e, cv_e, nt_e, pk_t, pk_f, pk_e, eqb_e, neb_e, nc_e, ex_e, lnl_e, lns_e, idv_e, cl_e, cnd_e, gd_e, gd_u, gdu_e, rt_e, jn_e, dr_q, kp_e, mnm_e, mxm_e, mif_e, asrt_e, eqs_e, nes_e, cond_true, cond_false, Bool.true_and, Bool.and_true, Bool.false_and, Bool.and_false, decide_not, hlt]
    refine ia_ld g1 (by omega) hlt fun hh1 => ?_
    try simp only [↓bx_e, ↓al_e, ↓fa_e, ↓ld_e, ↓ad_e, ↓su_e, ↓mu_e, ↓lt_e, ↓le_e, ↓gt_e, ↓ge_e, ↓eqi_e, ↓nei_e, ↓qu_e, ↓re_e, ↓cv_e, ↓nt_e, ↓pk_t, ↓pk_f, ↓pk_e, ↓eqb_e, ↓neb_e, ↓nc_e, ↓ex_e, ↓lnl_e, ↓lns_e, ↓idv_e, ↓cl_e, ↓cnd_e, ↓gd_e, ↓gd_u, ↓gdu_e, ↓rt_e, ↓jn_e, ↓dr_q, ↓kp_e, ↓mnm_e, ↓mxm_e, ↓mif_e, ↓asrt_e, ↓eqs_e, ↓nes_e, Value.cells, add_lit, cell_psh_new, cell_drw, Nat.zero_add, Nat.reduceAdd, get4_0, get4_1, get4_2, get4_3, get3_0, get3_1, get3_2, get2_0, get2_1, get1_0, Option.some.injEq, exists_eq_left', decide_true, decide_false, decide_eq_true_eq, if_true, if_false, Bool.not_true, Bool.not_false, Bool.false_eq_true, Bool.true_eq_false, Bool.not_eq_true', decide_eq_false_iff_not, not_false_eq_true, not_true_eq_false, reduceCtorEq, bx_e, al_e, fa_e, ld_e, ad_e, su_e, mu_e, lt_e, le_e, gt_e, ge_e, eqi_e, nei_e, qu_e, re_e, cv_e, nt_e, pk_t, pk_f, pk_e, eqb_e, neb_e, nc_e, ex_e, lnl_e, lns_e, idv_e, cl_e, cnd_e, gd_e, gd_u, gdu_e, rt_e, jn_e, dr_q, kp_e, mnm_e, mxm_e, mif_e, asrt_e, eqs_e, nes_e, cond_true, cond_false, Bool.true_and, Bool.and_true, Bool.false_and, Bool.and_false, decide_not]
    refine ia_ld g2 (by omega) (by omega) fun hh2 => ?_
    have e0 : (i : Int).toNat = i := rfl
    by_cases c : l1[i] = l2[i]
    · have h3 : IntKind.i64.wrap ((i : Int) + 1) = ((i + 1 : Nat) : Int) := by rw [w64 (by omega) (by omega)]; rfl
      simp only [↓bx_e, ↓al_e, ↓fa_e, ↓ld_e, ↓ad_e, ↓su_e, ↓mu_e, ↓lt_e, ↓le_e, ↓gt_e, ↓ge_e, ↓eqi_e, ↓nei_e, ↓qu_e, ↓re_e, ↓cv_e, ↓nt_e, ↓pk_t, ↓pk_f, ↓pk_e, ↓eqb_e, ↓neb_e, ↓nc_e, ↓ex_e, ↓lnl_e, ↓lns_e, ↓idv_e, ↓cl_e, ↓cnd_e, ↓gd_e, ↓gd_u, ↓gdu_e, ↓rt_e, ↓jn_e, ↓dr_q, ↓kp_e, ↓mnm_e, ↓mxm_e, ↓mif_e, ↓asrt_e, ↓eqs_e, ↓nes_e, Value.cells, add_lit, cell_psh_new, cell_drw, Nat.zero_add, Nat.reduceAdd, get4_0, get4_1, get4_2, get4_3, get3_0, get3_1, get3_2, get2_0, get2_1, get1_0, Option.some.injEq, exists_eq_left', decide_true, decide_false, decide_eq_true_eq, if_true, if_false, Bool.not_true, Bool.not_false, Bool.false_eq_true, Bool.true_eq_false, Bool.not_eq_true', decide_eq_false_iff_not, not_false_eq_true, not_true_eq_false, reduceCtorEq, bx_e, al_e, fa_e, ld_e, ad_e, su_e, mu_e, lt_e, le_e, gt_e, ge_e, eqi_e, nei_e, qu_e, re_e, cv_e, nt_e, pk_t, pk_f, pk_e, eqb_e, neb_e, nc_e, ex_e, lnl_e, lns_e, idv_e, cl_e, cnd_e, gd_e, gd_u, gdu_e, rt_e, jn_e, dr_q, kp_e, mnm_e, mxm_e, mif_e, asrt_e, eqs_e, nes_e, cond_true, cond_false, Bool.true_and, Bool.and_true, Bool.false_and, Bool.and_false, decide_not, e0, c, ne_eq, not_true_eq_false, h3]
      refine ih m (i + 1) (drw w) (by omega) (by omega) hw hb' ?_ k0 k1
      rw [List.take_succ_eq_append_getElem hi1, List.take_succ_eq_append_getElem hi2, ht, c]
    · simp only [↓bx_e, ↓al_e, ↓fa_e, ↓ld_e, ↓ad_e, ↓su_e, ↓mu_e, ↓lt_e, ↓le_e, ↓gt_e, ↓ge_e, ↓eqi_e, ↓nei_e, ↓qu_e, ↓re_e, ↓cv_e, ↓nt_e, ↓pk_t, ↓pk_f, ↓pk_e, ↓eqb_e, ↓neb_e, ↓nc_e, ↓ex_e, ↓lnl_e, ↓lns_e, ↓idv_e, ↓cl_e, ↓cnd_e, ↓gd_e, ↓gd_u, ↓gdu_e, ↓rt_e, ↓jn_e, ↓dr_q, ↓kp_e, ↓mnm_e, ↓mxm_e, ↓mif_e, ↓asrt_e, ↓eqs_e, ↓nes_e, Value.cells, add_lit, cell_psh_new, cell_drw, Nat.zero_add, Nat.reduceAdd, get4_0, get4_1, get4_2, get4_3, get3_0, get3_1, get3_2, get2_0, get2_1, get1_0, Option.some.injEq, exists_eq_left', decide_true, decide_false, decide_eq_true_eq, if_true, if_false, Bool.not_true, Bool.not_false, Bool.false_eq_true, Bool.true_eq_false, Bool.not_eq_true', decide_eq_false_iff_not, not_false_eq_true, not_true_eq_false, reduceCtorEq, bx_e, al_e, fa_e, ld_e, ad_e, su_e, mu_e, lt_e, le_e, gt_e, ge_e, eqi_e, nei_e, qu_e, re_e, cv_e, nt_e, pk_t, pk_f, pk_e, eqb_e, neb_e, nc_e, ex_e, lnl_e, lns_e, idv_e, cl_e, cnd_e, gd_e, gd_u, gdu_e, rt_e, jn_e, dr_q, kp_e, mnm_e, mxm_e, mif_e, asrt_e, eqs_e, nes_e, cond_true, cond_false, Bool.true_and, Bool.and_true, Bool.false_and, Bool.and_false, decide_not, e0, c, ne_eq, not_false_eq_true]
      exact k0 (drw w) hw hb' (fun e => c (by subst e; rfl))
theorem same_s {w : World} {v1 v2 : Value} {l1 l2 : List Int} (h1 : rdI .i64 w v1 l1) (h2 : rdI .i64 w v2 l2) (h64 : l1.length ≤ 4611686018427387904) (Q : Value → World → Prop)
    (h : ∀ w', w'.heap = w.heap → Below w.heap.size w w' → Q (.bool (decide (l1 = l2))) w') : f18 v1 v2 w Q := by
  unfold f18
  refine lnl_rd h1 ?_
  refine lnl_rd h2 ?_
  by_cases c : l1.length = l2.length
  · have c' : ((l1.length : Nat) : Int) = ((l2.length : Nat) : Int) := by omega
    simp only [↓bx_e, ↓al_e, ↓fa_e, ↓ld_e, ↓ad_e, ↓su_e, ↓mu_e, ↓lt_e, ↓le_e, ↓gt_e, ↓ge_e, ↓eqi_e, ↓nei_e, ↓qu_e, ↓re_e, ↓cv_e, ↓nt_e, ↓pk_t, ↓pk_f, ↓pk_e, ↓eqb_e, ↓neb_e, ↓nc_e, ↓ex_e, ↓lnl_e, ↓lns_e, ↓idv_e, ↓cl_e, ↓cnd_e, ↓gd_e, ↓gd_u, ↓gdu_e, ↓rt_e, ↓jn_e, ↓dr_q, ↓kp_e, ↓mnm_e, ↓mxm_e, ↓mif_e, ↓asrt_e, ↓eqs_e, ↓nes_e, Value.cells, add_lit, cell_psh_new, cell_drw, Nat.zero_add, Nat.reduceAdd, get4_0, get4_1, get4_2, get4_3, get3_0, get3_1, get3_2, get2_0, get2_1, get1_0, Option.some.injEq, exists_eq_left', decide_true, decide_false, decide_eq_true_eq, if_true, if_false, Bool.not_true, Bool.not_false, Bool.false_eq_true, Bool.true_eq_false, Bool.not_eq_true', decide_eq_false_iff_not, not_false_eq_true, not_true_eq_false, reduceCtorEq, bx_e, al_e, fa_e, ld_e, ad_e, su_e, mu_e, lt_e, le_e, gt_e, ge_e, eqi_e, nei_e, qu_e, re_e, cv_e, nt_e, pk_t, pk_f, pk_e, eqb_e, neb_e, nc_e, ex_e, lnl_e, lns_e, idv_e, cl_e, cnd_e, gd_e, gd_u, gdu_e, rt_e, jn_e, dr_q, kp_e, mnm_e, mxm_e, mif_e, asrt_e, eqs_e, nes_e, cond_true, cond_false, Bool.true_and, Bool.and_true, Bool.false_and, Bool.and_false, decide_not, c', ne_eq, not_true_eq_false]
    refine ⟨_, same_loop _ h1 h2 c h64 l1.length _ 0 w (Nat.zero_add _) (Nat.lt_succ_self _) rfl (Below.refl _ _) (by simp) ?_ ?_⟩
    · intro w' a b e
      have := h w' a b
      rw [decide_eq_false e] at this
      exact this
    · intro w' a b e
      unfold f18_j1
      rw [rt_e]
      have := h w' a b
      rw [decide_eq_true e] at this
      exact this
  · have c' : ¬ ((l1.length : Nat) : Int) = ((l2.length : Nat) : Int) := by omega
    simp only [↓bx_e, ↓al_e, ↓fa_e, ↓ld_e, ↓ad_e, ↓su_e, ↓mu_e, ↓lt_e, ↓le_e, ↓gt_e, ↓ge_e, ↓eqi_e, ↓nei_e, ↓qu_e, ↓re_e, ↓cv_e, ↓nt_e, ↓pk_t, ↓pk_f, ↓pk_e, ↓eqb_e, ↓neb_e, ↓nc_e, ↓ex_e, ↓lnl_e, ↓lns_e, ↓idv_e, ↓cl_e, ↓cnd_e, ↓gd_e, ↓gd_u, ↓gdu_e, ↓rt_e, ↓jn_e, ↓dr_q, ↓kp_e, ↓mnm_e, ↓mxm_e, ↓mif_e, ↓asrt_e, ↓eqs_e, ↓nes_e, Value.cells, add_lit, cell_psh_new, cell_drw, Nat.zero_add, Nat.reduceAdd, get4_0, get4_1, get4_2, get4_3, get3_0, get3_1, get3_2, get2_0, get2_1, get1_0, Option.some.injEq, exists_eq_left', decide_true, decide_false, decide_eq_true_eq, if_true, if_false, Bool.not_true, Bool.not_false, Bool.false_eq_true, Bool.true_eq_false, Bool.not_eq_true', decide_eq_false_iff_not, not_false_eq_true, not_true_eq_false, reduceCtorEq, bx_e, al_e, fa_e, ld_e, ad_e, su_e, mu_e, lt_e, le_e, gt_e, ge_e, eqi_e, nei_e, qu_e, re_e, cv_e, nt_e, pk_t, pk_f, pk_e, eqb_e, neb_e, nc_e, ex_e, lnl_e, lns_e, idv_e, cl_e, cnd_e, gd_e, gd_u, gdu_e, rt_e, jn_e, dr_q, kp_e, mnm_e, mxm_e, mif_e, asrt_e, eqs_e, nes_e, cond_true, cond_false, Bool.true_and, Bool.and_true, Bool.false_and, Bool.and_false, decide_not, c', ne_eq, not_false_eq_true]
    have := h w rfl (Below.refl _ _)
    rw [decide_eq_false (fun e => c (by rw [e]))] at this
    exact this
theorem rd_one {w : World} {x : Int} {t : TypeId} : rdI .i64 (psh w (.cells #[.int .i64 x] t)) (.slice (some ⟨w.heap.size, 0, none⟩) 1 1) [x] :=
  ⟨_, 1, rfl, fun i hi => ⟨_, rfl, by
    have : i = 0 := by simpa using hi
    subst this
    rw [add_lit, cell_psh_new]; rfl⟩⟩
theorem f7_s (w : World) (Q : Value → World → Prop) (h : ∀ w', Below w.heap.size w w' → Q (.bool true) w') : f7 w Q := by
  unfold f7
  rw [cl_e]
  refine new_s (B := w.heap.size) (Nat.le_refl _) fun p w1 F1 h1 f1 b1 => ?_
  rw [show pv p = .pointer (some ⟨p, 0, none⟩) from rfl, pn_eq u25]
  simp only [↓bx_e, ↓al_e, ↓fa_e, ↓ld_e, ↓ad_e, ↓su_e, ↓mu_e, ↓lt_e, ↓le_e, ↓gt_e, ↓ge_e, ↓eqi_e, ↓nei_e, ↓qu_e, ↓re_e, ↓cv_e, ↓nt_e, ↓pk_t, ↓pk_f, ↓pk_e, ↓eqb_e, ↓neb_e, ↓nc_e, ↓ex_e, ↓lnl_e, ↓lns_e, ↓idv_e, ↓cl_e, ↓cnd_e, ↓gd_e, ↓gd_u, ↓gdu_e, ↓rt_e, ↓jn_e, ↓dr_q, ↓kp_e, ↓mnm_e, ↓mxm_e, ↓mif_e, ↓asrt_e, ↓eqs_e, ↓nes_e, Value.cells, add_lit, cell_psh_new, cell_drw, Nat.zero_add, Nat.reduceAdd, get4_0, get4_1, get4_2, get4_3, get3_0, get3_1, get3_2, get2_0, get2_1, get1_0, Option.some.injEq, exists_eq_left', decide_true, decide_false, decide_eq_true_eq, if_true, if_false, Bool.not_true, Bool.not_false, Bool.false_eq_true, Bool.true_eq_false, Bool.not_eq_true', decide_eq_false_iff_not, not_false_eq_true, not_true_eq_false, reduceCtorEq, bx_e, al_e, fa_e, ld_e, ad_e, su_e, mu_e, lt_e, le_e, gt_e, ge_e, eqi_e, nei_e, qu_e, re_e, cv_e, nt_e, pk_t, pk_f, pk_e, eqb_e, neb_e, nc_e, ex_e, lnl_e, lns_e, idv_e, cl_e, cnd_e, gd_e, gd_u, gdu_e, rt_e, jn_e, dr_q, kp_e, mnm_e, mxm_e, mif_e, asrt_e, eqs_e, nes_e, cond_true, cond_false, Bool.true_and, Bool.and_true, Bool.false_and, Bool.and_false, decide_not, Option.isNone_some]
  refine tset_s h1 1 5 (by decide) fun w2 F2 h2 c2 f2 => ?_
  have b2 := bs b1 f1 b1.size c2
  have g2 : ∀ k, F2 k → w.heap.size ≤ k := fun k hk => (h2.ge k hk).1
  refine tset_s h2 2 3 (by decide) fun w3 F3 h3 c3 f3 => ?_
  have b3 := bs b2 g2 b2.size c3
  have g3 : ∀ k, F3 k → w.heap.size ≤ k := fun k hk => (h3.ge k hk).1
  refine due_s h3 4 (by decide) b3.size fun w4 F4 v4 h4 c4 f4 o4 => ?_
  have b4 := bs b3 g3 b3.size c4
  have g4 : ∀ k, F4 k → w.heap.size ≤ k := fun k hk => (h4.ge k hk).1
  rw [show dueL (ins (3, 2) (rm (ins (5, 1) (rm [] 1)) 2)) 4 = [2] from by decide] at o4
  rw [show restL (ins (3, 2) (rm (ins (5, 1) (rm [] 1)) 2)) 4 = [(5, 1)] from by decide] at h4
  refine bsl1 slt32 rfl rfl ?_
  have hb := b_psh w4 (.cells #[.int .i64 2] 3)
  have b5 := bt b4 hb
  have h5 := h4.below hb
  have r5 := rdI_below hb (ownI_rd o4)
  rw [cl_e]
  refine same_s r5 rd_one (by decide) _ fun w6 hw6 hb6 => ?_
  rw [decide_eq_true rfl]
  have b6 := bt b5 hb6
  have h6 := h5.below hb6
  try simp only [↓bx_e, ↓al_e, ↓fa_e, ↓ld_e, ↓ad_e, ↓su_e, ↓mu_e, ↓lt_e, ↓le_e, ↓gt_e, ↓ge_e, ↓eqi_e, ↓nei_e, ↓qu_e, ↓re_e, ↓cv_e, ↓nt_e, ↓pk_t, ↓pk_f, ↓pk_e, ↓eqb_e, ↓neb_e, ↓nc_e, ↓ex_e, ↓lnl_e, ↓lns_e, ↓idv_e, ↓cl_e, ↓cnd_e, ↓gd_e, ↓gd_u, ↓gdu_e, ↓rt_e, ↓jn_e, ↓dr_q, ↓kp_e, ↓mnm_e, ↓mxm_e, ↓mif_e, ↓asrt_e, ↓eqs_e, ↓nes_e, Value.cells, add_lit, cell_psh_new, cell_drw, Nat.zero_add, Nat.reduceAdd, get4_0, get4_1, get4_2, get4_3, get3_0, get3_1, get3_2, get2_0, get2_1, get1_0, Option.some.injEq, exists_eq_left', decide_true, decide_false, decide_eq_true_eq, if_true, if_false, Bool.not_true, Bool.not_false, Bool.false_eq_true, Bool.true_eq_false, Bool.not_eq_true', decide_eq_false_iff_not, not_false_eq_true, not_true_eq_false, reduceCtorEq, bx_e, al_e, fa_e, ld_e, ad_e, su_e, mu_e, lt_e, le_e, gt_e, ge_e, eqi_e, nei_e, qu_e, re_e, cv_e, nt_e, pk_t, pk_f, pk_e, eqb_e, neb_e, nc_e, ex_e, lnl_e, lns_e, idv_e, cl_e, cnd_e, gd_e, gd_u, gdu_e, rt_e, jn_e, dr_q, kp_e, mnm_e, mxm_e, mif_e, asrt_e, eqs_e, nes_e, cond_true, cond_false, Bool.true_and, Bool.and_true, Bool.false_and, Bool.and_false, decide_not]
  refine due_s h6 9 (by decide) b6.size fun w7 F7 v7 h7 c7 f7 o7 => ?_
  have b7 := bs b6 g4 b6.size c7
  rw [show dueL [(5, 1)] 9 = [1] from by decide] at o7
  rw [show restL [(5, 1)] 9 = [] from by decide] at h7
  try simp only [↓bx_e, ↓al_e, ↓fa_e, ↓ld_e, ↓ad_e, ↓su_e, ↓mu_e, ↓lt_e, ↓le_e, ↓gt_e, ↓ge_e, ↓eqi_e, ↓nei_e, ↓qu_e, ↓re_e, ↓cv_e, ↓nt_e, ↓pk_t, ↓pk_f, ↓pk_e, ↓eqb_e, ↓neb_e, ↓nc_e, ↓ex_e, ↓lnl_e, ↓lns_e, ↓idv_e, ↓cl_e, ↓cnd_e, ↓gd_e, ↓gd_u, ↓gdu_e, ↓rt_e, ↓jn_e, ↓dr_q, ↓kp_e, ↓mnm_e, ↓mxm_e, ↓mif_e, ↓asrt_e, ↓eqs_e, ↓nes_e, Value.cells, add_lit, cell_psh_new, cell_drw, Nat.zero_add, Nat.reduceAdd, get4_0, get4_1, get4_2, get4_3, get3_0, get3_1, get3_2, get2_0, get2_1, get1_0, Option.some.injEq, exists_eq_left', decide_true, decide_false, decide_eq_true_eq, if_true, if_false, Bool.not_true, Bool.not_false, Bool.false_eq_true, Bool.true_eq_false, Bool.not_eq_true', decide_eq_false_iff_not, not_false_eq_true, not_true_eq_false, reduceCtorEq, bx_e, al_e, fa_e, ld_e, ad_e, su_e, mu_e, lt_e, le_e, gt_e, ge_e, eqi_e, nei_e, qu_e, re_e, cv_e, nt_e, pk_t, pk_f, pk_e, eqb_e, neb_e, nc_e, ex_e, lnl_e, lns_e, idv_e, cl_e, cnd_e, gd_e, gd_u, gdu_e, rt_e, jn_e, dr_q, kp_e, mnm_e, mxm_e, mif_e, asrt_e, eqs_e, nes_e, cond_true, cond_false, Bool.true_and, Bool.and_true, Bool.false_and, Bool.and_false, decide_not]
  refine bsl1 slt32 rfl rfl ?_
  have hb := b_psh w7 (.cells #[.int .i64 1] 3)
  have b8 := bt b7 hb
  have h8 := h7.below hb
  have r8 := rdI_below hb (ownI_rd o7)
  try simp only [↓bx_e, ↓al_e, ↓fa_e, ↓ld_e, ↓ad_e, ↓su_e, ↓mu_e, ↓lt_e, ↓le_e, ↓gt_e, ↓ge_e, ↓eqi_e, ↓nei_e, ↓qu_e, ↓re_e, ↓cv_e, ↓nt_e, ↓pk_t, ↓pk_f, ↓pk_e, ↓eqb_e, ↓neb_e, ↓nc_e, ↓ex_e, ↓lnl_e, ↓lns_e, ↓idv_e, ↓cl_e, ↓cnd_e, ↓gd_e, ↓gd_u, ↓gdu_e, ↓rt_e, ↓jn_e, ↓dr_q, ↓kp_e, ↓mnm_e, ↓mxm_e, ↓mif_e, ↓asrt_e, ↓eqs_e, ↓nes_e, Value.cells, add_lit, cell_psh_new, cell_drw, Nat.zero_add, Nat.reduceAdd, get4_0, get4_1, get4_2, get4_3, get3_0, get3_1, get3_2, get2_0, get2_1, get1_0, Option.some.injEq, exists_eq_left', decide_true, decide_false, decide_eq_true_eq, if_true, if_false, Bool.not_true, Bool.not_false, Bool.false_eq_true, Bool.true_eq_false, Bool.not_eq_true', decide_eq_false_iff_not, not_false_eq_true, not_true_eq_false, reduceCtorEq, bx_e, al_e, fa_e, ld_e, ad_e, su_e, mu_e, lt_e, le_e, gt_e, ge_e, eqi_e, nei_e, qu_e, re_e, cv_e, nt_e, pk_t, pk_f, pk_e, eqb_e, neb_e, nc_e, ex_e, lnl_e, lns_e, idv_e, cl_e, cnd_e, gd_e, gd_u, gdu_e, rt_e, jn_e, dr_q, kp_e, mnm_e, mxm_e, mif_e, asrt_e, eqs_e, nes_e, cond_true, cond_false, Bool.true_and, Bool.and_true, Bool.false_and, Bool.and_false, decide_not]
  refine same_s r8 rd_one (by decide) _ fun w9 hw9 hb9 => ?_
  rw [decide_eq_true rfl]
  have b9 := bt b8 hb9
  have h9 := h8.below hb9
  try simp only [↓bx_e, ↓al_e, ↓fa_e, ↓ld_e, ↓ad_e, ↓su_e, ↓mu_e, ↓lt_e, ↓le_e, ↓gt_e, ↓ge_e, ↓eqi_e, ↓nei_e, ↓qu_e, ↓re_e, ↓cv_e, ↓nt_e, ↓pk_t, ↓pk_f, ↓pk_e, ↓eqb_e, ↓neb_e, ↓nc_e, ↓ex_e, ↓lnl_e, ↓lns_e, ↓idv_e, ↓cl_e, ↓cnd_e, ↓gd_e, ↓gd_u, ↓gdu_e, ↓rt_e, ↓jn_e, ↓dr_q, ↓kp_e, ↓mnm_e, ↓mxm_e, ↓mif_e, ↓asrt_e, ↓eqs_e, ↓nes_e, Value.cells, add_lit, cell_psh_new, cell_drw, Nat.zero_add, Nat.reduceAdd, get4_0, get4_1, get4_2, get4_3, get3_0, get3_1, get3_2, get2_0, get2_1, get1_0, Option.some.injEq, exists_eq_left', decide_true, decide_false, decide_eq_true_eq, if_true, if_false, Bool.not_true, Bool.not_false, Bool.false_eq_true, Bool.true_eq_false, Bool.not_eq_true', decide_eq_false_iff_not, not_false_eq_true, not_true_eq_false, reduceCtorEq, bx_e, al_e, fa_e, ld_e, ad_e, su_e, mu_e, lt_e, le_e, gt_e, ge_e, eqi_e, nei_e, qu_e, re_e, cv_e, nt_e, pk_t, pk_f, pk_e, eqb_e, neb_e, nc_e, ex_e, lnl_e, lns_e, idv_e, cl_e, cnd_e, gd_e, gd_u, gdu_e, rt_e, jn_e, dr_q, kp_e, mnm_e, mxm_e, mif_e, asrt_e, eqs_e, nes_e, cond_true, cond_false, Bool.true_and, Bool.and_true, Bool.false_and, Bool.and_false, decide_not]
  refine tlen_s h9 ?_
  simp only [↓bx_e, ↓al_e, ↓fa_e, ↓ld_e, ↓ad_e, ↓su_e, ↓mu_e, ↓lt_e, ↓le_e, ↓gt_e, ↓ge_e, ↓eqi_e, ↓nei_e, ↓qu_e, ↓re_e, ↓cv_e, ↓nt_e, ↓pk_t, ↓pk_f, ↓pk_e, ↓eqb_e, ↓neb_e, ↓nc_e, ↓ex_e, ↓lnl_e, ↓lns_e, ↓idv_e, ↓cl_e, ↓cnd_e, ↓gd_e, ↓gd_u, ↓gdu_e, ↓rt_e, ↓jn_e, ↓dr_q, ↓kp_e, ↓mnm_e, ↓mxm_e, ↓mif_e, ↓asrt_e, ↓eqs_e, ↓nes_e, Value.cells, add_lit, cell_psh_new, cell_drw, Nat.zero_add, Nat.reduceAdd, get4_0, get4_1, get4_2, get4_3, get3_0, get3_1, get3_2, get2_0, get2_1, get1_0, Option.some.injEq, exists_eq_left', decide_true, decide_false, decide_eq_true_eq, if_true, if_false, Bool.not_true, Bool.not_false, Bool.false_eq_true, Bool.true_eq_false, Bool.not_eq_true', decide_eq_false_iff_not, not_false_eq_true, not_true_eq_false, reduceCtorEq, bx_e, al_e, fa_e, ld_e, ad_e, su_e, mu_e, lt_e, le_e, gt_e, ge_e, eqi_e, nei_e, qu_e, re_e, cv_e, nt_e, pk_t, pk_f, pk_e, eqb_e, neb_e, nc_e, ex_e, lnl_e, lns_e, idv_e, cl_e, cnd_e, gd_e, gd_u, gdu_e, rt_e, jn_e, dr_q, kp_e, mnm_e, mxm_e, mif_e, asrt_e, eqs_e, nes_e, cond_true, cond_false, Bool.true_and, Bool.and_true, Bool.false_and, Bool.and_false, decide_not, List.length_nil, Int.natCast_zero]
  exact h _ b9
theorem f6_s (id till : Int) (w : World) (Q : Value → World → Prop) (h : ∀ w', Below w.heap.size w w' → Q (.bool true) w') : f6 (.int .i64 id) (.int .i64 till) w Q := by
  unfold f6
  rw [cl_e]
  refine f7_s _ _ fun w1 b1 => ?_
  try simp only [↓bx_e, ↓al_e, ↓fa_e, ↓ld_e, ↓ad_e, ↓su_e, ↓mu_e, ↓lt_e, ↓le_e, ↓gt_e, ↓ge_e, ↓eqi_e, ↓nei_e, ↓qu_e, ↓re_e, ↓cv_e, ↓nt_e, ↓pk_t, ↓pk_f, ↓pk_e, ↓eqb_e, ↓neb_e, ↓nc_e, ↓ex_e, ↓lnl_e, ↓lns_e, ↓idv_e, ↓cl_e, ↓cnd_e, ↓gd_e, ↓gd_u, ↓gdu_e, ↓rt_e, ↓jn_e, ↓dr_q, ↓kp_e, ↓mnm_e, ↓mxm_e, ↓mif_e, ↓asrt_e, ↓eqs_e, ↓nes_e, Value.cells, add_lit, cell_psh_new, cell_drw, Nat.zero_add, Nat.reduceAdd, get4_0, get4_1, get4_2, get4_3, get3_0, get3_1, get3_2, get2_0, get2_1, get1_0, Option.some.injEq, exists_eq_left', decide_true, decide_false, decide_eq_true_eq, if_true, if_false, Bool.not_true, Bool.not_false, Bool.false_eq_true, Bool.true_eq_false, Bool.not_eq_true', decide_eq_false_iff_not, not_false_eq_true, not_true_eq_false, reduceCtorEq, bx_e, al_e, fa_e, ld_e, ad_e, su_e, mu_e, lt_e, le_e, gt_e, ge_e, eqi_e, nei_e, qu_e, re_e, cv_e, nt_e, pk_t, pk_f, pk_e, eqb_e, neb_e, nc_e, ex_e, lnl_e, lns_e, idv_e, cl_e, cnd_e, gd_e, gd_u, gdu_e, rt_e, jn_e, dr_q, kp_e, mnm_e, mxm_e, mif_e, asrt_e, eqs_e, nes_e, cond_true, cond_false, Bool.true_and, Bool.and_true, Bool.false_and, Bool.and_false, decide_not]
  refine set_nil _ _ ?_
  refine next_nil ?_
  try simp only [↓bx_e, ↓al_e, ↓fa_e, ↓ld_e, ↓ad_e, ↓su_e, ↓mu_e, ↓lt_e, ↓le_e, ↓gt_e, ↓ge_e, ↓eqi_e, ↓nei_e, ↓qu_e, ↓re_e, ↓cv_e, ↓nt_e, ↓pk_t, ↓pk_f, ↓pk_e, ↓eqb_e, ↓neb_e, ↓nc_e, ↓ex_e, ↓lnl_e, ↓lns_e, ↓idv_e, ↓cl_e, ↓cnd_e, ↓gd_e, ↓gd_u, ↓gdu_e, ↓rt_e, ↓jn_e, ↓dr_q, ↓kp_e, ↓mnm_e, ↓mxm_e, ↓mif_e, ↓asrt_e, ↓eqs_e, ↓nes_e, Value.cells, add_lit, cell_psh_new, cell_drw, Nat.zero_add, Nat.reduceAdd, get4_0, get4_1, get4_2, get4_3, get3_0, get3_1, get3_2, get2_0, get2_1, get1_0, Option.some.injEq, exists_eq_left', decide_true, decide_false, decide_eq_true_eq, if_true, if_false, Bool.not_true, Bool.not_false, Bool.false_eq_true, Bool.true_eq_false, Bool.not_eq_true', decide_eq_false_iff_not, not_false_eq_true, not_true_eq_false, reduceCtorEq, bx_e, al_e, fa_e, ld_e, ad_e, su_e, mu_e, lt_e, le_e, gt_e, ge_e, eqi_e, nei_e, qu_e, re_e, cv_e, nt_e, pk_t, pk_f, pk_e, eqb_e, neb_e, nc_e, ex_e, lnl_e, lns_e, idv_e, cl_e, cnd_e, gd_e, gd_u, gdu_e, rt_e, jn_e, dr_q, kp_e, mnm_e, mxm_e, mif_e, asrt_e, eqs_e, nes_e, cond_true, cond_false, Bool.true_and, Bool.and_true, Bool.false_and, Bool.and_false, decide_not]
  refine till_nil _ ?_
  try simp only [↓bx_e, ↓al_e, ↓fa_e, ↓ld_e, ↓ad_e, ↓su_e, ↓mu_e, ↓lt_e, ↓le_e, ↓gt_e, ↓ge_e, ↓eqi_e, ↓nei_e, ↓qu_e, ↓re_e, ↓cv_e, ↓nt_e, ↓pk_t, ↓pk_f, ↓pk_e, ↓eqb_e, ↓neb_e, ↓nc_e, ↓ex_e, ↓lnl_e, ↓lns_e, ↓idv_e, ↓cl_e, ↓cnd_e, ↓gd_e, ↓gd_u, ↓gdu_e, ↓rt_e, ↓jn_e, ↓dr_q, ↓kp_e, ↓mnm_e, ↓mxm_e, ↓mif_e, ↓asrt_e, ↓eqs_e, ↓nes_e, Value.cells, add_lit, cell_psh_new, cell_drw, Nat.zero_add, Nat.reduceAdd, get4_0, get4_1, get4_2, get4_3, get3_0, get3_1, get3_2, get2_0, get2_1, get1_0, Option.some.injEq, exists_eq_left', decide_true, decide_false, decide_eq_true_eq, if_true, if_false, Bool.not_true, Bool.not_false, Bool.false_eq_true, Bool.true_eq_false, Bool.not_eq_true', decide_eq_false_iff_not, not_false_eq_true, not_true_eq_false, reduceCtorEq, bx_e, al_e, fa_e, ld_e, ad_e, su_e, mu_e, lt_e, le_e, gt_e, ge_e, eqi_e, nei_e, qu_e, re_e, cv_e, nt_e, pk_t, pk_f, pk_e, eqb_e, neb_e, nc_e, ex_e, lnl_e, lns_e, idv_e, cl_e, cnd_e, gd_e, gd_u, gdu_e, rt_e, jn_e, dr_q, kp_e, mnm_e, mxm_e, mif_e, asrt_e, eqs_e, nes_e, cond_true, cond_false, Bool.true_and, Bool.and_true, Bool.false_and, Bool.and_false, decide_not]
  refine drop_nil _ ?_
  try simp only [↓bx_e, ↓al_e, ↓fa_e, ↓ld_e, ↓ad_e, ↓su_e, ↓mu_e, ↓lt_e, ↓le_e, ↓gt_e, ↓ge_e, ↓eqi_e, ↓nei_e, ↓qu_e, ↓re_e, ↓cv_e, ↓nt_e, ↓pk_t, ↓pk_f, ↓pk_e, ↓eqb_e, ↓neb_e, ↓nc_e, ↓ex_e, ↓lnl_e, ↓lns_e, ↓idv_e, ↓cl_e, ↓cnd_e, ↓gd_e, ↓gd_u, ↓gdu_e, ↓rt_e, ↓jn_e, ↓dr_q, ↓kp_e, ↓mnm_e, ↓mxm_e, ↓mif_e, ↓asrt_e, ↓eqs_e, ↓nes_e, Value.cells, add_lit, cell_psh_new, cell_drw, Nat.zero_add, Nat.reduceAdd, get4_0, get4_1, get4_2, get4_3, get3_0, get3_1, get3_2, get2_0, get2_1, get1_0, Option.some.injEq, exists_eq_left', decide_true, decide_false, decide_eq_true_eq, if_true, if_false, Bool.not_true, Bool.not_false, Bool.false_eq_true, Bool.true_eq_false, Bool.not_eq_true', decide_eq_false_iff_not, not_false_eq_true, not_true_eq_false, reduceCtorEq, bx_e, al_e, fa_e, ld_e, ad_e, su_e, mu_e, lt_e, le_e, gt_e, ge_e, eqi_e, nei_e, qu_e, re_e, cv_e, nt_e, pk_t, pk_f, pk_e, eqb_e, neb_e, nc_e, ex_e, lnl_e, lns_e, idv_e, cl_e, cnd_e, gd_e, gd_u, gdu_e, rt_e, jn_e, dr_q, kp_e, mnm_e, mxm_e, mif_e, asrt_e, eqs_e, nes_e, cond_true, cond_false, Bool.true_and, Bool.and_true, Bool.false_and, Bool.and_false, decide_not]
  refine due_nil _ ?_
  simp only [↓bx_e, ↓al_e, ↓fa_e, ↓ld_e, ↓ad_e, ↓su_e, ↓mu_e, ↓lt_e, ↓le_e, ↓gt_e, ↓ge_e, ↓eqi_e, ↓nei_e, ↓qu_e, ↓re_e, ↓cv_e, ↓nt_e, ↓pk_t, ↓pk_f, ↓pk_e, ↓eqb_e, ↓neb_e, ↓nc_e, ↓ex_e, ↓lnl_e, ↓lns_e, ↓idv_e, ↓cl_e, ↓cnd_e, ↓gd_e, ↓gd_u, ↓gdu_e, ↓rt_e, ↓jn_e, ↓dr_q, ↓kp_e, ↓mnm_e, ↓mxm_e, ↓mif_e, ↓asrt_e, ↓eqs_e, ↓nes_e, Value.cells, add_lit, cell_psh_new, cell_drw, Nat.zero_add, Nat.reduceAdd, get4_0, get4_1, get4_2, get4_3, get3_0, get3_1, get3_2, get2_0, get2_1, get1_0, Option.some.injEq, exists_eq_left', decide_true, decide_false, decide_eq_true_eq, if_true, if_false, Bool.not_true, Bool.not_false, Bool.false_eq_true, Bool.true_eq_false, Bool.not_eq_true', decide_eq_false_iff_not, not_false_eq_true, not_true_eq_false, reduceCtorEq, bx_e, al_e, fa_e, ld_e, ad_e, su_e, mu_e, lt_e, le_e, gt_e, ge_e, eqi_e, nei_e, qu_e, re_e, cv_e, nt_e, pk_t, pk_f, pk_e, eqb_e, neb_e, nc_e, ex_e, lnl_e, lns_e, idv_e, cl_e, cnd_e, gd_e, gd_u, gdu_e, rt_e, jn_e, dr_q, kp_e, mnm_e, mxm_e, mif_e, asrt_e, eqs_e, nes_e, cond_true, cond_false, Bool.true_and, Bool.and_true, Bool.false_and, Bool.and_false, decide_not, Int.natCast_zero]
  refine len_nil ?_
  try simp only [↓bx_e, ↓al_e, ↓fa_e, ↓ld_e, ↓ad_e, ↓su_e, ↓mu_e, ↓lt_e, ↓le_e, ↓gt_e, ↓ge_e, ↓eqi_e, ↓nei_e, ↓qu_e, ↓re_e, ↓cv_e, ↓nt_e, ↓pk_t, ↓pk_f, ↓pk_e, ↓eqb_e, ↓neb_e, ↓nc_e, ↓ex_e, ↓lnl_e, ↓lns_e, ↓idv_e, ↓cl_e, ↓cnd_e, ↓gd_e, ↓gd_u, ↓gdu_e, ↓rt_e, ↓jn_e, ↓dr_q, ↓kp_e, ↓mnm_e, ↓mxm_e, ↓mif_e, ↓asrt_e, ↓eqs_e, ↓nes_e, Value.cells, add_lit, cell_psh_new, cell_drw, Nat.zero_add, Nat.reduceAdd, get4_0, get4_1, get4_2, get4_3, get3_0, get3_1, get3_2, get2_0, get2_1, get1_0, Option.some.injEq, exists_eq_left', decide_true, decide_false, decide_eq_true_eq, if_true, if_false, Bool.not_true, Bool.not_false, Bool.false_eq_true, Bool.true_eq_false, Bool.not_eq_true', decide_eq_false_iff_not, not_false_eq_true, not_true_eq_false, reduceCtorEq, bx_e, al_e, fa_e, ld_e, ad_e, su_e, mu_e, lt_e, le_e, gt_e, ge_e, eqi_e, nei_e, qu_e, re_e, cv_e, nt_e, pk_t, pk_f, pk_e, eqb_e, neb_e, nc_e, ex_e, lnl_e, lns_e, idv_e, cl_e, cnd_e, gd_e, gd_u, gdu_e, rt_e, jn_e, dr_q, kp_e, mnm_e, mxm_e, mif_e, asrt_e, eqs_e, nes_e, cond_true, cond_false, Bool.true_and, Bool.and_true, Bool.false_and, Bool.and_false, decide_not]
  exact h _ b1
end Go.Proofs.Ytpjffilejnemmaa
