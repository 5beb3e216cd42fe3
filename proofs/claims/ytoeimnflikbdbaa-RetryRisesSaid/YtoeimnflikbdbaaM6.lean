/- RetryRises at the level of predicate transformers. -/
import Derived.Test.YtoeimnflikbdbaaM5
set_option linter.unusedVariables false
set_option linter.unusedSimpArgs false
namespace Go.Proofs.Ytoeimnflikbdbaa
open Sh RowKit

theorem itw_mono {M Fa : Int} (hF : 1 ≤ Fa) (n : Nat) (x : Int) (h0 : 0 ≤ x) (h1 : x ≤ M) : itw M Fa n x ≤ itw M Fa (n + 1) x := by
  induction n generalizing x with
  | zero =>
    have hm := itw_bd (Fa := Fa) hF 1 x h0 h1
    exact hm.1
  | succ n ih =>
    have hm := mn_bd (Fa := Fa) h0 h1 hF
    exact ih _ hm.1 hm.2
/-- what the waits of a plan that may be are -/
theorem ref_facts {F M Fa T n : Int} (hR : rightB F M Fa T = true) (h1 : 1 ≤ n) (h2 : n ≤ T) :
    (refWait F M Fa T n).2 = true ∧ (refWait F M Fa T n).1 ≤ M ∧ (1 < n → F ≤ (refWait F M Fa T n).1) ∧ (n + 1 ≤ T → (refWait F M Fa T n).1 ≤ (refWait F M Fa T (n + 1)).1) := by
  obtain ⟨r1, r2, r3, r4, r5, r6, r7⟩ := rightB_t.1 hR
  have b := itw_bd (M := M) (Fa := Fa) r4 (n.toNat - 2) F r1 r2
  by_cases c : n = 1
  · subst c
    simp only [refWait, hR, h2, Int.le_refl, and_self, if_true, Int.lt_irrefl, false_imp_iff, true_and]
    refine ⟨by omega, fun h => ?_⟩
    have : (1 : Int) ≤ 1 + 1 := by decide
    have c2 : ¬ (1 : Int) + 1 = 1 := by decide
    simp only [h, this, and_self, if_true, c2, if_false]
    exact Int.le_trans r1 (itw_bd r4 _ F r1 r2).1
  · simp only [refWait, hR, h1, h2, c, and_self, if_true, if_false, true_and]
    refine ⟨b.2, fun _ => b.1, fun h => ?_⟩
    have d1 : 1 ≤ n + 1 := by omega
    have d2 : ¬ n + 1 = 1 := by omega
    simp only [d1, d2, h, and_self, if_true, if_false]
    have : (n + 1).toNat - 2 = (n.toNat - 2) + 1 := by omega
    rw [this]
    exact itw_mono r4 _ _ r1 r2

theorem rises_loop (j1 : M) {F M Fa T : Int} (s : ByteArray) (hs : s.size ≤ 4611686018427387904) {p : Nat} {w0 : World} {Q : Value → World → Prop} (hQ : ∀ w', Below w0.heap.size w0 w' → Q (.bool true) w') (hj : ∀ w', Below w0.heap.size w0 w' → j1 w' Q) :
    ∀ (d k i : Nat) (w : World), 1 ≤ i → i + d = 65 → d < k → w.heap[p]? = some (.cells (planC F M Fa T) 23) → Below w0.heap.size w0 w → ∀ x : Int, x ≤ (refWait F M Fa T i).1 ∨ ¬ ((i : Int) ≤ T) →
      itr (fun _ _ _ _ => bot) (f6_b2 j1) k (.string s) (.pointer (some ⟨p, 0, none⟩)) (.int .i64 x) (.int .i64 i) w Q := by
  intro d
  induction d with
  | zero =>
    intro k i w hi hd hk hp b x hx
    obtain ⟨k, rfl⟩ : ∃ m, k = m + 1 := ⟨k - 1, by omega⟩
    show f6_b2 j1 _ _ _ _ _ w Q
    unfold f6_b2
    have : ¬ (i : Int) ≤ 64 := by omega
    simp only [↓bx_e, ↓al_e, ↓fa_e, ↓ld_e, ↓ad_e, ↓su_e, ↓mu_e, ↓lt_e, ↓le_e, ↓gt_e, ↓ge_e, ↓eqi_e, ↓nei_e, ↓qu_e, ↓re_e, ↓cv_e, ↓nt_e, ↓pk_t, ↓pk_f, ↓pk_e, ↓eqb_e, ↓neb_e, ↓nc_e, ↓ex_e, ↓lnl_e, ↓lns_e, ↓idv_e, ↓cl_e, ↓cnd_e, ↓gd_e, ↓gd_u, ↓gdu_e, ↓rt_e, ↓jn_e, ↓dr_q, ↓kp_e, ↓mnm_e, ↓mxm_e, ↓mif_e, ↓asrt_e, ↓eqs_e, ↓nes_e, Value.cells, add_lit, cell_psh_new, cell_drw, Nat.zero_add, Nat.reduceAdd, get4_0, get4_1, get4_2, get4_3, get3_0, get3_1, get3_2, get2_0, get2_1, get1_0, Option.some.injEq, exists_eq_left', decide_true, decide_false, decide_eq_true_eq, if_true, if_false, Bool.not_true, Bool.not_false, Bool.false_eq_true, Bool.true_eq_false, Bool.not_eq_true', decide_eq_false_iff_not, not_false_eq_true, not_true_eq_false, reduceCtorEq, bx_e, al_e, fa_e, ld_e, ad_e, su_e, mu_e, lt_e, le_e, gt_e, ge_e, eqi_e, nei_e, qu_e, re_e, cv_e, nt_e, pk_t, pk_f, pk_e, eqb_e, neb_e, nc_e, ex_e, lnl_e, lns_e, idv_e, cl_e, cnd_e, gd_e, gd_u, gdu_e, rt_e, jn_e, dr_q, kp_e, mnm_e, mxm_e, mif_e, asrt_e, eqs_e, nes_e, cond_true, cond_false, Bool.true_and, Bool.and_true, Bool.false_and, Bool.and_false, decide_not, this]
    exact hj _ b
  | succ d ih =>
    intro k i w hi hd hk hp b x hx
    obtain ⟨k, rfl⟩ : ∃ m, k = m + 1 := ⟨k - 1, by omega⟩
    show f6_b2 j1 _ _ _ _ _ w Q
    unfold f6_b2
    have hle : (i : Int) ≤ 64 := by omega
    simp only [↓bx_e, ↓al_e, ↓fa_e, ↓ld_e, ↓ad_e, ↓su_e, ↓mu_e, ↓lt_e, ↓le_e, ↓gt_e, ↓ge_e, ↓eqi_e, ↓nei_e, ↓qu_e, ↓re_e, ↓cv_e, ↓nt_e, ↓pk_t, ↓pk_f, ↓pk_e, ↓eqb_e, ↓neb_e, ↓nc_e, ↓ex_e, ↓lnl_e, ↓lns_e, ↓idv_e, ↓cl_e, ↓cnd_e, ↓gd_e, ↓gd_u, ↓gdu_e, ↓rt_e, ↓jn_e, ↓dr_q, ↓kp_e, ↓mnm_e, ↓mxm_e, ↓mif_e, ↓asrt_e, ↓eqs_e, ↓nes_e, Value.cells, add_lit, cell_psh_new, cell_drw, Nat.zero_add, Nat.reduceAdd, get4_0, get4_1, get4_2, get4_3, get3_0, get3_1, get3_2, get2_0, get2_1, get1_0, Option.some.injEq, exists_eq_left', decide_true, decide_false, decide_eq_true_eq, if_true, if_false, Bool.not_true, Bool.not_false, Bool.false_eq_true, Bool.true_eq_false, Bool.not_eq_true', decide_eq_false_iff_not, not_false_eq_true, not_true_eq_false, reduceCtorEq, bx_e, al_e, fa_e, ld_e, ad_e, su_e, mu_e, lt_e, le_e, gt_e, ge_e, eqi_e, nei_e, qu_e, re_e, cv_e, nt_e, pk_t, pk_f, pk_e, eqb_e, neb_e, nc_e, ex_e, lnl_e, lns_e, idv_e, cl_e, cnd_e, gd_e, gd_u, gdu_e, rt_e, jn_e, dr_q, kp_e, mnm_e, mxm_e, mif_e, asrt_e, eqs_e, nes_e, cond_true, cond_false, Bool.true_and, Bool.and_true, Bool.false_and, Bool.and_false, decide_not, hle]
    refine ldn_box hp rfl ?_
    simp only [↓cl_e]
    refine f11_s F M Fa T _ _ fun w1 hb => ?_
    have b1 := bt b hb
    have hp1 := stay hb hp
    refine f15_s F M Fa T i _ _ fun w2 hb => ?_
    have b2 := bt b1 hb
    have hp2 := stay hb hp1
    simp only [↓bx_e, ↓al_e, ↓fa_e, ↓ld_e, ↓ad_e, ↓su_e, ↓mu_e, ↓lt_e, ↓le_e, ↓gt_e, ↓ge_e, ↓eqi_e, ↓nei_e, ↓qu_e, ↓re_e, ↓cv_e, ↓nt_e, ↓pk_t, ↓pk_f, ↓pk_e, ↓eqb_e, ↓neb_e, ↓nc_e, ↓ex_e, ↓lnl_e, ↓lns_e, ↓idv_e, ↓cl_e, ↓cnd_e, ↓gd_e, ↓gd_u, ↓gdu_e, ↓rt_e, ↓jn_e, ↓dr_q, ↓kp_e, ↓mnm_e, ↓mxm_e, ↓mif_e, ↓asrt_e, ↓eqs_e, ↓nes_e, Value.cells, add_lit, cell_psh_new, cell_drw, Nat.zero_add, Nat.reduceAdd, get4_0, get4_1, get4_2, get4_3, get3_0, get3_1, get3_2, get2_0, get2_1, get1_0, Option.some.injEq, exists_eq_left', decide_true, decide_false, decide_eq_true_eq, if_true, if_false, Bool.not_true, Bool.not_false, Bool.false_eq_true, Bool.true_eq_false, Bool.not_eq_true', decide_eq_false_iff_not, not_false_eq_true, not_true_eq_false, reduceCtorEq, bx_e, al_e, fa_e, ld_e, ad_e, su_e, mu_e, lt_e, le_e, gt_e, ge_e, eqi_e, nei_e, qu_e, re_e, cv_e, nt_e, pk_t, pk_f, pk_e, eqb_e, neb_e, nc_e, ex_e, lnl_e, lns_e, idv_e, cl_e, cnd_e, gd_e, gd_u, gdu_e, rt_e, jn_e, dr_q, kp_e, mnm_e, mxm_e, mif_e, asrt_e, eqs_e, nes_e, cond_true, cond_false, Bool.true_and, Bool.and_true, Bool.false_and, Bool.and_false, decide_not]
    refine ldn_box hp2 rfl ?_
    simp only [↓cl_e]
    refine f11_s F M Fa T _ _ fun w3 hb => ?_
    have b3 := bt b2 hb
    have hp3 := stay hb hp2
    refine f14_s F M Fa T _ _ fun w4 hb => ?_
    have b4 := bt b3 hb
    have hp4 := stay hb hp3
    have hc0 := cell_of_blk (n := 0) hp4
    have hc1 := cell_of_blk (n := 1) hp4
    have hc3 := cell_of_blk (n := 3) hp4
    cases hR : rightB F M Fa T with
    | false =>
      have e : refWait F M Fa T i = (0, false) := by simp [refWait, hR]
      simp only [↓bx_e, ↓al_e, ↓fa_e, ↓ld_e, ↓ad_e, ↓su_e, ↓mu_e, ↓lt_e, ↓le_e, ↓gt_e, ↓ge_e, ↓eqi_e, ↓nei_e, ↓qu_e, ↓re_e, ↓cv_e, ↓nt_e, ↓pk_t, ↓pk_f, ↓pk_e, ↓eqb_e, ↓neb_e, ↓nc_e, ↓ex_e, ↓lnl_e, ↓lns_e, ↓idv_e, ↓cl_e, ↓cnd_e, ↓gd_e, ↓gd_u, ↓gdu_e, ↓rt_e, ↓jn_e, ↓dr_q, ↓kp_e, ↓mnm_e, ↓mxm_e, ↓mif_e, ↓asrt_e, ↓eqs_e, ↓nes_e, Value.cells, add_lit, cell_psh_new, cell_drw, Nat.zero_add, Nat.reduceAdd, get4_0, get4_1, get4_2, get4_3, get3_0, get3_1, get3_2, get2_0, get2_1, get1_0, Option.some.injEq, exists_eq_left', decide_true, decide_false, decide_eq_true_eq, if_true, if_false, Bool.not_true, Bool.not_false, Bool.false_eq_true, Bool.true_eq_false, Bool.not_eq_true', decide_eq_false_iff_not, not_false_eq_true, not_true_eq_false, reduceCtorEq, bx_e, al_e, fa_e, ld_e, ad_e, su_e, mu_e, lt_e, le_e, gt_e, ge_e, eqi_e, nei_e, qu_e, re_e, cv_e, nt_e, pk_t, pk_f, pk_e, eqb_e, neb_e, nc_e, ex_e, lnl_e, lns_e, idv_e, cl_e, cnd_e, gd_e, gd_u, gdu_e, rt_e, jn_e, dr_q, kp_e, mnm_e, mxm_e, mif_e, asrt_e, eqs_e, nes_e, cond_true, cond_false, Bool.true_and, Bool.and_true, Bool.false_and, Bool.and_false, decide_not, e, beq_self_eq_true]
      exact hQ _ b4
    | true =>
      have h1 : (1 : Int) ≤ i := by omega
      by_cases c : (i : Int) ≤ T
      · obtain ⟨g1, g2, g3, g4⟩ := ref_facts hR h1 c
        have hx : x ≤ (refWait F M Fa T i).1 := by rcases hx with h | h; exact h; exact absurd c h
        simp only [↓bx_e, ↓al_e, ↓fa_e, ↓ld_e, ↓ad_e, ↓su_e, ↓mu_e, ↓lt_e, ↓le_e, ↓gt_e, ↓ge_e, ↓eqi_e, ↓nei_e, ↓qu_e, ↓re_e, ↓cv_e, ↓nt_e, ↓pk_t, ↓pk_f, ↓pk_e, ↓eqb_e, ↓neb_e, ↓nc_e, ↓ex_e, ↓lnl_e, ↓lns_e, ↓idv_e, ↓cl_e, ↓cnd_e, ↓gd_e, ↓gd_u, ↓gdu_e, ↓rt_e, ↓jn_e, ↓dr_q, ↓kp_e, ↓mnm_e, ↓mxm_e, ↓mif_e, ↓asrt_e, ↓eqs_e, ↓nes_e, Value.cells, add_lit, cell_psh_new, cell_drw, Nat.zero_add, Nat.reduceAdd, get4_0, get4_1, get4_2, get4_3, get3_0, get3_1, get3_2, get2_0, get2_1, get1_0, Option.some.injEq, exists_eq_left', decide_true, decide_false, decide_eq_true_eq, if_true, if_false, Bool.not_true, Bool.not_false, Bool.false_eq_true, Bool.true_eq_false, Bool.not_eq_true', decide_eq_false_iff_not, not_false_eq_true, not_true_eq_false, reduceCtorEq, bx_e, al_e, fa_e, ld_e, ad_e, su_e, mu_e, lt_e, le_e, gt_e, ge_e, eqi_e, nei_e, qu_e, re_e, cv_e, nt_e, pk_t, pk_f, pk_e, eqb_e, neb_e, nc_e, ex_e, lnl_e, lns_e, idv_e, cl_e, cnd_e, gd_e, gd_u, gdu_e, rt_e, jn_e, dr_q, kp_e, mnm_e, mxm_e, mif_e, asrt_e, eqs_e, nes_e, cond_true, cond_false, Bool.true_and, Bool.and_true, Bool.false_and, Bool.and_false, decide_not, hc3, planC, c, g1, beq_self_eq_true]
        refine ldn_box hp4 rfl ?_
        simp only [↓cl_e]
        refine f11_s F M Fa T _ _ fun w5 hb => ?_
        have b5 := bt b4 hb
        have hp5 := stay hb hp4
        refine f17_s F M Fa T i s hs _ _ fun w6 hb => ?_
        have b6 := bt b5 hb
        have hp6 := stay hb hp5
        have hc0 := cell_of_blk (n := 0) hp6
        have hc1 := cell_of_blk (n := 1) hp6
        have sb := spr_bd F M Fa T i s
        have bd := refWait_bd F M Fa T i
        have n1 : ¬ (refWait F M Fa T i).1 < x := by omega
        have n2 : ¬ M < (refWait F M Fa T i).1 := by omega
        have n3 : ¬ (refWait F M Fa T i).1 < spr F M Fa T i s := by omega
        have e1 : IntKind.i64.wrap ((refWait F M Fa T i).1.tdiv 2) = (refWait F M Fa T i).1 / 2 := by rw [Int.tdiv_eq_ediv_of_nonneg bd.1]; exact w64 (by omega) (by omega)
        have n4 : ¬ spr F M Fa T i s < (refWait F M Fa T i).1 / 2 := by omega
        have e0 : ((2 : Int) = 0) = False := by simp
        have h1' : IntKind.i64.wrap ((i : Int) + 1) = ((i + 1 : Nat) : Int) := by rw [w64 (by omega) (by omega)]; rfl
        by_cases c1 : (1 : Int) < i
        · have n5 : ¬ (refWait F M Fa T i).1 < F := by have := g3 c1; omega
          simp only [↓bx_e, ↓al_e, ↓fa_e, ↓ld_e, ↓ad_e, ↓su_e, ↓mu_e, ↓lt_e, ↓le_e, ↓gt_e, ↓ge_e, ↓eqi_e, ↓nei_e, ↓qu_e, ↓re_e, ↓cv_e, ↓nt_e, ↓pk_t, ↓pk_f, ↓pk_e, ↓eqb_e, ↓neb_e, ↓nc_e, ↓ex_e, ↓lnl_e, ↓lns_e, ↓idv_e, ↓cl_e, ↓cnd_e, ↓gd_e, ↓gd_u, ↓gdu_e, ↓rt_e, ↓jn_e, ↓dr_q, ↓kp_e, ↓mnm_e, ↓mxm_e, ↓mif_e, ↓asrt_e, ↓eqs_e, ↓nes_e, Value.cells, add_lit, cell_psh_new, cell_drw, Nat.zero_add, Nat.reduceAdd, get4_0, get4_1, get4_2, get4_3, get3_0, get3_1, get3_2, get2_0, get2_1, get1_0, Option.some.injEq, exists_eq_left', decide_true, decide_false, decide_eq_true_eq, if_true, if_false, Bool.not_true, Bool.not_false, Bool.false_eq_true, Bool.true_eq_false, Bool.not_eq_true', decide_eq_false_iff_not, not_false_eq_true, not_true_eq_false, reduceCtorEq, bx_e, al_e, fa_e, ld_e, ad_e, su_e, mu_e, lt_e, le_e, gt_e, ge_e, eqi_e, nei_e, qu_e, re_e, cv_e, nt_e, pk_t, pk_f, pk_e, eqb_e, neb_e, nc_e, ex_e, lnl_e, lns_e, idv_e, cl_e, cnd_e, gd_e, gd_u, gdu_e, rt_e, jn_e, dr_q, kp_e, mnm_e, mxm_e, mif_e, asrt_e, eqs_e, nes_e, cond_true, cond_false, Bool.true_and, Bool.and_true, Bool.false_and, Bool.and_false, decide_not, hc0, hc1, planC, n1, n2, n3, n4, n5, c1, g1, e0, e1, ne_eq, h1', true_and]
          refine ih k (i + 1) w6 (by omega) (by omega) (by omega) hp6 b6 _ ?_
          by_cases c2 : (i : Int) + 1 ≤ T
          · exact .inl (g4 c2)
          · exact .inr c2
        · simp only [↓bx_e, ↓al_e, ↓fa_e, ↓ld_e, ↓ad_e, ↓su_e, ↓mu_e, ↓lt_e, ↓le_e, ↓gt_e, ↓ge_e, ↓eqi_e, ↓nei_e, ↓qu_e, ↓re_e, ↓cv_e, ↓nt_e, ↓pk_t, ↓pk_f, ↓pk_e, ↓eqb_e, ↓neb_e, ↓nc_e, ↓ex_e, ↓lnl_e, ↓lns_e, ↓idv_e, ↓cl_e, ↓cnd_e, ↓gd_e, ↓gd_u, ↓gdu_e, ↓rt_e, ↓jn_e, ↓dr_q, ↓kp_e, ↓mnm_e, ↓mxm_e, ↓mif_e, ↓asrt_e, ↓eqs_e, ↓nes_e, Value.cells, add_lit, cell_psh_new, cell_drw, Nat.zero_add, Nat.reduceAdd, get4_0, get4_1, get4_2, get4_3, get3_0, get3_1, get3_2, get2_0, get2_1, get1_0, Option.some.injEq, exists_eq_left', decide_true, decide_false, decide_eq_true_eq, if_true, if_false, Bool.not_true, Bool.not_false, Bool.false_eq_true, Bool.true_eq_false, Bool.not_eq_true', decide_eq_false_iff_not, not_false_eq_true, not_true_eq_false, reduceCtorEq, bx_e, al_e, fa_e, ld_e, ad_e, su_e, mu_e, lt_e, le_e, gt_e, ge_e, eqi_e, nei_e, qu_e, re_e, cv_e, nt_e, pk_t, pk_f, pk_e, eqb_e, neb_e, nc_e, ex_e, lnl_e, lns_e, idv_e, cl_e, cnd_e, gd_e, gd_u, gdu_e, rt_e, jn_e, dr_q, kp_e, mnm_e, mxm_e, mif_e, asrt_e, eqs_e, nes_e, cond_true, cond_false, Bool.true_and, Bool.and_true, Bool.false_and, Bool.and_false, decide_not, hc0, hc1, planC, n1, n2, n3, n4, c1, g1, e0, e1, ne_eq, h1', true_and]
          refine ih k (i + 1) w6 (by omega) (by omega) (by omega) hp6 b6 _ ?_
          by_cases c2 : (i : Int) + 1 ≤ T
          · exact .inl (g4 c2)
          · exact .inr c2
      · have e : refWait F M Fa T i = (0, false) := by simp [refWait, c]
        simp only [↓bx_e, ↓al_e, ↓fa_e, ↓ld_e, ↓ad_e, ↓su_e, ↓mu_e, ↓lt_e, ↓le_e, ↓gt_e, ↓ge_e, ↓eqi_e, ↓nei_e, ↓qu_e, ↓re_e, ↓cv_e, ↓nt_e, ↓pk_t, ↓pk_f, ↓pk_e, ↓eqb_e, ↓neb_e, ↓nc_e, ↓ex_e, ↓lnl_e, ↓lns_e, ↓idv_e, ↓cl_e, ↓cnd_e, ↓gd_e, ↓gd_u, ↓gdu_e, ↓rt_e, ↓jn_e, ↓dr_q, ↓kp_e, ↓mnm_e, ↓mxm_e, ↓mif_e, ↓asrt_e, ↓eqs_e, ↓nes_e, Value.cells, add_lit, cell_psh_new, cell_drw, Nat.zero_add, Nat.reduceAdd, get4_0, get4_1, get4_2, get4_3, get3_0, get3_1, get3_2, get2_0, get2_1, get1_0, Option.some.injEq, exists_eq_left', decide_true, decide_false, decide_eq_true_eq, if_true, if_false, Bool.not_true, Bool.not_false, Bool.false_eq_true, Bool.true_eq_false, Bool.not_eq_true', decide_eq_false_iff_not, not_false_eq_true, not_true_eq_false, reduceCtorEq, bx_e, al_e, fa_e, ld_e, ad_e, su_e, mu_e, lt_e, le_e, gt_e, ge_e, eqi_e, nei_e, qu_e, re_e, cv_e, nt_e, pk_t, pk_f, pk_e, eqb_e, neb_e, nc_e, ex_e, lnl_e, lns_e, idv_e, cl_e, cnd_e, gd_e, gd_u, gdu_e, rt_e, jn_e, dr_q, kp_e, mnm_e, mxm_e, mif_e, asrt_e, eqs_e, nes_e, cond_true, cond_false, Bool.true_and, Bool.and_true, Bool.false_and, Bool.and_false, decide_not, hc3, planC, c, e, beq_self_eq_true]
        exact hQ _ b4

theorem f6_s (F M Fa T : Int) (s : ByteArray) (hs : s.size ≤ 4611686018427387904) (w : World) (Q : Value → World → Prop) (h : ∀ w', Below w.heap.size w w' → Q (.bool true) w') : f6 (planV F M Fa T) (.string s) w Q := by
  unfold f6
  simp only [↓bx_e, ↓cl_e]
  rw [show (planV F M Fa T).cells = planC F M Fa T from rfl]
  have hp0 := blk_psh_new (w := w) (o := .cells (planC F M Fa T) 23)
  have b0 := b_psh w (.cells (planC F M Fa T) 23)
  refine f7_s _ _ fun w1 hb => ?_
  have b1 := bt b0 hb
  have hp1 := stay hb hp0
  simp only [↓bx_e, ↓al_e, ↓fa_e, ↓ld_e, ↓ad_e, ↓su_e, ↓mu_e, ↓lt_e, ↓le_e, ↓gt_e, ↓ge_e, ↓eqi_e, ↓nei_e, ↓qu_e, ↓re_e, ↓cv_e, ↓nt_e, ↓pk_t, ↓pk_f, ↓pk_e, ↓eqb_e, ↓neb_e, ↓nc_e, ↓ex_e, ↓lnl_e, ↓lns_e, ↓idv_e, ↓cl_e, ↓cnd_e, ↓gd_e, ↓gd_u, ↓gdu_e, ↓rt_e, ↓jn_e, ↓dr_q, ↓kp_e, ↓mnm_e, ↓mxm_e, ↓mif_e, ↓asrt_e, ↓eqs_e, ↓nes_e, Value.cells, add_lit, cell_psh_new, cell_drw, Nat.zero_add, Nat.reduceAdd, get4_0, get4_1, get4_2, get4_3, get3_0, get3_1, get3_2, get2_0, get2_1, get1_0, Option.some.injEq, exists_eq_left', decide_true, decide_false, decide_eq_true_eq, if_true, if_false, Bool.not_true, Bool.not_false, Bool.false_eq_true, Bool.true_eq_false, Bool.not_eq_true', decide_eq_false_iff_not, not_false_eq_true, not_true_eq_false, reduceCtorEq, bx_e, al_e, fa_e, ld_e, ad_e, su_e, mu_e, lt_e, le_e, gt_e, ge_e, eqi_e, nei_e, qu_e, re_e, cv_e, nt_e, pk_t, pk_f, pk_e, eqb_e, neb_e, nc_e, ex_e, lnl_e, lns_e, idv_e, cl_e, cnd_e, gd_e, gd_u, gdu_e, rt_e, jn_e, dr_q, kp_e, mnm_e, mxm_e, mif_e, asrt_e, eqs_e, nes_e, cond_true, cond_false, Bool.true_and, Bool.and_true, Bool.false_and, Bool.and_false, decide_not]
  refine ⟨_, rises_loop _ s hs (w0 := w) h ?_ 64 _ 1 w1 (by omega) (by omega) (Nat.lt_succ_self _) hp1 b1 0 (.inl (refWait_bd F M Fa T _).1)⟩
  intro w' b
  unfold f6_j1
  rw [rt_e]
  exact h _ b
end Go.Proofs.Ytoeimnflikbdbaa
