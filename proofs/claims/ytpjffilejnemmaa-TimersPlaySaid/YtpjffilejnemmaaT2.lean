/- The heap's functions over a queue of timers. -/
import Derived.Test.YtpjffilejnemmaaT1
set_option linter.unusedVariables false
set_option linter.unusedSimpArgs false
set_option linter.unusedSectionVars false
namespace Go.Proofs.Ytpjffilejnemmaa
open Sh RowKit

theorem fpQ_perm {p : Nat} {qv : Value} {l l' : List Tm} (h : l'.Perm l) {k : Nat} : fpQ p qv l' k ↔ fpQ p qv l k := by
  unfold fpQ
  rw [(h.map _).mem_iff]
section
variable {B : Nat} {p : Nat} {mv qv : Value} {Q : Value → World → Prop}
theorem up_loop : ∀ (m j : Nat) (l : List Tm) (w : World), j < m → QR B w p mv qv l → j < l.length → l.length ≤ 1000000 →
    (∀ w', QR B w' p mv qv (Hp.up ltT m l j) → ChgS (fpQ p qv l) w w' → Q (.tuple #[]) w') → itr (fun _ _ => bot) f27_b1 m (hv p) (.int .i64 (j : Int)) w Q := by
  intro m
  induction m with
  | zero => intro j l w h; omega
  | succ m ih =>
    intro j l w hm hq hj hl kk
    show f27_b1 _ _ _ w Q
    unfold f27_b1
    have e1 : IntKind.i64.wrap ((j : Int) - 1) = (j : Int) - 1 := w64 (by omega) (by omega)
    have e2 : IntKind.i64.wrap (((j : Int) - 1).tdiv 2) = ((Hp.par j : Nat) : Int) := by
      unfold Hp.par
      rcases Nat.eq_zero_or_pos j with rfl | h
      · rfl
      · rw [Int.tdiv_eq_ediv_of_nonneg (by omega), w64 (by omega) (by omega)]; omega
    have e3 : decide (((Hp.par j : Nat) : Int) = (j : Int)) = decide (Hp.par j = j) := by rw [Bool.eq_iff_iff, decide_eq_true_eq, decide_eq_true_eq]; omega
    simp only [↓bx_e, ↓al_e, ↓fa_e, ↓ld_e, ↓ad_e, ↓su_e, ↓mu_e, ↓lt_e, ↓le_e, ↓gt_e, ↓ge_e, ↓eqi_e, ↓nei_e, ↓qu_e, ↓re_e, ↓cv_e, ↓nt_e, ↓pk_t, ↓pk_f, ↓pk_e, ↓eqb_e, ↓neb_e, ↓nc_e, ↓ex_e, ↓lnl_e, ↓lns_e, ↓idv_e, ↓cl_e, ↓cnd_e, ↓gd_e, ↓gd_u, ↓gdu_e, ↓rt_e, ↓jn_e, ↓dr_q, ↓kp_e, ↓mnm_e, ↓mxm_e, ↓mif_e, ↓asrt_e, ↓eqs_e, ↓nes_e, Value.cells, add_lit, cell_psh_new, cell_drw, Nat.zero_add, Nat.reduceAdd, get4_0, get4_1, get4_2, get4_3, get3_0, get3_1, get3_2, get2_0, get2_1, get1_0, Option.some.injEq, exists_eq_left', decide_true, decide_false, decide_eq_true_eq, if_true, if_false, Bool.not_true, Bool.not_false, Bool.false_eq_true, Bool.true_eq_false, Bool.not_eq_true', decide_eq_false_iff_not, not_false_eq_true, not_true_eq_false, reduceCtorEq, bx_e, al_e, fa_e, ld_e, ad_e, su_e, mu_e, lt_e, le_e, gt_e, ge_e, eqi_e, nei_e, qu_e, re_e, cv_e, nt_e, pk_t, pk_f, pk_e, eqb_e, neb_e, nc_e, ex_e, lnl_e, lns_e, idv_e, cl_e, cnd_e, gd_e, gd_u, gdu_e, rt_e, jn_e, dr_q, kp_e, mnm_e, mxm_e, mif_e, asrt_e, eqs_e, nes_e, cond_true, cond_false, Bool.true_and, Bool.and_true, Bool.false_and, Bool.and_false, decide_not, e1, e2, e3, ne_eq, show ¬ (2 : Int) = 0 from by decide, not_false_eq_true, true_and]
    unfold Hp.up at kk
    by_cases c : Hp.par j = j
    · rw [if_pos (.inl c)] at kk
      simp only [↓bx_e, ↓al_e, ↓fa_e, ↓ld_e, ↓ad_e, ↓su_e, ↓mu_e, ↓lt_e, ↓le_e, ↓gt_e, ↓ge_e, ↓eqi_e, ↓nei_e, ↓qu_e, ↓re_e, ↓cv_e, ↓nt_e, ↓pk_t, ↓pk_f, ↓pk_e, ↓eqb_e, ↓neb_e, ↓nc_e, ↓ex_e, ↓lnl_e, ↓lns_e, ↓idv_e, ↓cl_e, ↓cnd_e, ↓gd_e, ↓gd_u, ↓gdu_e, ↓rt_e, ↓jn_e, ↓dr_q, ↓kp_e, ↓mnm_e, ↓mxm_e, ↓mif_e, ↓asrt_e, ↓eqs_e, ↓nes_e, Value.cells, add_lit, cell_psh_new, cell_drw, Nat.zero_add, Nat.reduceAdd, get4_0, get4_1, get4_2, get4_3, get3_0, get3_1, get3_2, get2_0, get2_1, get1_0, Option.some.injEq, exists_eq_left', decide_true, decide_false, decide_eq_true_eq, if_true, if_false, Bool.not_true, Bool.not_false, Bool.false_eq_true, Bool.true_eq_false, Bool.not_eq_true', decide_eq_false_iff_not, not_false_eq_true, not_true_eq_false, reduceCtorEq, bx_e, al_e, fa_e, ld_e, ad_e, su_e, mu_e, lt_e, le_e, gt_e, ge_e, eqi_e, nei_e, qu_e, re_e, cv_e, nt_e, pk_t, pk_f, pk_e, eqb_e, neb_e, nc_e, ex_e, lnl_e, lns_e, idv_e, cl_e, cnd_e, gd_e, gd_u, gdu_e, rt_e, jn_e, dr_q, kp_e, mnm_e, mxm_e, mif_e, asrt_e, eqs_e, nes_e, cond_true, cond_false, Bool.true_and, Bool.and_true, Bool.false_and, Bool.and_false, decide_not, c]
      exact kk w hq (ChgS.refl _ _)
    · have hpj : Hp.par j < l.length := by unfold Hp.par; omega
      simp only [↓bx_e, ↓al_e, ↓fa_e, ↓ld_e, ↓ad_e, ↓su_e, ↓mu_e, ↓lt_e, ↓le_e, ↓gt_e, ↓ge_e, ↓eqi_e, ↓nei_e, ↓qu_e, ↓re_e, ↓cv_e, ↓nt_e, ↓pk_t, ↓pk_f, ↓pk_e, ↓eqb_e, ↓neb_e, ↓nc_e, ↓ex_e, ↓lnl_e, ↓lns_e, ↓idv_e, ↓cl_e, ↓cnd_e, ↓gd_e, ↓gd_u, ↓gdu_e, ↓rt_e, ↓jn_e, ↓dr_q, ↓kp_e, ↓mnm_e, ↓mxm_e, ↓mif_e, ↓asrt_e, ↓eqs_e, ↓nes_e, Value.cells, add_lit, cell_psh_new, cell_drw, Nat.zero_add, Nat.reduceAdd, get4_0, get4_1, get4_2, get4_3, get3_0, get3_1, get3_2, get2_0, get2_1, get1_0, Option.some.injEq, exists_eq_left', decide_true, decide_false, decide_eq_true_eq, if_true, if_false, Bool.not_true, Bool.not_false, Bool.false_eq_true, Bool.true_eq_false, Bool.not_eq_true', decide_eq_false_iff_not, not_false_eq_true, not_true_eq_false, reduceCtorEq, bx_e, al_e, fa_e, ld_e, ad_e, su_e, mu_e, lt_e, le_e, gt_e, ge_e, eqi_e, nei_e, qu_e, re_e, cv_e, nt_e, pk_t, pk_f, pk_e, eqb_e, neb_e, nc_e, ex_e, lnl_e, lns_e, idv_e, cl_e, cnd_e, gd_e, gd_u, gdu_e, rt_e, jn_e, dr_q, kp_e, mnm_e, mxm_e, mif_e, asrt_e, eqs_e, nes_e, cond_true, cond_false, Bool.true_and, Bool.and_true, Bool.false_and, Bool.and_false, decide_not, c]
      refine ci_less hq hj hpj fun w1 hb => ?_
      have hq1 := hq.below hb
      cases hlt : ltT l[j] l[Hp.par j] with
      | false =>
        rw [if_pos (.inr (by rw [Hp.g_get hj, Hp.g_get hpj]; exact hlt))] at kk
        simp only [↓bx_e, ↓al_e, ↓fa_e, ↓ld_e, ↓ad_e, ↓su_e, ↓mu_e, ↓lt_e, ↓le_e, ↓gt_e, ↓ge_e, ↓eqi_e, ↓nei_e, ↓qu_e, ↓re_e, ↓cv_e, ↓nt_e, ↓pk_t, ↓pk_f, ↓pk_e, ↓eqb_e, ↓neb_e, ↓nc_e, ↓ex_e, ↓lnl_e, ↓lns_e, ↓idv_e, ↓cl_e, ↓cnd_e, ↓gd_e, ↓gd_u, ↓gdu_e, ↓rt_e, ↓jn_e, ↓dr_q, ↓kp_e, ↓mnm_e, ↓mxm_e, ↓mif_e, ↓asrt_e, ↓eqs_e, ↓nes_e, Value.cells, add_lit, cell_psh_new, cell_drw, Nat.zero_add, Nat.reduceAdd, get4_0, get4_1, get4_2, get4_3, get3_0, get3_1, get3_2, get2_0, get2_1, get1_0, Option.some.injEq, exists_eq_left', decide_true, decide_false, decide_eq_true_eq, if_true, if_false, Bool.not_true, Bool.not_false, Bool.false_eq_true, Bool.true_eq_false, Bool.not_eq_true', decide_eq_false_iff_not, not_false_eq_true, not_true_eq_false, reduceCtorEq, bx_e, al_e, fa_e, ld_e, ad_e, su_e, mu_e, lt_e, le_e, gt_e, ge_e, eqi_e, nei_e, qu_e, re_e, cv_e, nt_e, pk_t, pk_f, pk_e, eqb_e, neb_e, nc_e, ex_e, lnl_e, lns_e, idv_e, cl_e, cnd_e, gd_e, gd_u, gdu_e, rt_e, jn_e, dr_q, kp_e, mnm_e, mxm_e, mif_e, asrt_e, eqs_e, nes_e, cond_true, cond_false, Bool.true_and, Bool.and_true, Bool.false_and, Bool.and_false, decide_not]
        exact kk w1 hq1 (ChgS.of_below hb)
      | true =>
        rw [if_neg (by rw [Hp.g_get hj, Hp.g_get hpj, hlt]; simp [c])] at kk
        simp only [↓bx_e, ↓al_e, ↓fa_e, ↓ld_e, ↓ad_e, ↓su_e, ↓mu_e, ↓lt_e, ↓le_e, ↓gt_e, ↓ge_e, ↓eqi_e, ↓nei_e, ↓qu_e, ↓re_e, ↓cv_e, ↓nt_e, ↓pk_t, ↓pk_f, ↓pk_e, ↓eqb_e, ↓neb_e, ↓nc_e, ↓ex_e, ↓lnl_e, ↓lns_e, ↓idv_e, ↓cl_e, ↓cnd_e, ↓gd_e, ↓gd_u, ↓gdu_e, ↓rt_e, ↓jn_e, ↓dr_q, ↓kp_e, ↓mnm_e, ↓mxm_e, ↓mif_e, ↓asrt_e, ↓eqs_e, ↓nes_e, Value.cells, add_lit, cell_psh_new, cell_drw, Nat.zero_add, Nat.reduceAdd, get4_0, get4_1, get4_2, get4_3, get3_0, get3_1, get3_2, get2_0, get2_1, get1_0, Option.some.injEq, exists_eq_left', decide_true, decide_false, decide_eq_true_eq, if_true, if_false, Bool.not_true, Bool.not_false, Bool.false_eq_true, Bool.true_eq_false, Bool.not_eq_true', decide_eq_false_iff_not, not_false_eq_true, not_true_eq_false, reduceCtorEq, bx_e, al_e, fa_e, ld_e, ad_e, su_e, mu_e, lt_e, le_e, gt_e, ge_e, eqi_e, nei_e, qu_e, re_e, cv_e, nt_e, pk_t, pk_f, pk_e, eqb_e, neb_e, nc_e, ex_e, lnl_e, lns_e, idv_e, cl_e, cnd_e, gd_e, gd_u, gdu_e, rt_e, jn_e, dr_q, kp_e, mnm_e, mxm_e, mif_e, asrt_e, eqs_e, nes_e, cond_true, cond_false, Bool.true_and, Bool.and_true, Bool.false_and, Bool.and_false, decide_not]
        refine ci_swap hq1 hpj hj fun w2 hq2 hc2 => ?_
        refine ih (Hp.par j) (Hp.swap l (Hp.par j) j) w2 (by unfold Hp.par at *; omega) hq2 (by rw [Hp.swap_len]; exact hpj) (by rw [Hp.swap_len]; exact hl) ?_
        intro w3 hq3 hc3
        refine kk w3 hq3 (((ChgS.of_below hb).trans hc2 (fun _ _ h => h)).trans hc3 (fun k _ hk => ?_))
        exact (fpQ_swap hpj hj).1 hk
theorem up_s {w : World} {l : List Tm} {j : Nat} (hq : QR B w p mv qv l) (hj : j < l.length) (hl : l.length ≤ 1000000)
    (kk : ∀ w', QR B w' p mv qv (Hp.up ltT (j + 1) l j) → ChgS (fpQ p qv l) w w' → Q (.tuple #[]) w') : f27 (hv p) (.int .i64 (j : Int)) w Q := by
  unfold f27
  exact ⟨_, up_loop (j + 1) j l w (Nat.lt_succ_self _) hq hj hl kk⟩
theorem down_loop (j1 : Value → Value → M) {i0 : Value} {n : Nat} : ∀ (m i : Nat) (l : List Tm) (w : World), n ≤ i + m → i < n → n ≤ l.length → QR B w p mv qv l → l.length ≤ 1000000 →
    (∀ w', QR B w' p mv qv (Hp.down ltT m l i n).1 → ChgS (fpQ p qv l) w w' → j1 i0 (.int .i64 ((Hp.down ltT m l i n).2 : Int)) w' Q) →
    itr (fun _ _ _ _ => bot) (f26_b2 j1) m (hv p) i0 (.int .i64 (n : Int)) (.int .i64 (i : Int)) w Q := by
  intro m
  induction m with
  | zero => intro i l w h; omega
  | succ m ih =>
    intro i l w hm hi hn hq hl kk
    show f26_b2 j1 _ _ _ _ _ w Q
    unfold f26_b2
    have e1 : IntKind.i64.wrap (2 * (i : Int)) = 2 * (i : Int) := w64 (by omega) (by omega)
    have e2 : IntKind.i64.wrap (2 * (i : Int) + 1) = ((2 * i + 1 : Nat) : Int) := by rw [w64 (by omega) (by omega)]; omega
    have e3 : IntKind.i64.wrap (((2 * i + 1 : Nat) : Int) + 1) = ((2 * i + 2 : Nat) : Int) := by rw [w64 (by omega) (by omega)]; omega
    have e4 : ¬ ((2 * i + 1 : Nat) : Int) < 0 := by omega
    unfold Hp.down at kk
    by_cases c : n ≤ 2 * i + 1
    · rw [if_pos (.inl c)] at kk
      have c' : (n : Int) ≤ ((2 * i + 1 : Nat) : Int) := by omega
      simp only [↓bx_e, ↓al_e, ↓fa_e, ↓ld_e, ↓ad_e, ↓su_e, ↓mu_e, ↓lt_e, ↓le_e, ↓gt_e, ↓ge_e, ↓eqi_e, ↓nei_e, ↓qu_e, ↓re_e, ↓cv_e, ↓nt_e, ↓pk_t, ↓pk_f, ↓pk_e, ↓eqb_e, ↓neb_e, ↓nc_e, ↓ex_e, ↓lnl_e, ↓lns_e, ↓idv_e, ↓cl_e, ↓cnd_e, ↓gd_e, ↓gd_u, ↓gdu_e, ↓rt_e, ↓jn_e, ↓dr_q, ↓kp_e, ↓mnm_e, ↓mxm_e, ↓mif_e, ↓asrt_e, ↓eqs_e, ↓nes_e, Value.cells, add_lit, cell_psh_new, cell_drw, Nat.zero_add, Nat.reduceAdd, get4_0, get4_1, get4_2, get4_3, get3_0, get3_1, get3_2, get2_0, get2_1, get1_0, Option.some.injEq, exists_eq_left', decide_true, decide_false, decide_eq_true_eq, if_true, if_false, Bool.not_true, Bool.not_false, Bool.false_eq_true, Bool.true_eq_false, Bool.not_eq_true', decide_eq_false_iff_not, not_false_eq_true, not_true_eq_false, reduceCtorEq, bx_e, al_e, fa_e, ld_e, ad_e, su_e, mu_e, lt_e, le_e, gt_e, ge_e, eqi_e, nei_e, qu_e, re_e, cv_e, nt_e, pk_t, pk_f, pk_e, eqb_e, neb_e, nc_e, ex_e, lnl_e, lns_e, idv_e, cl_e, cnd_e, gd_e, gd_u, gdu_e, rt_e, jn_e, dr_q, kp_e, mnm_e, mxm_e, mif_e, asrt_e, eqs_e, nes_e, cond_true, cond_false, Bool.true_and, Bool.and_true, Bool.false_and, Bool.and_false, decide_not, e1, e2, c']
      exact kk w hq (ChgS.refl _ _)
    · have c' : ¬ (n : Int) ≤ ((2 * i + 1 : Nat) : Int) := by omega
      simp only [↓bx_e, ↓al_e, ↓fa_e, ↓ld_e, ↓ad_e, ↓su_e, ↓mu_e, ↓lt_e, ↓le_e, ↓gt_e, ↓ge_e, ↓eqi_e, ↓nei_e, ↓qu_e, ↓re_e, ↓cv_e, ↓nt_e, ↓pk_t, ↓pk_f, ↓pk_e, ↓eqb_e, ↓neb_e, ↓nc_e, ↓ex_e, ↓lnl_e, ↓lns_e, ↓idv_e, ↓cl_e, ↓cnd_e, ↓gd_e, ↓gd_u, ↓gdu_e, ↓rt_e, ↓jn_e, ↓dr_q, ↓kp_e, ↓mnm_e, ↓mxm_e, ↓mif_e, ↓asrt_e, ↓eqs_e, ↓nes_e, Value.cells, add_lit, cell_psh_new, cell_drw, Nat.zero_add, Nat.reduceAdd, get4_0, get4_1, get4_2, get4_3, get3_0, get3_1, get3_2, get2_0, get2_1, get1_0, Option.some.injEq, exists_eq_left', decide_true, decide_false, decide_eq_true_eq, if_true, if_false, Bool.not_true, Bool.not_false, Bool.false_eq_true, Bool.true_eq_false, Bool.not_eq_true', decide_eq_false_iff_not, not_false_eq_true, not_true_eq_false, reduceCtorEq, bx_e, al_e, fa_e, ld_e, ad_e, su_e, mu_e, lt_e, le_e, gt_e, ge_e, eqi_e, nei_e, qu_e, re_e, cv_e, nt_e, pk_t, pk_f, pk_e, eqb_e, neb_e, nc_e, ex_e, lnl_e, lns_e, idv_e, cl_e, cnd_e, gd_e, gd_u, gdu_e, rt_e, jn_e, dr_q, kp_e, mnm_e, mxm_e, mif_e, asrt_e, eqs_e, nes_e, cond_true, cond_false, Bool.true_and, Bool.and_true, Bool.false_and, Bool.and_false, decide_not, e1, e2, c', e4, e3]
      have hi1 : 2 * i + 1 < l.length := by omega
      have hil : i < l.length := by omega
      -- from the kid on
      have key : ∀ (kd : Nat) (w1 : World), kd = Hp.kid ltT l i n → (hkd : kd < n) → i < kd → QR B w1 p mv qv l → ChgS (fpQ p qv l) w w1 →
          f26_j3 j1 (itr (fun _ _ _ _ => bot) (f26_b2 j1) m) (hv p) i0 (.int .i64 (n : Int)) (.int .i64 (i : Int)) (.int .i64 (kd : Int)) w1 Q := by
        intro kd w1 hk hkn hik hq1 hc1
        have hkl : kd < l.length := by omega
        unfold f26_j3
        refine ci_less hq1 hkl hil fun w2 hb => ?_
        have hq2 := hq1.below hb
        have hc2 := hc1.trans (ChgS.of_below (S := fpQ p qv l) hb) (fun _ _ h => h)
        cases hlt : ltT l[kd] l[i] with
        | false =>
          rw [if_pos (.inr (by rw [← hk, Hp.g_get hkl, Hp.g_get hil]; exact hlt))] at kk
          simp only [↓bx_e, ↓al_e, ↓fa_e, ↓ld_e, ↓ad_e, ↓su_e, ↓mu_e, ↓lt_e, ↓le_e, ↓gt_e, ↓ge_e, ↓eqi_e, ↓nei_e, ↓qu_e, ↓re_e, ↓cv_e, ↓nt_e, ↓pk_t, ↓pk_f, ↓pk_e, ↓eqb_e, ↓neb_e, ↓nc_e, ↓ex_e, ↓lnl_e, ↓lns_e, ↓idv_e, ↓cl_e, ↓cnd_e, ↓gd_e, ↓gd_u, ↓gdu_e, ↓rt_e, ↓jn_e, ↓dr_q, ↓kp_e, ↓mnm_e, ↓mxm_e, ↓mif_e, ↓asrt_e, ↓eqs_e, ↓nes_e, Value.cells, add_lit, cell_psh_new, cell_drw, Nat.zero_add, Nat.reduceAdd, get4_0, get4_1, get4_2, get4_3, get3_0, get3_1, get3_2, get2_0, get2_1, get1_0, Option.some.injEq, exists_eq_left', decide_true, decide_false, decide_eq_true_eq, if_true, if_false, Bool.not_true, Bool.not_false, Bool.false_eq_true, Bool.true_eq_false, Bool.not_eq_true', decide_eq_false_iff_not, not_false_eq_true, not_true_eq_false, reduceCtorEq, bx_e, al_e, fa_e, ld_e, ad_e, su_e, mu_e, lt_e, le_e, gt_e, ge_e, eqi_e, nei_e, qu_e, re_e, cv_e, nt_e, pk_t, pk_f, pk_e, eqb_e, neb_e, nc_e, ex_e, lnl_e, lns_e, idv_e, cl_e, cnd_e, gd_e, gd_u, gdu_e, rt_e, jn_e, dr_q, kp_e, mnm_e, mxm_e, mif_e, asrt_e, eqs_e, nes_e, cond_true, cond_false, Bool.true_and, Bool.and_true, Bool.false_and, Bool.and_false, decide_not]
          exact kk w2 hq2 hc2
        | true =>
          rw [if_neg (by rw [← hk, Hp.g_get hkl, Hp.g_get hil, hlt]; simp; omega)] at kk
          simp only [↓bx_e, ↓al_e, ↓fa_e, ↓ld_e, ↓ad_e, ↓su_e, ↓mu_e, ↓lt_e, ↓le_e, ↓gt_e, ↓ge_e, ↓eqi_e, ↓nei_e, ↓qu_e, ↓re_e, ↓cv_e, ↓nt_e, ↓pk_t, ↓pk_f, ↓pk_e, ↓eqb_e, ↓neb_e, ↓nc_e, ↓ex_e, ↓lnl_e, ↓lns_e, ↓idv_e, ↓cl_e, ↓cnd_e, ↓gd_e, ↓gd_u, ↓gdu_e, ↓rt_e, ↓jn_e, ↓dr_q, ↓kp_e, ↓mnm_e, ↓mxm_e, ↓mif_e, ↓asrt_e, ↓eqs_e, ↓nes_e, Value.cells, add_lit, cell_psh_new, cell_drw, Nat.zero_add, Nat.reduceAdd, get4_0, get4_1, get4_2, get4_3, get3_0, get3_1, get3_2, get2_0, get2_1, get1_0, Option.some.injEq, exists_eq_left', decide_true, decide_false, decide_eq_true_eq, if_true, if_false, Bool.not_true, Bool.not_false, Bool.false_eq_true, Bool.true_eq_false, Bool.not_eq_true', decide_eq_false_iff_not, not_false_eq_true, not_true_eq_false, reduceCtorEq, bx_e, al_e, fa_e, ld_e, ad_e, su_e, mu_e, lt_e, le_e, gt_e, ge_e, eqi_e, nei_e, qu_e, re_e, cv_e, nt_e, pk_t, pk_f, pk_e, eqb_e, neb_e, nc_e, ex_e, lnl_e, lns_e, idv_e, cl_e, cnd_e, gd_e, gd_u, gdu_e, rt_e, jn_e, dr_q, kp_e, mnm_e, mxm_e, mif_e, asrt_e, eqs_e, nes_e, cond_true, cond_false, Bool.true_and, Bool.and_true, Bool.false_and, Bool.and_false, decide_not]
          refine ci_swap hq2 hil hkl fun w3 hq3 hc3 => ?_
          rw [← hk] at kk
          refine ih kd (Hp.swap l i kd) w3 (by omega) hkn (by rw [Hp.swap_len]; exact hn) hq3 (by rw [Hp.swap_len]; exact hl) ?_
          intro w4 hq4 hc4
          refine kk w4 hq4 ((hc2.trans hc3 (fun _ _ h => h)).trans hc4 (fun k _ hk => ?_))
          exact (fpQ_swap hil hkl).1 hk
      by_cases c2 : 2 * i + 2 < n
      · have c2' : ((2 * i + 2 : Nat) : Int) < (n : Int) := by omega
        have hi2 : 2 * i + 2 < l.length := by omega
        simp only [↓bx_e, ↓al_e, ↓fa_e, ↓ld_e, ↓ad_e, ↓su_e, ↓mu_e, ↓lt_e, ↓le_e, ↓gt_e, ↓ge_e, ↓eqi_e, ↓nei_e, ↓qu_e, ↓re_e, ↓cv_e, ↓nt_e, ↓pk_t, ↓pk_f, ↓pk_e, ↓eqb_e, ↓neb_e, ↓nc_e, ↓ex_e, ↓lnl_e, ↓lns_e, ↓idv_e, ↓cl_e, ↓cnd_e, ↓gd_e, ↓gd_u, ↓gdu_e, ↓rt_e, ↓jn_e, ↓dr_q, ↓kp_e, ↓mnm_e, ↓mxm_e, ↓mif_e, ↓asrt_e, ↓eqs_e, ↓nes_e, Value.cells, add_lit, cell_psh_new, cell_drw, Nat.zero_add, Nat.reduceAdd, get4_0, get4_1, get4_2, get4_3, get3_0, get3_1, get3_2, get2_0, get2_1, get1_0, Option.some.injEq, exists_eq_left', decide_true, decide_false, decide_eq_true_eq, if_true, if_false, Bool.not_true, Bool.not_false, Bool.false_eq_true, Bool.true_eq_false, Bool.not_eq_true', decide_eq_false_iff_not, not_false_eq_true, not_true_eq_false, reduceCtorEq, bx_e, al_e, fa_e, ld_e, ad_e, su_e, mu_e, lt_e, le_e, gt_e, ge_e, eqi_e, nei_e, qu_e, re_e, cv_e, nt_e, pk_t, pk_f, pk_e, eqb_e, neb_e, nc_e, ex_e, lnl_e, lns_e, idv_e, cl_e, cnd_e, gd_e, gd_u, gdu_e, rt_e, jn_e, dr_q, kp_e, mnm_e, mxm_e, mif_e, asrt_e, eqs_e, nes_e, cond_true, cond_false, Bool.true_and, Bool.and_true, Bool.false_and, Bool.and_false, decide_not, c2']
        refine ci_less hq hi2 hi1 fun w1 hb => ?_
        cases hlt : ltT l[2 * i + 2] l[2 * i + 1] with
        | false =>
          simp only [↓bx_e, ↓al_e, ↓fa_e, ↓ld_e, ↓ad_e, ↓su_e, ↓mu_e, ↓lt_e, ↓le_e, ↓gt_e, ↓ge_e, ↓eqi_e, ↓nei_e, ↓qu_e, ↓re_e, ↓cv_e, ↓nt_e, ↓pk_t, ↓pk_f, ↓pk_e, ↓eqb_e, ↓neb_e, ↓nc_e, ↓ex_e, ↓lnl_e, ↓lns_e, ↓idv_e, ↓cl_e, ↓cnd_e, ↓gd_e, ↓gd_u, ↓gdu_e, ↓rt_e, ↓jn_e, ↓dr_q, ↓kp_e, ↓mnm_e, ↓mxm_e, ↓mif_e, ↓asrt_e, ↓eqs_e, ↓nes_e, Value.cells, add_lit, cell_psh_new, cell_drw, Nat.zero_add, Nat.reduceAdd, get4_0, get4_1, get4_2, get4_3, get3_0, get3_1, get3_2, get2_0, get2_1, get1_0, Option.some.injEq, exists_eq_left', decide_true, decide_false, decide_eq_true_eq, if_true, if_false, Bool.not_true, Bool.not_false, Bool.false_eq_true, Bool.true_eq_false, Bool.not_eq_true', decide_eq_false_iff_not, not_false_eq_true, not_true_eq_false, reduceCtorEq, bx_e, al_e, fa_e, ld_e, ad_e, su_e, mu_e, lt_e, le_e, gt_e, ge_e, eqi_e, nei_e, qu_e, re_e, cv_e, nt_e, pk_t, pk_f, pk_e, eqb_e, neb_e, nc_e, ex_e, lnl_e, lns_e, idv_e, cl_e, cnd_e, gd_e, gd_u, gdu_e, rt_e, jn_e, dr_q, kp_e, mnm_e, mxm_e, mif_e, asrt_e, eqs_e, nes_e, cond_true, cond_false, Bool.true_and, Bool.and_true, Bool.false_and, Bool.and_false, decide_not]
          refine key (2 * i + 1) w1 ?_ (by omega) (by omega) (hq.below hb) (ChgS.of_below hb)
          unfold Hp.kid
          rw [if_neg (by rw [Hp.g_get hi2, Hp.g_get hi1, hlt]; simp)]
        | true =>
          simp only [↓bx_e, ↓al_e, ↓fa_e, ↓ld_e, ↓ad_e, ↓su_e, ↓mu_e, ↓lt_e, ↓le_e, ↓gt_e, ↓ge_e, ↓eqi_e, ↓nei_e, ↓qu_e, ↓re_e, ↓cv_e, ↓nt_e, ↓pk_t, ↓pk_f, ↓pk_e, ↓eqb_e, ↓neb_e, ↓nc_e, ↓ex_e, ↓lnl_e, ↓lns_e, ↓idv_e, ↓cl_e, ↓cnd_e, ↓gd_e, ↓gd_u, ↓gdu_e, ↓rt_e, ↓jn_e, ↓dr_q, ↓kp_e, ↓mnm_e, ↓mxm_e, ↓mif_e, ↓asrt_e, ↓eqs_e, ↓nes_e, Value.cells, add_lit, cell_psh_new, cell_drw, Nat.zero_add, Nat.reduceAdd, get4_0, get4_1, get4_2, get4_3, get3_0, get3_1, get3_2, get2_0, get2_1, get1_0, Option.some.injEq, exists_eq_left', decide_true, decide_false, decide_eq_true_eq, if_true, if_false, Bool.not_true, Bool.not_false, Bool.false_eq_true, Bool.true_eq_false, Bool.not_eq_true', decide_eq_false_iff_not, not_false_eq_true, not_true_eq_false, reduceCtorEq, bx_e, al_e, fa_e, ld_e, ad_e, su_e, mu_e, lt_e, le_e, gt_e, ge_e, eqi_e, nei_e, qu_e, re_e, cv_e, nt_e, pk_t, pk_f, pk_e, eqb_e, neb_e, nc_e, ex_e, lnl_e, lns_e, idv_e, cl_e, cnd_e, gd_e, gd_u, gdu_e, rt_e, jn_e, dr_q, kp_e, mnm_e, mxm_e, mif_e, asrt_e, eqs_e, nes_e, cond_true, cond_false, Bool.true_and, Bool.and_true, Bool.false_and, Bool.and_false, decide_not]
          refine key (2 * i + 2) w1 ?_ c2 (by omega) (hq.below hb) (ChgS.of_below hb)
          unfold Hp.kid
          rw [if_pos (by rw [Hp.g_get hi2, Hp.g_get hi1, hlt]; exact ⟨c2, rfl⟩)]
      · have c2' : ¬ ((2 * i + 2 : Nat) : Int) < (n : Int) := by omega
        simp only [↓bx_e, ↓al_e, ↓fa_e, ↓ld_e, ↓ad_e, ↓su_e, ↓mu_e, ↓lt_e, ↓le_e, ↓gt_e, ↓ge_e, ↓eqi_e, ↓nei_e, ↓qu_e, ↓re_e, ↓cv_e, ↓nt_e, ↓pk_t, ↓pk_f, ↓pk_e, ↓eqb_e, ↓neb_e, ↓nc_e, ↓ex_e, ↓lnl_e, ↓lns_e, ↓idv_e, ↓cl_e, ↓cnd_e, ↓gd_e, ↓gd_u, ↓gdu_e, ↓rt_e, ↓jn_e, ↓dr_q, ↓kp_e, ↓mnm_e, ↓mxm_e, ↓mif_e, ↓asrt_e, ↓eqs_e, ↓nes_e, Value.cells, add_lit, cell_psh_new, cell_drw, Nat.zero_add, Nat.reduceAdd, get4_0, get4_1, get4_2, get4_3, get3_0, get3_1, get3_2, get2_0, get2_1, get1_0, Option.some.injEq, exists_eq_left', decide_true, decide_false, decide_eq_true_eq, if_true, if_false, Bool.not_true, Bool.not_false, Bool.false_eq_true, Bool.true_eq_false, Bool.not_eq_true', decide_eq_false_iff_not, not_false_eq_true, not_true_eq_false, reduceCtorEq, bx_e, al_e, fa_e, ld_e, ad_e, su_e, mu_e, lt_e, le_e, gt_e, ge_e, eqi_e, nei_e, qu_e, re_e, cv_e, nt_e, pk_t, pk_f, pk_e, eqb_e, neb_e, nc_e, ex_e, lnl_e, lns_e, idv_e, cl_e, cnd_e, gd_e, gd_u, gdu_e, rt_e, jn_e, dr_q, kp_e, mnm_e, mxm_e, mif_e, asrt_e, eqs_e, nes_e, cond_true, cond_false, Bool.true_and, Bool.and_true, Bool.false_and, Bool.and_false, decide_not, c2']
        refine key (2 * i + 1) w ?_ (by omega) (by omega) hq (ChgS.refl _ _)
        unfold Hp.kid
        rw [if_neg (by intro h; exact c2 h.1)]
theorem down_le {α : Type} [Inhabited α] (lt : α → α → Bool) : ∀ (m : Nat) (l : List α) (i n : Nat), i ≤ (Hp.down lt m l i n).2 := by
  intro m
  induction m with
  | zero => intro l i n; exact Nat.le_refl _
  | succ m ih =>
    intro l i n
    unfold Hp.down
    split
    · exact Nat.le_refl _
    · refine Nat.le_trans ?_ (ih _ _ _)
      unfold Hp.kid; split <;> omega
theorem down_len {α : Type} [Inhabited α] (lt : α → α → Bool) : ∀ (m : Nat) (l : List α) (i n : Nat), (Hp.down lt m l i n).1.length = l.length := by
  intro m
  induction m with
  | zero => intro l i n; rfl
  | succ m ih =>
    intro l i n
    unfold Hp.down
    split
    · rfl
    · rw [ih, Hp.swap_len]
theorem down_s {w : World} {l : List Tm} {i n : Nat} (hq : QR B w p mv qv l) (hi : i ≤ n) (hn : n ≤ l.length) (hl : l.length ≤ 1000000)
    (kk : ∀ w', QR B w' p mv qv (Hp.down ltT (n - i) l i n).1 → ChgS (fpQ p qv l) w w' → Q (.bool (decide (i < (Hp.down ltT (n - i) l i n).2))) w') : f26 (hv p) (.int .i64 (i : Int)) (.int .i64 (n : Int)) w Q := by
  unfold f26
  rw [jn_e]
  have fin : ∀ (j : Nat) w', Q (.bool (decide (i < j))) w' → f26_j1 (.int .i64 (i : Int)) (.int .i64 (j : Int)) w' Q := by
    intro j w' h
    unfold f26_j1
    have : decide ((i : Int) < (j : Int)) = decide (i < j) := by rw [Bool.eq_iff_iff]; simp
    simp only [↓bx_e, ↓al_e, ↓fa_e, ↓ld_e, ↓ad_e, ↓su_e, ↓mu_e, ↓lt_e, ↓le_e, ↓gt_e, ↓ge_e, ↓eqi_e, ↓nei_e, ↓qu_e, ↓re_e, ↓cv_e, ↓nt_e, ↓pk_t, ↓pk_f, ↓pk_e, ↓eqb_e, ↓neb_e, ↓nc_e, ↓ex_e, ↓lnl_e, ↓lns_e, ↓idv_e, ↓cl_e, ↓cnd_e, ↓gd_e, ↓gd_u, ↓gdu_e, ↓rt_e, ↓jn_e, ↓dr_q, ↓kp_e, ↓mnm_e, ↓mxm_e, ↓mif_e, ↓asrt_e, ↓eqs_e, ↓nes_e, Value.cells, add_lit, cell_psh_new, cell_drw, Nat.zero_add, Nat.reduceAdd, get4_0, get4_1, get4_2, get4_3, get3_0, get3_1, get3_2, get2_0, get2_1, get1_0, Option.some.injEq, exists_eq_left', decide_true, decide_false, decide_eq_true_eq, if_true, if_false, Bool.not_true, Bool.not_false, Bool.false_eq_true, Bool.true_eq_false, Bool.not_eq_true', decide_eq_false_iff_not, not_false_eq_true, not_true_eq_false, reduceCtorEq, bx_e, al_e, fa_e, ld_e, ad_e, su_e, mu_e, lt_e, le_e, gt_e, ge_e, eqi_e, nei_e, qu_e, re_e, cv_e, nt_e, pk_t, pk_f, pk_e, eqb_e, neb_e, nc_e, ex_e, lnl_e, lns_e, idv_e, cl_e, cnd_e, gd_e, gd_u, gdu_e, rt_e, jn_e, dr_q, kp_e, mnm_e, mxm_e, mif_e, asrt_e, eqs_e, nes_e, cond_true, cond_false, Bool.true_and, Bool.and_true, Bool.false_and, Bool.and_false, decide_not, this]
    exact h
  by_cases c : i < n
  · refine ⟨n - i, down_loop _ (n - i) i l w (by omega) c hn hq hl ?_⟩
    intro w' hq' hc'
    exact fin _ _ (kk w' hq' hc')
  · obtain rfl : i = n := by omega
    rw [Nat.sub_self] at kk
    refine ⟨1, ?_⟩
    show f26_b2 f26_j1 _ _ _ _ _ w Q
    unfold f26_b2
    have e1 : IntKind.i64.wrap (2 * (i : Int)) = 2 * (i : Int) := w64 (by omega) (by omega)
    have e2 : IntKind.i64.wrap (2 * (i : Int) + 1) = 2 * (i : Int) + 1 := w64 (by omega) (by omega)
    have c' : (i : Int) ≤ 2 * (i : Int) + 1 := by omega
    simp only [↓bx_e, ↓al_e, ↓fa_e, ↓ld_e, ↓ad_e, ↓su_e, ↓mu_e, ↓lt_e, ↓le_e, ↓gt_e, ↓ge_e, ↓eqi_e, ↓nei_e, ↓qu_e, ↓re_e, ↓cv_e, ↓nt_e, ↓pk_t, ↓pk_f, ↓pk_e, ↓eqb_e, ↓neb_e, ↓nc_e, ↓ex_e, ↓lnl_e, ↓lns_e, ↓idv_e, ↓cl_e, ↓cnd_e, ↓gd_e, ↓gd_u, ↓gdu_e, ↓rt_e, ↓jn_e, ↓dr_q, ↓kp_e, ↓mnm_e, ↓mxm_e, ↓mif_e, ↓asrt_e, ↓eqs_e, ↓nes_e, Value.cells, add_lit, cell_psh_new, cell_drw, Nat.zero_add, Nat.reduceAdd, get4_0, get4_1, get4_2, get4_3, get3_0, get3_1, get3_2, get2_0, get2_1, get1_0, Option.some.injEq, exists_eq_left', decide_true, decide_false, decide_eq_true_eq, if_true, if_false, Bool.not_true, Bool.not_false, Bool.false_eq_true, Bool.true_eq_false, Bool.not_eq_true', decide_eq_false_iff_not, not_false_eq_true, not_true_eq_false, reduceCtorEq, bx_e, al_e, fa_e, ld_e, ad_e, su_e, mu_e, lt_e, le_e, gt_e, ge_e, eqi_e, nei_e, qu_e, re_e, cv_e, nt_e, pk_t, pk_f, pk_e, eqb_e, neb_e, nc_e, ex_e, lnl_e, lns_e, idv_e, cl_e, cnd_e, gd_e, gd_u, gdu_e, rt_e, jn_e, dr_q, kp_e, mnm_e, mxm_e, mif_e, asrt_e, eqs_e, nes_e, cond_true, cond_false, Bool.true_and, Bool.and_true, Bool.false_and, Bool.and_false, decide_not, e1, e2, c']
    exact fin i w (kk w hq (ChgS.refl _ _))
/-- fixed at a place -/
def fixL (l : List Tm) (i n : Nat) : List Tm := if (Hp.down ltT (n - i) l i n).2 = i then Hp.up ltT (i + 1) (Hp.down ltT (n - i) l i n).1 i else (Hp.down ltT (n - i) l i n).1
theorem up_len {α : Type} [Inhabited α] (lt : α → α → Bool) : ∀ (m : Nat) (l : List α) (j : Nat), (Hp.up lt m l j).length = l.length := by
  intro m
  induction m with
  | zero => intro l j; rfl
  | succ m ih =>
    intro l j
    unfold Hp.up
    split
    · rfl
    · rw [ih, Hp.swap_len]
theorem down_perm {α : Type} [Inhabited α] (lt : α → α → Bool) : ∀ (m : Nat) (l : List α) (i n : Nat), n ≤ l.length → i < n ∨ m = 0 → (Hp.down lt m l i n).1.Perm l := by
  intro m
  induction m with
  | zero => intro l i n _ _; exact List.Perm.refl _
  | succ m ih =>
    intro l i n hn hi
    unfold Hp.down
    split
    · exact List.Perm.refl _
    · rename_i c
      have hc : 2 * i + 1 < n := by
        rcases Nat.lt_or_ge (2 * i + 1) n with h | h
        · exact h
        · exact absurd (.inl h) c
      have hk : Hp.kid lt l i n < n := by unfold Hp.kid; split <;> omega
      exact (ih _ _ _ (by rw [Hp.swap_len]; exact hn) (.inl hk)).trans (Hp.swap_perm (by omega) (by omega))
theorem up_perm {α : Type} [Inhabited α] (lt : α → α → Bool) : ∀ (m : Nat) (l : List α) (j : Nat), j < l.length → (Hp.up lt m l j).Perm l := by
  intro m
  induction m with
  | zero => intro l j _; exact List.Perm.refl _
  | succ m ih =>
    intro l j hj
    unfold Hp.up
    split
    · exact List.Perm.refl _
    · have hp : Hp.par j < l.length := by unfold Hp.par; omega
      exact (ih _ _ (by rw [Hp.swap_len]; exact hp)).trans (Hp.swap_perm hp hj)
theorem fix_s {w : World} {l : List Tm} {i : Nat} (hq : QR B w p mv qv l) (hi : i < l.length) (hl : l.length ≤ 1000000)
    (kk : ∀ w', QR B w' p mv qv (fixL l i l.length) → ChgS (fpQ p qv l) w w' → Q (.tuple #[]) w') : f22 (hv p) (.int .i64 (i : Int)) w Q := by
  unfold f22
  refine ci_len hq ?_
  rw [cl_e]
  refine down_s hq (by omega) (Nat.le_refl _) hl fun w1 hq1 hc1 => ?_
  have hle := down_le ltT (l.length - i) l i l.length
  have hln := down_len ltT (l.length - i) l i l.length
  have hpm := down_perm ltT (l.length - i) l i l.length (Nat.le_refl _) (.inl hi)
  unfold fixL at kk
  by_cases c : (Hp.down ltT (l.length - i) l i l.length).2 = i
  · rw [if_pos c] at kk
    have : ¬ i < (Hp.down ltT (l.length - i) l i l.length).2 := by omega
    simp only [↓bx_e, ↓al_e, ↓fa_e, ↓ld_e, ↓ad_e, ↓su_e, ↓mu_e, ↓lt_e, ↓le_e, ↓gt_e, ↓ge_e, ↓eqi_e, ↓nei_e, ↓qu_e, ↓re_e, ↓cv_e, ↓nt_e, ↓pk_t, ↓pk_f, ↓pk_e, ↓eqb_e, ↓neb_e, ↓nc_e, ↓ex_e, ↓lnl_e, ↓lns_e, ↓idv_e, ↓cl_e, ↓cnd_e, ↓gd_e, ↓gd_u, ↓gdu_e, ↓rt_e, ↓jn_e, ↓dr_q, ↓kp_e, ↓mnm_e, ↓mxm_e, ↓mif_e, ↓asrt_e, ↓eqs_e, ↓nes_e, Value.cells, add_lit, cell_psh_new, cell_drw, Nat.zero_add, Nat.reduceAdd, get4_0, get4_1, get4_2, get4_3, get3_0, get3_1, get3_2, get2_0, get2_1, get1_0, Option.some.injEq, exists_eq_left', decide_true, decide_false, decide_eq_true_eq, if_true, if_false, Bool.not_true, Bool.not_false, Bool.false_eq_true, Bool.true_eq_false, Bool.not_eq_true', decide_eq_false_iff_not, not_false_eq_true, not_true_eq_false, reduceCtorEq, bx_e, al_e, fa_e, ld_e, ad_e, su_e, mu_e, lt_e, le_e, gt_e, ge_e, eqi_e, nei_e, qu_e, re_e, cv_e, nt_e, pk_t, pk_f, pk_e, eqb_e, neb_e, nc_e, ex_e, lnl_e, lns_e, idv_e, cl_e, cnd_e, gd_e, gd_u, gdu_e, rt_e, jn_e, dr_q, kp_e, mnm_e, mxm_e, mif_e, asrt_e, eqs_e, nes_e, cond_true, cond_false, Bool.true_and, Bool.and_true, Bool.false_and, Bool.and_false, decide_not, this]
    refine up_s hq1 (by omega) (by omega) fun w2 hq2 hc2 => ?_
    try simp only [↓bx_e, ↓al_e, ↓fa_e, ↓ld_e, ↓ad_e, ↓su_e, ↓mu_e, ↓lt_e, ↓le_e, ↓gt_e, ↓ge_e, ↓eqi_e, ↓nei_e, ↓qu_e, ↓re_e, ↓cv_e, ↓nt_e, ↓pk_t, ↓pk_f, ↓pk_e, ↓eqb_e, ↓neb_e, ↓nc_e, ↓ex_e, ↓lnl_e, ↓lns_e, ↓idv_e, ↓cl_e, ↓cnd_e, ↓gd_e, ↓gd_u, ↓gdu_e, ↓rt_e, ↓jn_e, ↓dr_q, ↓kp_e, ↓mnm_e, ↓mxm_e, ↓mif_e, ↓asrt_e, ↓eqs_e, ↓nes_e, Value.cells, add_lit, cell_psh_new, cell_drw, Nat.zero_add, Nat.reduceAdd, get4_0, get4_1, get4_2, get4_3, get3_0, get3_1, get3_2, get2_0, get2_1, get1_0, Option.some.injEq, exists_eq_left', decide_true, decide_false, decide_eq_true_eq, if_true, if_false, Bool.not_true, Bool.not_false, Bool.false_eq_true, Bool.true_eq_false, Bool.not_eq_true', decide_eq_false_iff_not, not_false_eq_true, not_true_eq_false, reduceCtorEq, bx_e, al_e, fa_e, ld_e, ad_e, su_e, mu_e, lt_e, le_e, gt_e, ge_e, eqi_e, nei_e, qu_e, re_e, cv_e, nt_e, pk_t, pk_f, pk_e, eqb_e, neb_e, nc_e, ex_e, lnl_e, lns_e, idv_e, cl_e, cnd_e, gd_e, gd_u, gdu_e, rt_e, jn_e, dr_q, kp_e, mnm_e, mxm_e, mif_e, asrt_e, eqs_e, nes_e, cond_true, cond_false, Bool.true_and, Bool.and_true, Bool.false_and, Bool.and_false, decide_not]
    exact kk w2 hq2 (hc1.trans hc2 (fun k _ hk => (fpQ_perm hpm).1 hk))
  · rw [if_neg c] at kk
    have : i < (Hp.down ltT (l.length - i) l i l.length).2 := by omega
    simp only [↓bx_e, ↓al_e, ↓fa_e, ↓ld_e, ↓ad_e, ↓su_e, ↓mu_e, ↓lt_e, ↓le_e, ↓gt_e, ↓ge_e, ↓eqi_e, ↓nei_e, ↓qu_e, ↓re_e, ↓cv_e, ↓nt_e, ↓pk_t, ↓pk_f, ↓pk_e, ↓eqb_e, ↓neb_e, ↓nc_e, ↓ex_e, ↓lnl_e, ↓lns_e, ↓idv_e, ↓cl_e, ↓cnd_e, ↓gd_e, ↓gd_u, ↓gdu_e, ↓rt_e, ↓jn_e, ↓dr_q, ↓kp_e, ↓mnm_e, ↓mxm_e, ↓mif_e, ↓asrt_e, ↓eqs_e, ↓nes_e, Value.cells, add_lit, cell_psh_new, cell_drw, Nat.zero_add, Nat.reduceAdd, get4_0, get4_1, get4_2, get4_3, get3_0, get3_1, get3_2, get2_0, get2_1, get1_0, Option.some.injEq, exists_eq_left', decide_true, decide_false, decide_eq_true_eq, if_true, if_false, Bool.not_true, Bool.not_false, Bool.false_eq_true, Bool.true_eq_false, Bool.not_eq_true', decide_eq_false_iff_not, not_false_eq_true, not_true_eq_false, reduceCtorEq, bx_e, al_e, fa_e, ld_e, ad_e, su_e, mu_e, lt_e, le_e, gt_e, ge_e, eqi_e, nei_e, qu_e, re_e, cv_e, nt_e, pk_t, pk_f, pk_e, eqb_e, neb_e, nc_e, ex_e, lnl_e, lns_e, idv_e, cl_e, cnd_e, gd_e, gd_u, gdu_e, rt_e, jn_e, dr_q, kp_e, mnm_e, mxm_e, mif_e, asrt_e, eqs_e, nes_e, cond_true, cond_false, Bool.true_and, Bool.and_true, Bool.false_and, Bool.and_false, decide_not, this]
    exact kk w1 hq1 hc1
end
end Go.Proofs.Ytpjffilejnemmaa
