/- The document's answer, and what the statements' own functions come to. -/
import Derived.Test.YtoeimnflikbdbaaM1
set_option linter.unusedVariables false
set_option linter.unusedSimpArgs false
namespace Go.Proofs.Ytoeimnflikbdbaa
open Sh RowKit

theorem f19_s (F M Fa T : Int) (w : World) (Q : Value → World → Prop) (h : ∀ w', Below w.heap.size w w' → Q (.bool (rightB F M Fa T)) w') : f19 (planV F M Fa T) w Q := by
  have hb := h _ (Below_psh (Below.refl _ w) (Nat.le_refl _) : Below w.heap.size w (psh w (.cells (planC F M Fa T) 23)))
  unfold f19 planV
  unfold planC at *
  clear h
  repeat' (first | (simp only [↓bx_e, ↓al_e, ↓fa_e, ↓ld_e, ↓ad_e, ↓su_e, ↓mu_e, ↓lt_e, ↓le_e, ↓gt_e, ↓ge_e, ↓eqi_e, ↓nei_e, ↓qu_e, ↓re_e, ↓cv_e, ↓nt_e, ↓pk_t, ↓pk_f, ↓pk_e, ↓eqb_e, ↓neb_e, ↓nc_e, ↓ex_e, ↓lnl_e, ↓lns_e, ↓idv_e, ↓cl_e, ↓cnd_e, ↓gd_e, ↓gd_u, ↓gdu_e, ↓rt_e, ↓jn_e, ↓dr_q, ↓kp_e, ↓mnm_e, ↓mxm_e, ↓mif_e, ↓asrt_e, ↓eqs_e, ↓nes_e, Value.cells, add_lit, cell_psh_new, cell_drw, Nat.zero_add, Nat.reduceAdd, get4_0, get4_1, get4_2, get4_3, get3_0, get3_1, get3_2, get2_0, get2_1, get1_0, Option.some.injEq, exists_eq_left', decide_true, decide_false, decide_eq_true_eq, if_true, if_false, Bool.not_true, Bool.not_false, Bool.false_eq_true, Bool.true_eq_false, Bool.not_eq_true', decide_eq_false_iff_not, not_false_eq_true, not_true_eq_false, reduceCtorEq, bx_e, al_e, fa_e, ld_e, ad_e, su_e, mu_e, lt_e, le_e, gt_e, ge_e, eqi_e, nei_e, qu_e, re_e, cv_e, nt_e, pk_t, pk_f, pk_e, eqb_e, neb_e, nc_e, ex_e, lnl_e, lns_e, idv_e, cl_e, cnd_e, gd_e, gd_u, gdu_e, rt_e, jn_e, dr_q, kp_e, mnm_e, mxm_e, mif_e, asrt_e, eqs_e, nes_e, cond_true, cond_false, Bool.true_and, Bool.and_true, Bool.false_and, Bool.and_false, decide_not, *]; done) | (simp only [↓bx_e, ↓al_e, ↓fa_e, ↓ld_e, ↓ad_e, ↓su_e, ↓mu_e, ↓lt_e, ↓le_e, ↓gt_e, ↓ge_e, ↓eqi_e, ↓nei_e, ↓qu_e, ↓re_e, ↓cv_e, ↓nt_e, ↓pk_t, ↓pk_f, ↓pk_e, ↓eqb_e, ↓neb_e, ↓nc_e, ↓ex_e, ↓lnl_e, ↓lns_e, ↓idv_e, ↓cl_e, ↓cnd_e, ↓gd_e, ↓gd_u, ↓gdu_e, ↓rt_e, ↓jn_e, ↓dr_q, ↓kp_e, ↓mnm_e, ↓mxm_e, ↓mif_e, ↓asrt_e, ↓eqs_e, ↓nes_e, Value.cells, add_lit, cell_psh_new, cell_drw, Nat.zero_add, Nat.reduceAdd, get4_0, get4_1, get4_2, get4_3, get3_0, get3_1, get3_2, get2_0, get2_1, get1_0, Option.some.injEq, exists_eq_left', decide_true, decide_false, decide_eq_true_eq, if_true, if_false, Bool.not_true, Bool.not_false, Bool.false_eq_true, Bool.true_eq_false, Bool.not_eq_true', decide_eq_false_iff_not, not_false_eq_true, not_true_eq_false, reduceCtorEq, bx_e, al_e, fa_e, ld_e, ad_e, su_e, mu_e, lt_e, le_e, gt_e, ge_e, eqi_e, nei_e, qu_e, re_e, cv_e, nt_e, pk_t, pk_f, pk_e, eqb_e, neb_e, nc_e, ex_e, lnl_e, lns_e, idv_e, cl_e, cnd_e, gd_e, gd_u, gdu_e, rt_e, jn_e, dr_q, kp_e, mnm_e, mxm_e, mif_e, asrt_e, eqs_e, nes_e, cond_true, cond_false, Bool.true_and, Bool.and_true, Bool.false_and, Bool.and_false, decide_not, *]) | split)
  all_goals (refine q_cong ?_ hb; rw [Bool.eq_iff_iff]; simp [rightB]; try omega)

/-- k steps of the waits -/
def itw (M Fa : Int) : Nat → Int → Int
  | 0, x => x
  | n + 1, x => itw M Fa n (mn (x * Fa) M)
theorem itw_top {M Fa : Int} (h0 : 0 ≤ M) (hF : 1 ≤ Fa) : ∀ n, itw M Fa n M = M
  | 0 => rfl
  | n + 1 => by
    have : mn (M * Fa) M = M := by
      have : M * 1 ≤ M * Fa := Int.mul_le_mul_of_nonneg_left hF h0
      unfold mn; split <;> omega
    rw [itw, this, itw_top h0 hF n]
theorem wl_get (M Fa : Int) : ∀ (n k : Nat) (x : Int) (h : k < n), (wl M Fa n x)[k]'(by rw [wl_len]; exact h) = itw M Fa k x := by
  intro n
  induction n with
  | zero => intro k x h; omega
  | succ n ih =>
    intro k x h
    cases k with
    | zero => rfl
    | succ k => simp only [wl, itw, List.getElem_cons_succ]; exact ih k _ (by omega)
def refWait (F M Fa T n : Int) : Int × Bool := if rightB F M Fa T = true ∧ 1 ≤ n ∧ n ≤ T then (if n = 1 then 0 else itw M Fa (n.toNat - 2) F, true) else (0, false)

theorem wait_loop (j1 : Value → M) {F M Fa T n : Int} (hM : M ≤ 1099511627776) (h1 : 1 ≤ Fa) (h2 : Fa ≤ 16) (hn : n ≤ 64) {p : Nat} {fr : Nat × Nat} {w : World} (hp : w.heap[p]? = some (.cells (planC F M Fa T) 23 fr)) {Q : Value → World → Prop} :
    ∀ (d k i : Nat) (x : Int), (i : Int) + d = n → 0 ≤ x → x ≤ M → d < k → j1 (.int .i64 (itw M Fa d x)) w Q →
      itr (fun _ _ _ _ => bot) (f16_b2 j1) k (.int .i64 n) (.pointer (some ⟨p, 0, none⟩)) (.int .i64 x) (.int .i64 i) w Q := by
  have hc1 := cell_of_blk (n := 1) hp
  have hc2 := cell_of_blk (n := 2) hp
  intro d
  induction d with
  | zero =>
    intro k i x hi h0 hx hk kk
    obtain ⟨k, rfl⟩ : ∃ m, k = m + 1 := ⟨k - 1, by omega⟩
    show f16_b2 j1 _ _ _ _ _ w Q
    unfold f16_b2
    have : ¬ (i : Int) < n := by omega
    simp only [↓bx_e, ↓al_e, ↓fa_e, ↓ld_e, ↓ad_e, ↓su_e, ↓mu_e, ↓lt_e, ↓le_e, ↓gt_e, ↓ge_e, ↓eqi_e, ↓nei_e, ↓qu_e, ↓re_e, ↓cv_e, ↓nt_e, ↓pk_t, ↓pk_f, ↓pk_e, ↓eqb_e, ↓neb_e, ↓nc_e, ↓ex_e, ↓lnl_e, ↓lns_e, ↓idv_e, ↓cl_e, ↓cnd_e, ↓gd_e, ↓gd_u, ↓gdu_e, ↓rt_e, ↓jn_e, ↓dr_q, ↓kp_e, ↓mnm_e, ↓mxm_e, ↓mif_e, ↓asrt_e, ↓eqs_e, ↓nes_e, Value.cells, add_lit, cell_psh_new, cell_drw, Nat.zero_add, Nat.reduceAdd, get4_0, get4_1, get4_2, get4_3, get3_0, get3_1, get3_2, get2_0, get2_1, get1_0, Option.some.injEq, exists_eq_left', decide_true, decide_false, decide_eq_true_eq, if_true, if_false, Bool.not_true, Bool.not_false, Bool.false_eq_true, Bool.true_eq_false, Bool.not_eq_true', decide_eq_false_iff_not, not_false_eq_true, not_true_eq_false, reduceCtorEq, bx_e, al_e, fa_e, ld_e, ad_e, su_e, mu_e, lt_e, le_e, gt_e, ge_e, eqi_e, nei_e, qu_e, re_e, cv_e, nt_e, pk_t, pk_f, pk_e, eqb_e, neb_e, nc_e, ex_e, lnl_e, lns_e, idv_e, cl_e, cnd_e, gd_e, gd_u, gdu_e, rt_e, jn_e, dr_q, kp_e, mnm_e, mxm_e, mif_e, asrt_e, eqs_e, nes_e, cond_true, cond_false, Bool.true_and, Bool.and_true, Bool.false_and, Bool.and_false, decide_not, this]
    exact kk
  | succ d ih =>
    intro k i x hi h0 hx hk kk
    obtain ⟨k, rfl⟩ : ∃ m, k = m + 1 := ⟨k - 1, by omega⟩
    show f16_b2 j1 _ _ _ _ _ w Q
    unfold f16_b2
    have hlt : (i : Int) < n := by omega
    by_cases hxm : x < M
    · have hw1 : IntKind.i64.wrap ((i : Int) + 1) = ((i + 1 : Nat) : Int) := by rw [w64 (by omega) (by omega)]; rfl
      simp only [↓bx_e, ↓al_e, ↓fa_e, ↓ld_e, ↓ad_e, ↓su_e, ↓mu_e, ↓lt_e, ↓le_e, ↓gt_e, ↓ge_e, ↓eqi_e, ↓nei_e, ↓qu_e, ↓re_e, ↓cv_e, ↓nt_e, ↓pk_t, ↓pk_f, ↓pk_e, ↓eqb_e, ↓neb_e, ↓nc_e, ↓ex_e, ↓lnl_e, ↓lns_e, ↓idv_e, ↓cl_e, ↓cnd_e, ↓gd_e, ↓gd_u, ↓gdu_e, ↓rt_e, ↓jn_e, ↓dr_q, ↓kp_e, ↓mnm_e, ↓mxm_e, ↓mif_e, ↓asrt_e, ↓eqs_e, ↓nes_e, Value.cells, add_lit, cell_psh_new, cell_drw, Nat.zero_add, Nat.reduceAdd, get4_0, get4_1, get4_2, get4_3, get3_0, get3_1, get3_2, get2_0, get2_1, get1_0, Option.some.injEq, exists_eq_left', decide_true, decide_false, decide_eq_true_eq, if_true, if_false, Bool.not_true, Bool.not_false, Bool.false_eq_true, Bool.true_eq_false, Bool.not_eq_true', decide_eq_false_iff_not, not_false_eq_true, not_true_eq_false, reduceCtorEq, bx_e, al_e, fa_e, ld_e, ad_e, su_e, mu_e, lt_e, le_e, gt_e, ge_e, eqi_e, nei_e, qu_e, re_e, cv_e, nt_e, pk_t, pk_f, pk_e, eqb_e, neb_e, nc_e, ex_e, lnl_e, lns_e, idv_e, cl_e, cnd_e, gd_e, gd_u, gdu_e, rt_e, jn_e, dr_q, kp_e, mnm_e, mxm_e, mif_e, asrt_e, eqs_e, nes_e, cond_true, cond_false, Bool.true_and, Bool.and_true, Bool.false_and, Bool.and_false, decide_not, hlt, hc1, hc2, planC, hxm, mul_wrap h0 hx hM h1 h2, hw1]
      have hm := mn_bd (Fa := Fa) h0 hx h1
      exact ih k (i + 1) (mn (x * Fa) M) (by omega) hm.1 hm.2 (by omega) kk
    · simp only [↓bx_e, ↓al_e, ↓fa_e, ↓ld_e, ↓ad_e, ↓su_e, ↓mu_e, ↓lt_e, ↓le_e, ↓gt_e, ↓ge_e, ↓eqi_e, ↓nei_e, ↓qu_e, ↓re_e, ↓cv_e, ↓nt_e, ↓pk_t, ↓pk_f, ↓pk_e, ↓eqb_e, ↓neb_e, ↓nc_e, ↓ex_e, ↓lnl_e, ↓lns_e, ↓idv_e, ↓cl_e, ↓cnd_e, ↓gd_e, ↓gd_u, ↓gdu_e, ↓rt_e, ↓jn_e, ↓dr_q, ↓kp_e, ↓mnm_e, ↓mxm_e, ↓mif_e, ↓asrt_e, ↓eqs_e, ↓nes_e, Value.cells, add_lit, cell_psh_new, cell_drw, Nat.zero_add, Nat.reduceAdd, get4_0, get4_1, get4_2, get4_3, get3_0, get3_1, get3_2, get2_0, get2_1, get1_0, Option.some.injEq, exists_eq_left', decide_true, decide_false, decide_eq_true_eq, if_true, if_false, Bool.not_true, Bool.not_false, Bool.false_eq_true, Bool.true_eq_false, Bool.not_eq_true', decide_eq_false_iff_not, not_false_eq_true, not_true_eq_false, reduceCtorEq, bx_e, al_e, fa_e, ld_e, ad_e, su_e, mu_e, lt_e, le_e, gt_e, ge_e, eqi_e, nei_e, qu_e, re_e, cv_e, nt_e, pk_t, pk_f, pk_e, eqb_e, neb_e, nc_e, ex_e, lnl_e, lns_e, idv_e, cl_e, cnd_e, gd_e, gd_u, gdu_e, rt_e, jn_e, dr_q, kp_e, mnm_e, mxm_e, mif_e, asrt_e, eqs_e, nes_e, cond_true, cond_false, Bool.true_and, Bool.and_true, Bool.false_and, Bool.and_false, decide_not, hlt, hc1, planC, hxm]
      have : x = M := by omega
      subst this
      rw [itw_top h0 h1] at kk
      exact kk

theorem f16_s (F M Fa T n : Int) (w : World) (Q : Value → World → Prop) (h : ∀ w', Below w.heap.size w w' → Q (.tuple #[.int .i64 (refWait F M Fa T n).1, .bool (refWait F M Fa T n).2]) w') : f16 (planV F M Fa T) (.int .i64 n) w Q := by
  unfold f16
  have hbx : Below w.heap.size w (psh w (.cells (planC F M Fa T) 23)) := Below_psh (Below.refl _ w) (Nat.le_refl _)
  simp only [↓bx_e]
  refine ldn_box blk_psh_new rfl ?_
  rw [cl_e]
  refine f19_s F M Fa T _ _ fun w1 hb1 => ?_
  have hp1 : w1.heap[w.heap.size]? = some (.cells (planC F M Fa T) 23) := by rw [hb1.block _ (by rw [size_psh]; omega)]; exact blk_psh_new
  have hbw : Below w.heap.size w w1 := hbx.trans (hb1.mono (by rw [size_psh]; omega))
  have h := h _ hbw
  have hc0 := cell_of_blk (n := 0) hp1
  have hc3 := cell_of_blk (n := 3) hp1
  cases hR : rightB F M Fa T with
  | false =>
    simp only [↓bx_e, ↓al_e, ↓fa_e, ↓ld_e, ↓ad_e, ↓su_e, ↓mu_e, ↓lt_e, ↓le_e, ↓gt_e, ↓ge_e, ↓eqi_e, ↓nei_e, ↓qu_e, ↓re_e, ↓cv_e, ↓nt_e, ↓pk_t, ↓pk_f, ↓pk_e, ↓eqb_e, ↓neb_e, ↓nc_e, ↓ex_e, ↓lnl_e, ↓lns_e, ↓idv_e, ↓cl_e, ↓cnd_e, ↓gd_e, ↓gd_u, ↓gdu_e, ↓rt_e, ↓jn_e, ↓dr_q, ↓kp_e, ↓mnm_e, ↓mxm_e, ↓mif_e, ↓asrt_e, ↓eqs_e, ↓nes_e, Value.cells, add_lit, cell_psh_new, cell_drw, Nat.zero_add, Nat.reduceAdd, get4_0, get4_1, get4_2, get4_3, get3_0, get3_1, get3_2, get2_0, get2_1, get1_0, Option.some.injEq, exists_eq_left', decide_true, decide_false, decide_eq_true_eq, if_true, if_false, Bool.not_true, Bool.not_false, Bool.false_eq_true, Bool.true_eq_false, Bool.not_eq_true', decide_eq_false_iff_not, not_false_eq_true, not_true_eq_false, reduceCtorEq, bx_e, al_e, fa_e, ld_e, ad_e, su_e, mu_e, lt_e, le_e, gt_e, ge_e, eqi_e, nei_e, qu_e, re_e, cv_e, nt_e, pk_t, pk_f, pk_e, eqb_e, neb_e, nc_e, ex_e, lnl_e, lns_e, idv_e, cl_e, cnd_e, gd_e, gd_u, gdu_e, rt_e, jn_e, dr_q, kp_e, mnm_e, mxm_e, mif_e, asrt_e, eqs_e, nes_e, cond_true, cond_false, Bool.true_and, Bool.and_true, Bool.false_and, Bool.and_false, decide_not]
    simpa [refWait, hR] using h
  | true =>
    obtain ⟨r1, r2, r3, r4, r5, r6, r7⟩ := rightB_t.1 hR
    by_cases c1 : n < 1
    · simp only [↓bx_e, ↓al_e, ↓fa_e, ↓ld_e, ↓ad_e, ↓su_e, ↓mu_e, ↓lt_e, ↓le_e, ↓gt_e, ↓ge_e, ↓eqi_e, ↓nei_e, ↓qu_e, ↓re_e, ↓cv_e, ↓nt_e, ↓pk_t, ↓pk_f, ↓pk_e, ↓eqb_e, ↓neb_e, ↓nc_e, ↓ex_e, ↓lnl_e, ↓lns_e, ↓idv_e, ↓cl_e, ↓cnd_e, ↓gd_e, ↓gd_u, ↓gdu_e, ↓rt_e, ↓jn_e, ↓dr_q, ↓kp_e, ↓mnm_e, ↓mxm_e, ↓mif_e, ↓asrt_e, ↓eqs_e, ↓nes_e, Value.cells, add_lit, cell_psh_new, cell_drw, Nat.zero_add, Nat.reduceAdd, get4_0, get4_1, get4_2, get4_3, get3_0, get3_1, get3_2, get2_0, get2_1, get1_0, Option.some.injEq, exists_eq_left', decide_true, decide_false, decide_eq_true_eq, if_true, if_false, Bool.not_true, Bool.not_false, Bool.false_eq_true, Bool.true_eq_false, Bool.not_eq_true', decide_eq_false_iff_not, not_false_eq_true, not_true_eq_false, reduceCtorEq, bx_e, al_e, fa_e, ld_e, ad_e, su_e, mu_e, lt_e, le_e, gt_e, ge_e, eqi_e, nei_e, qu_e, re_e, cv_e, nt_e, pk_t, pk_f, pk_e, eqb_e, neb_e, nc_e, ex_e, lnl_e, lns_e, idv_e, cl_e, cnd_e, gd_e, gd_u, gdu_e, rt_e, jn_e, dr_q, kp_e, mnm_e, mxm_e, mif_e, asrt_e, eqs_e, nes_e, cond_true, cond_false, Bool.true_and, Bool.and_true, Bool.false_and, Bool.and_false, decide_not, c1]
      have : ¬ (1 ≤ n) := by omega
      simpa [refWait, this] using h
    · by_cases c2 : T < n
      · simp only [↓bx_e, ↓al_e, ↓fa_e, ↓ld_e, ↓ad_e, ↓su_e, ↓mu_e, ↓lt_e, ↓le_e, ↓gt_e, ↓ge_e, ↓eqi_e, ↓nei_e, ↓qu_e, ↓re_e, ↓cv_e, ↓nt_e, ↓pk_t, ↓pk_f, ↓pk_e, ↓eqb_e, ↓neb_e, ↓nc_e, ↓ex_e, ↓lnl_e, ↓lns_e, ↓idv_e, ↓cl_e, ↓cnd_e, ↓gd_e, ↓gd_u, ↓gdu_e, ↓rt_e, ↓jn_e, ↓dr_q, ↓kp_e, ↓mnm_e, ↓mxm_e, ↓mif_e, ↓asrt_e, ↓eqs_e, ↓nes_e, Value.cells, add_lit, cell_psh_new, cell_drw, Nat.zero_add, Nat.reduceAdd, get4_0, get4_1, get4_2, get4_3, get3_0, get3_1, get3_2, get2_0, get2_1, get1_0, Option.some.injEq, exists_eq_left', decide_true, decide_false, decide_eq_true_eq, if_true, if_false, Bool.not_true, Bool.not_false, Bool.false_eq_true, Bool.true_eq_false, Bool.not_eq_true', decide_eq_false_iff_not, not_false_eq_true, not_true_eq_false, reduceCtorEq, bx_e, al_e, fa_e, ld_e, ad_e, su_e, mu_e, lt_e, le_e, gt_e, ge_e, eqi_e, nei_e, qu_e, re_e, cv_e, nt_e, pk_t, pk_f, pk_e, eqb_e, neb_e, nc_e, ex_e, lnl_e, lns_e, idv_e, cl_e, cnd_e, gd_e, gd_u, gdu_e, rt_e, jn_e, dr_q, kp_e, mnm_e, mxm_e, mif_e, asrt_e, eqs_e, nes_e, cond_true, cond_false, Bool.true_and, Bool.and_true, Bool.false_and, Bool.and_false, decide_not, c1, hc3, planC, c2]
        have : ¬ (n ≤ T) := by omega
        simpa [refWait, this] using h
      · have e1 : 1 ≤ n := by omega
        have e2 : n ≤ T := by omega
        by_cases c3 : n = 1
        · subst c3
          have : ¬ T < 1 := by omega
          have c1' : ¬ (1 : Int) < 1 := by omega
          simp only [↓bx_e, ↓al_e, ↓fa_e, ↓ld_e, ↓ad_e, ↓su_e, ↓mu_e, ↓lt_e, ↓le_e, ↓gt_e, ↓ge_e, ↓eqi_e, ↓nei_e, ↓qu_e, ↓re_e, ↓cv_e, ↓nt_e, ↓pk_t, ↓pk_f, ↓pk_e, ↓eqb_e, ↓neb_e, ↓nc_e, ↓ex_e, ↓lnl_e, ↓lns_e, ↓idv_e, ↓cl_e, ↓cnd_e, ↓gd_e, ↓gd_u, ↓gdu_e, ↓rt_e, ↓jn_e, ↓dr_q, ↓kp_e, ↓mnm_e, ↓mxm_e, ↓mif_e, ↓asrt_e, ↓eqs_e, ↓nes_e, Value.cells, add_lit, cell_psh_new, cell_drw, Nat.zero_add, Nat.reduceAdd, get4_0, get4_1, get4_2, get4_3, get3_0, get3_1, get3_2, get2_0, get2_1, get1_0, Option.some.injEq, exists_eq_left', decide_true, decide_false, decide_eq_true_eq, if_true, if_false, Bool.not_true, Bool.not_false, Bool.false_eq_true, Bool.true_eq_false, Bool.not_eq_true', decide_eq_false_iff_not, not_false_eq_true, not_true_eq_false, reduceCtorEq, bx_e, al_e, fa_e, ld_e, ad_e, su_e, mu_e, lt_e, le_e, gt_e, ge_e, eqi_e, nei_e, qu_e, re_e, cv_e, nt_e, pk_t, pk_f, pk_e, eqb_e, neb_e, nc_e, ex_e, lnl_e, lns_e, idv_e, cl_e, cnd_e, gd_e, gd_u, gdu_e, rt_e, jn_e, dr_q, kp_e, mnm_e, mxm_e, mif_e, asrt_e, eqs_e, nes_e, cond_true, cond_false, Bool.true_and, Bool.and_true, Bool.false_and, Bool.and_false, decide_not, c1', hc3, planC, this]
          simpa [refWait, hR, r6] using h
        · simp only [↓bx_e, ↓al_e, ↓fa_e, ↓ld_e, ↓ad_e, ↓su_e, ↓mu_e, ↓lt_e, ↓le_e, ↓gt_e, ↓ge_e, ↓eqi_e, ↓nei_e, ↓qu_e, ↓re_e, ↓cv_e, ↓nt_e, ↓pk_t, ↓pk_f, ↓pk_e, ↓eqb_e, ↓neb_e, ↓nc_e, ↓ex_e, ↓lnl_e, ↓lns_e, ↓idv_e, ↓cl_e, ↓cnd_e, ↓gd_e, ↓gd_u, ↓gdu_e, ↓rt_e, ↓jn_e, ↓dr_q, ↓kp_e, ↓mnm_e, ↓mxm_e, ↓mif_e, ↓asrt_e, ↓eqs_e, ↓nes_e, Value.cells, add_lit, cell_psh_new, cell_drw, Nat.zero_add, Nat.reduceAdd, get4_0, get4_1, get4_2, get4_3, get3_0, get3_1, get3_2, get2_0, get2_1, get1_0, Option.some.injEq, exists_eq_left', decide_true, decide_false, decide_eq_true_eq, if_true, if_false, Bool.not_true, Bool.not_false, Bool.false_eq_true, Bool.true_eq_false, Bool.not_eq_true', decide_eq_false_iff_not, not_false_eq_true, not_true_eq_false, reduceCtorEq, bx_e, al_e, fa_e, ld_e, ad_e, su_e, mu_e, lt_e, le_e, gt_e, ge_e, eqi_e, nei_e, qu_e, re_e, cv_e, nt_e, pk_t, pk_f, pk_e, eqb_e, neb_e, nc_e, ex_e, lnl_e, lns_e, idv_e, cl_e, cnd_e, gd_e, gd_u, gdu_e, rt_e, jn_e, dr_q, kp_e, mnm_e, mxm_e, mif_e, asrt_e, eqs_e, nes_e, cond_true, cond_false, Bool.true_and, Bool.and_true, Bool.false_and, Bool.and_false, decide_not, c1, hc3, planC, c2, c3, hc0]
          refine ⟨(n.toNat - 2) + 1, ?_⟩
          refine wait_loop _ r3 r4 r5 (by omega) hp1 (n.toNat - 2) _ 2 F (by omega) r1 r2 (by omega) ?_
          unfold f16_j1
          rw [rt_e]
          simpa [refWait, hR, e1, e2, c3] using h
/-- the number n of a plan's waits is the document's -/
theorem waits_get {F M Fa T n : Int} (hR : rightB F M Fa T = true) (h1 : 1 ≤ n) (h2 : n ≤ T) (hh : n.toNat - 1 < (waitsL F M Fa T).length) : (waitsL F M Fa T)[n.toNat - 1] = (refWait F M Fa T n).1 := by
  obtain ⟨r1, r2, r3, r4, r5, r6, r7⟩ := rightB_t.1 hR
  by_cases c : n = 1
  · subst c
    simp [waitsL, refWait, hR, r6]
  · simp only [waitsL, hR, if_true]
    have : n.toNat - 1 = (n.toNat - 2) + 1 := by omega
    simp only [this, List.getElem_cons_succ]
    rw [wl_get _ _ _ _ _ (by omega)]
    simp [refWait, hR, h1, h2, c]
theorem waits_length {F M Fa T : Int} (hR : rightB F M Fa T = true) : ((waitsL F M Fa T).length : Int) = T := by
  obtain ⟨r1, r2, r3, r4, r5, r6, r7⟩ := rightB_t.1 hR
  simp [waitsL, hR, wl_len]; omega

theorem tmL_snoc : ∀ (l : List Int) (x a : Int), tmL (l ++ [x]) a = tmL l a ++ [IntKind.i64.wrap (sumW l a + x)]
  | [], x, a => rfl
  | y :: r, x, a => by simp [tmL, sumW, tmL_snoc r]
theorem sumW_snoc : ∀ (l : List Int) (x a : Int), sumW (l ++ [x]) a = IntKind.i64.wrap (sumW l a + x)
  | [], x, a => rfl
  | y :: r, x, a => by simp [sumW, sumW_snoc r]

theorem rtimes_loop (j1 : Value → M) {F M Fa T a : Int} (hR : rightB F M Fa T = true) {B p : Nat} {fr : Nat × Nat} (hpB : p < B) {Q : Value → World → Prop} :
    ∀ (d k i : Nat) (v : Value) (w : World), w.heap[p]? = some (.cells (planC F M Fa T) 23 fr) → B ≤ w.heap.size → i + d = (waitsL F M Fa T).length → d < k →
      ownI B 2 .i64 w v (tmL ((waitsL F M Fa T).take i) a) →
      (∀ v' w', ownI B 2 .i64 w' v' (tmL (waitsL F M Fa T) a) → Below B w w' → j1 v' w' Q) →
      itr (fun _ _ _ _ => bot) (f8_b2 j1) k (.int .i64 (sumW ((waitsL F M Fa T).take i) a)) (.pointer (some ⟨p, 0, none⟩)) v (.int .i64 ((i : Int) + 1)) w Q := by
  have hTl := waits_length hR
  obtain ⟨r1, r2, r3, r4, r5, r6, r7⟩ := rightB_t.1 hR
  intro d
  induction d with
  | zero =>
    intro k i v w hp hB hi hk ho kk
    obtain ⟨k, rfl⟩ : ∃ m, k = m + 1 := ⟨k - 1, by omega⟩
    show f8_b2 j1 _ _ _ _ _ w Q
    unfold f8_b2
    have hc3 := cell_of_blk (n := 3) hp
    have : ¬ (i : Int) + 1 ≤ T := by omega
    simp only [↓bx_e, ↓al_e, ↓fa_e, ↓ld_e, ↓ad_e, ↓su_e, ↓mu_e, ↓lt_e, ↓le_e, ↓gt_e, ↓ge_e, ↓eqi_e, ↓nei_e, ↓qu_e, ↓re_e, ↓cv_e, ↓nt_e, ↓pk_t, ↓pk_f, ↓pk_e, ↓eqb_e, ↓neb_e, ↓nc_e, ↓ex_e, ↓lnl_e, ↓lns_e, ↓idv_e, ↓cl_e, ↓cnd_e, ↓gd_e, ↓gd_u, ↓gdu_e, ↓rt_e, ↓jn_e, ↓dr_q, ↓kp_e, ↓mnm_e, ↓mxm_e, ↓mif_e, ↓asrt_e, ↓eqs_e, ↓nes_e, Value.cells, add_lit, cell_psh_new, cell_drw, Nat.zero_add, Nat.reduceAdd, get4_0, get4_1, get4_2, get4_3, get3_0, get3_1, get3_2, get2_0, get2_1, get1_0, Option.some.injEq, exists_eq_left', decide_true, decide_false, decide_eq_true_eq, if_true, if_false, Bool.not_true, Bool.not_false, Bool.false_eq_true, Bool.true_eq_false, Bool.not_eq_true', decide_eq_false_iff_not, not_false_eq_true, not_true_eq_false, reduceCtorEq, bx_e, al_e, fa_e, ld_e, ad_e, su_e, mu_e, lt_e, le_e, gt_e, ge_e, eqi_e, nei_e, qu_e, re_e, cv_e, nt_e, pk_t, pk_f, pk_e, eqb_e, neb_e, nc_e, ex_e, lnl_e, lns_e, idv_e, cl_e, cnd_e, gd_e, gd_u, gdu_e, rt_e, jn_e, dr_q, kp_e, mnm_e, mxm_e, mif_e, asrt_e, eqs_e, nes_e, cond_true, cond_false, Bool.true_and, Bool.and_true, Bool.false_and, Bool.and_false, decide_not, hc3, planC, this]
    rw [List.take_of_length_le (by omega)] at ho
    exact kk _ _ ho (Below.refl _ _)
  | succ d ih =>
    intro k i v w hp hB hi hk ho kk
    obtain ⟨k, rfl⟩ : ∃ m, k = m + 1 := ⟨k - 1, by omega⟩
    show f8_b2 j1 _ _ _ _ _ w Q
    unfold f8_b2
    have hc3 := cell_of_blk (n := 3) hp
    have hle : (i : Int) + 1 ≤ T := by omega
    simp only [↓bx_e, ↓al_e, ↓fa_e, ↓ld_e, ↓ad_e, ↓su_e, ↓mu_e, ↓lt_e, ↓le_e, ↓gt_e, ↓ge_e, ↓eqi_e, ↓nei_e, ↓qu_e, ↓re_e, ↓cv_e, ↓nt_e, ↓pk_t, ↓pk_f, ↓pk_e, ↓eqb_e, ↓neb_e, ↓nc_e, ↓ex_e, ↓lnl_e, ↓lns_e, ↓idv_e, ↓cl_e, ↓cnd_e, ↓gd_e, ↓gd_u, ↓gdu_e, ↓rt_e, ↓jn_e, ↓dr_q, ↓kp_e, ↓mnm_e, ↓mxm_e, ↓mif_e, ↓asrt_e, ↓eqs_e, ↓nes_e, Value.cells, add_lit, cell_psh_new, cell_drw, Nat.zero_add, Nat.reduceAdd, get4_0, get4_1, get4_2, get4_3, get3_0, get3_1, get3_2, get2_0, get2_1, get1_0, Option.some.injEq, exists_eq_left', decide_true, decide_false, decide_eq_true_eq, if_true, if_false, Bool.not_true, Bool.not_false, Bool.false_eq_true, Bool.true_eq_false, Bool.not_eq_true', decide_eq_false_iff_not, not_false_eq_true, not_true_eq_false, reduceCtorEq, bx_e, al_e, fa_e, ld_e, ad_e, su_e, mu_e, lt_e, le_e, gt_e, ge_e, eqi_e, nei_e, qu_e, re_e, cv_e, nt_e, pk_t, pk_f, pk_e, eqb_e, neb_e, nc_e, ex_e, lnl_e, lns_e, idv_e, cl_e, cnd_e, gd_e, gd_u, gdu_e, rt_e, jn_e, dr_q, kp_e, mnm_e, mxm_e, mif_e, asrt_e, eqs_e, nes_e, cond_true, cond_false, Bool.true_and, Bool.and_true, Bool.false_and, Bool.and_false, decide_not, hc3, planC, hle]
    refine ldn_box hp rfl ?_
    rw [cl_e]
    refine f16_s F M Fa T _ _ _ fun w1 hb1 => ?_
    have hB1 : B ≤ w1.heap.size := Nat.le_trans hB hb1.size
    have hbB1 : Below B w w1 := hb1.mono hB
    have hp1 : w1.heap[p]? = some (.cells (planC F M Fa T) 23 fr) := by rw [hbB1.block p hpB]; exact hp
    have hil : i < (waitsL F M Fa T).length := by omega
    have hw := waits_get hR (n := (i : Int) + 1) (by omega) (by omega) (by omega)
    have hi2 : ((i : Int) + 1).toNat - 1 = i := by omega
    simp only [hi2] at hw
    have h2 : (refWait F M Fa T ((i : Int) + 1)).2 = true := by
      have : (1 : Int) ≤ (i : Int) + 1 := by omega
      simp [refWait, hR, this, hle]
    rw [h2, ← hw]
    simp only [↓bx_e, ↓al_e, ↓fa_e, ↓ld_e, ↓ad_e, ↓su_e, ↓mu_e, ↓lt_e, ↓le_e, ↓gt_e, ↓ge_e, ↓eqi_e, ↓nei_e, ↓qu_e, ↓re_e, ↓cv_e, ↓nt_e, ↓pk_t, ↓pk_f, ↓pk_e, ↓eqb_e, ↓neb_e, ↓nc_e, ↓ex_e, ↓lnl_e, ↓lns_e, ↓idv_e, ↓cl_e, ↓cnd_e, ↓gd_e, ↓gd_u, ↓gdu_e, ↓rt_e, ↓jn_e, ↓dr_q, ↓kp_e, ↓mnm_e, ↓mxm_e, ↓mif_e, ↓asrt_e, ↓eqs_e, ↓nes_e, Value.cells, add_lit, cell_psh_new, cell_drw, Nat.zero_add, Nat.reduceAdd, get4_0, get4_1, get4_2, get4_3, get3_0, get3_1, get3_2, get2_0, get2_1, get1_0, Option.some.injEq, exists_eq_left', decide_true, decide_false, decide_eq_true_eq, if_true, if_false, Bool.not_true, Bool.not_false, Bool.false_eq_true, Bool.true_eq_false, Bool.not_eq_true', decide_eq_false_iff_not, not_false_eq_true, not_true_eq_false, reduceCtorEq, bx_e, al_e, fa_e, ld_e, ad_e, su_e, mu_e, lt_e, le_e, gt_e, ge_e, eqi_e, nei_e, qu_e, re_e, cv_e, nt_e, pk_t, pk_f, pk_e, eqb_e, neb_e, nc_e, ex_e, lnl_e, lns_e, idv_e, cl_e, cnd_e, gd_e, gd_u, gdu_e, rt_e, jn_e, dr_q, kp_e, mnm_e, mxm_e, mif_e, asrt_e, eqs_e, nes_e, cond_true, cond_false, Bool.true_and, Bool.and_true, Bool.false_and, Bool.and_false, decide_not]
    rw [w64_u]
    refine bsl1 slt25 rfl rfl ?_
    have ho1 := ownI_below ho hb1
    have ho2 := ownI_psh ho1 (.cells #[.int .i64 (IntKind.i64.wrap (sumW ((waitsL F M Fa T).take i) a + (waitsL F M Fa T)[i]))] 2)
    have hlen : (tmL ((waitsL F M Fa T).take i) a).length ≤ 64 := by
      rw [tmL_len]; have := List.length_take_le i (waitsL F M Fa T); have := waits_len F M Fa T; omega
    refine ap_own (m := 1) (news := [.int .i64 (IntKind.i64.wrap (sumW ((waitsL F M Fa T).take i) a + (waitsL F M Fa T)[i]))]) slt25 rfl (by decide) ho2 rfl ?_ (by simp [Value.oneCell']) (by unfold maxLen; omega) (by omega) (by rw [size_psh]; omega) ?_
    · intro j u hj
      rw [add_lit, Nat.zero_add, cell_psh_new]
      simpa using hj
    · intro v' w' ho' hg
      have hb2 : Below B w1 w' := Below_grown (Below_psh (Below.refl _ _) hB1) ho2 (by rw [size_psh]; omega) hg
      have hp' : w'.heap[p]? = some (.cells (planC F M Fa T) 23 fr) := by rw [hb2.block p hpB]; exact hp1
      have hw1 : IntKind.i64.wrap ((i : Int) + 1 + 1) = (((i + 1 : Nat) : Int) + 1) := by rw [w64 (by omega) (by omega)]; simp
      have htake : (waitsL F M Fa T).take (i + 1) = (waitsL F M Fa T).take i ++ [(waitsL F M Fa T)[i]] := by rw [List.take_succ_eq_append_getElem hil]
      simp only [↓bx_e, ↓al_e, ↓fa_e, ↓ld_e, ↓ad_e, ↓su_e, ↓mu_e, ↓lt_e, ↓le_e, ↓gt_e, ↓ge_e, ↓eqi_e, ↓nei_e, ↓qu_e, ↓re_e, ↓cv_e, ↓nt_e, ↓pk_t, ↓pk_f, ↓pk_e, ↓eqb_e, ↓neb_e, ↓nc_e, ↓ex_e, ↓lnl_e, ↓lns_e, ↓idv_e, ↓cl_e, ↓cnd_e, ↓gd_e, ↓gd_u, ↓gdu_e, ↓rt_e, ↓jn_e, ↓dr_q, ↓kp_e, ↓mnm_e, ↓mxm_e, ↓mif_e, ↓asrt_e, ↓eqs_e, ↓nes_e, Value.cells, add_lit, cell_psh_new, cell_drw, Nat.zero_add, Nat.reduceAdd, get4_0, get4_1, get4_2, get4_3, get3_0, get3_1, get3_2, get2_0, get2_1, get1_0, Option.some.injEq, exists_eq_left', decide_true, decide_false, decide_eq_true_eq, if_true, if_false, Bool.not_true, Bool.not_false, Bool.false_eq_true, Bool.true_eq_false, Bool.not_eq_true', decide_eq_false_iff_not, not_false_eq_true, not_true_eq_false, reduceCtorEq, bx_e, al_e, fa_e, ld_e, ad_e, su_e, mu_e, lt_e, le_e, gt_e, ge_e, eqi_e, nei_e, qu_e, re_e, cv_e, nt_e, pk_t, pk_f, pk_e, eqb_e, neb_e, nc_e, ex_e, lnl_e, lns_e, idv_e, cl_e, cnd_e, gd_e, gd_u, gdu_e, rt_e, jn_e, dr_q, kp_e, mnm_e, mxm_e, mif_e, asrt_e, eqs_e, nes_e, cond_true, cond_false, Bool.true_and, Bool.and_true, Bool.false_and, Bool.and_false, decide_not, hw1]
      have hs : IntKind.i64.wrap (sumW ((waitsL F M Fa T).take i) a + (waitsL F M Fa T)[i]) = sumW ((waitsL F M Fa T).take (i + 1)) a := by rw [htake, sumW_snoc]
      rw [hs]
      refine ih k (i + 1) v' w' hp' (Nat.le_trans hB1 hb2.size) (by omega) (by omega) ?_ ?_
      · have e : tmL ((waitsL F M Fa T).take (i + 1)) a = tmL ((waitsL F M Fa T).take i) a ++ [sumW ((waitsL F M Fa T).take (i + 1)) a] := by rw [htake, tmL_snoc, sumW_snoc]
        rw [e]
        unfold ownI
        rw [hs] at ho'
        simpa using ho'
      · intro v2 w2 o2 b2
        exact kk v2 w2 o2 (hbB1.trans (hb2.trans b2))

theorem own_weak {B B' : Nat} {e : TypeId} {k : IntKind} {w : World} {v : Value} {l : List Int} (h : ownI B e k w v l) (hB : B' ≤ B) : ownI B' e k w v l := by
  obtain ⟨o1, o2⟩ := h
  refine ⟨o1, o2.imp id ?_⟩
  rintro ⟨g, cap, cur, q1, q2, q3⟩
  exact ⟨g, cap, cur, q1, by omega, q3⟩

theorem f8_s (F M Fa T a : Int) (w : World) (Q : Value → World → Prop) (h : ∀ v w', ownI w.heap.size 2 .i64 w' v (tmL (waitsL F M Fa T) a) → Below w.heap.size w w' → Q v w') : f8 (planV F M Fa T) (.int .i64 a) w Q := by
  unfold f8
  have hbx : Below w.heap.size w (psh w (.cells (planC F M Fa T) 23)) := Below_psh (Below.refl _ w) (Nat.le_refl _)
  simp only [↓bx_e]
  rw [jn_e, show (planV F M Fa T).cells = planC F M Fa T from rfl]
  cases hR : rightB F M Fa T with
  | true =>
    refine ⟨_, rtimes_loop (a := a) _ hR (B := w.heap.size + 1) (p := w.heap.size) (by omega) (waitsL F M Fa T).length _ 0 (.slice none 0 0) _ blk_psh_new (by rw [size_psh]; omega) (by omega) (Nat.lt_succ_self _) ownI_nil ?_⟩
    intro v' w' ho hb
    unfold f8_j1
    rw [rt_e]
    exact h _ _ (own_weak ho (by omega)) (hbx.trans (hb.mono (by omega)))
  | false =>
    have hnil : waitsL F M Fa T = [] := by simp [waitsL, hR]
    rw [hnil] at h
    refine ⟨1, ?_⟩
    show f8_b2 _ _ _ _ _ _ _ Q
    unfold f8_b2
    have hc3 := cell_of_blk (n := 3) (blk_psh_new (w := w) (o := .cells (planC F M Fa T) 23))
    by_cases c : 1 ≤ T
    · simp only [↓bx_e, ↓al_e, ↓fa_e, ↓ld_e, ↓ad_e, ↓su_e, ↓mu_e, ↓lt_e, ↓le_e, ↓gt_e, ↓ge_e, ↓eqi_e, ↓nei_e, ↓qu_e, ↓re_e, ↓cv_e, ↓nt_e, ↓pk_t, ↓pk_f, ↓pk_e, ↓eqb_e, ↓neb_e, ↓nc_e, ↓ex_e, ↓lnl_e, ↓lns_e, ↓idv_e, ↓cl_e, ↓cnd_e, ↓gd_e, ↓gd_u, ↓gdu_e, ↓rt_e, ↓jn_e, ↓dr_q, ↓kp_e, ↓mnm_e, ↓mxm_e, ↓mif_e, ↓asrt_e, ↓eqs_e, ↓nes_e, Value.cells, add_lit, cell_psh_new, cell_drw, Nat.zero_add, Nat.reduceAdd, get4_0, get4_1, get4_2, get4_3, get3_0, get3_1, get3_2, get2_0, get2_1, get1_0, Option.some.injEq, exists_eq_left', decide_true, decide_false, decide_eq_true_eq, if_true, if_false, Bool.not_true, Bool.not_false, Bool.false_eq_true, Bool.true_eq_false, Bool.not_eq_true', decide_eq_false_iff_not, not_false_eq_true, not_true_eq_false, reduceCtorEq, bx_e, al_e, fa_e, ld_e, ad_e, su_e, mu_e, lt_e, le_e, gt_e, ge_e, eqi_e, nei_e, qu_e, re_e, cv_e, nt_e, pk_t, pk_f, pk_e, eqb_e, neb_e, nc_e, ex_e, lnl_e, lns_e, idv_e, cl_e, cnd_e, gd_e, gd_u, gdu_e, rt_e, jn_e, dr_q, kp_e, mnm_e, mxm_e, mif_e, asrt_e, eqs_e, nes_e, cond_true, cond_false, Bool.true_and, Bool.and_true, Bool.false_and, Bool.and_false, decide_not, hc3, planC, c]
      refine ldn_box (c := planC F M Fa T) blk_psh_new rfl ?_
      rw [cl_e]
      refine f16_s F M Fa T _ _ _ fun w1 hb1 => ?_
      have h2 : (refWait F M Fa T 1).2 = false := by simp [refWait, hR]
      rw [h2]
      simp only [↓bx_e, ↓al_e, ↓fa_e, ↓ld_e, ↓ad_e, ↓su_e, ↓mu_e, ↓lt_e, ↓le_e, ↓gt_e, ↓ge_e, ↓eqi_e, ↓nei_e, ↓qu_e, ↓re_e, ↓cv_e, ↓nt_e, ↓pk_t, ↓pk_f, ↓pk_e, ↓eqb_e, ↓neb_e, ↓nc_e, ↓ex_e, ↓lnl_e, ↓lns_e, ↓idv_e, ↓cl_e, ↓cnd_e, ↓gd_e, ↓gd_u, ↓gdu_e, ↓rt_e, ↓jn_e, ↓dr_q, ↓kp_e, ↓mnm_e, ↓mxm_e, ↓mif_e, ↓asrt_e, ↓eqs_e, ↓nes_e, Value.cells, add_lit, cell_psh_new, cell_drw, Nat.zero_add, Nat.reduceAdd, get4_0, get4_1, get4_2, get4_3, get3_0, get3_1, get3_2, get2_0, get2_1, get1_0, Option.some.injEq, exists_eq_left', decide_true, decide_false, decide_eq_true_eq, if_true, if_false, Bool.not_true, Bool.not_false, Bool.false_eq_true, Bool.true_eq_false, Bool.not_eq_true', decide_eq_false_iff_not, not_false_eq_true, not_true_eq_false, reduceCtorEq, bx_e, al_e, fa_e, ld_e, ad_e, su_e, mu_e, lt_e, le_e, gt_e, ge_e, eqi_e, nei_e, qu_e, re_e, cv_e, nt_e, pk_t, pk_f, pk_e, eqb_e, neb_e, nc_e, ex_e, lnl_e, lns_e, idv_e, cl_e, cnd_e, gd_e, gd_u, gdu_e, rt_e, jn_e, dr_q, kp_e, mnm_e, mxm_e, mif_e, asrt_e, eqs_e, nes_e, cond_true, cond_false, Bool.true_and, Bool.and_true, Bool.false_and, Bool.and_false, decide_not]
      exact h _ _ ownI_nil (hbx.trans (hb1.mono (by rw [size_psh]; omega)))
    · simp only [↓bx_e, ↓al_e, ↓fa_e, ↓ld_e, ↓ad_e, ↓su_e, ↓mu_e, ↓lt_e, ↓le_e, ↓gt_e, ↓ge_e, ↓eqi_e, ↓nei_e, ↓qu_e, ↓re_e, ↓cv_e, ↓nt_e, ↓pk_t, ↓pk_f, ↓pk_e, ↓eqb_e, ↓neb_e, ↓nc_e, ↓ex_e, ↓lnl_e, ↓lns_e, ↓idv_e, ↓cl_e, ↓cnd_e, ↓gd_e, ↓gd_u, ↓gdu_e, ↓rt_e, ↓jn_e, ↓dr_q, ↓kp_e, ↓mnm_e, ↓mxm_e, ↓mif_e, ↓asrt_e, ↓eqs_e, ↓nes_e, Value.cells, add_lit, cell_psh_new, cell_drw, Nat.zero_add, Nat.reduceAdd, get4_0, get4_1, get4_2, get4_3, get3_0, get3_1, get3_2, get2_0, get2_1, get1_0, Option.some.injEq, exists_eq_left', decide_true, decide_false, decide_eq_true_eq, if_true, if_false, Bool.not_true, Bool.not_false, Bool.false_eq_true, Bool.true_eq_false, Bool.not_eq_true', decide_eq_false_iff_not, not_false_eq_true, not_true_eq_false, reduceCtorEq, bx_e, al_e, fa_e, ld_e, ad_e, su_e, mu_e, lt_e, le_e, gt_e, ge_e, eqi_e, nei_e, qu_e, re_e, cv_e, nt_e, pk_t, pk_f, pk_e, eqb_e, neb_e, nc_e, ex_e, lnl_e, lns_e, idv_e, cl_e, cnd_e, gd_e, gd_u, gdu_e, rt_e, jn_e, dr_q, kp_e, mnm_e, mxm_e, mif_e, asrt_e, eqs_e, nes_e, cond_true, cond_false, Bool.true_and, Bool.and_true, Bool.false_and, Bool.and_false, decide_not, hc3, planC, c]
      unfold f8_j1
      rw [rt_e]
      exact h _ _ ownI_nil hbx
end Go.Proofs.Ytoeimnflikbdbaa
