/- Where: rows between two values; RelateParts. -/
import Derived.Test.YtlmiimojgledpaaR12
set_option maxRecDepth 20000
set_option linter.unusedVariables false
set_option linter.unusedSimpArgs false
set_option linter.unusedSectionVars false
namespace Go.Proofs.Ytlmiimojgledpaa
open Sh RowKit Go.MapKept
theorem en34 : ∀ args w, (callFunc 34 args).run Try.prog w = .ok (.enter 34 args) w := enters_of Try.func34 (by kernel_rfl) rfl
section
variable {W w w' : World} {Q : Value → World → Prop}
theorem f18_s {v lov hiv : Value} {l : List Row} {lo hi : Row} {c : Int} (h : rdL w v l) (hlo : rdR w lov lo) (hhi : rdR w hiv hi) (hl : l.length ≤ 100000) (hsz : ∀ r ∈ l, r.length * 32 ≤ 140737488355328)
    (k7 : l.any (lacksB c) = true → ∀ w', Below w.heap.size w w' → Q (.tuple #[.slice none 0 0, .int .i64 7]) w')
    (k0 : l.any (lacksB c) = false → ∀ w' u, Below w.heap.size w w' → rdL w' u (l.filter (whB lo hi c.toNat)) → Q (.tuple #[u, .int .i64 0]) w') : f18 v (.int .i64 c) lov hiv w Q := by
  unfold f18
  obtain ⟨p1, c1, e1⟩ := rdS_len hlo
  obtain ⟨p2, c2, e2⟩ := rdS_len hhi
  have b1 := b_psh w (.cells (Value.int .i64 c).cells 3)
  have blk1 := blk_psh_new (w := w) (o := .cells (Value.int .i64 c).cells 3)
  rw [bx_e]
  generalize psh w (.cells (Value.int .i64 c).cells 3) = w1 at *
  have b2 := b_psh w1 (.cells lov.cells 32)
  have blk2 := blk_psh_new (w := w1) (o := .cells lov.cells 32)
  rw [bx_e]
  have blk1 := stay b2 blk1
  generalize psh w1 (.cells lov.cells 32) = w2 at *
  have b3 := b_psh w2 (.cells hiv.cells 32)
  have blk3 := blk_psh_new (w := w2) (o := .cells hiv.cells 32)
  rw [bx_e]
  have blk1 := stay b3 blk1
  have blk2 := stay b3 blk2
  generalize psh w2 (.cells hiv.cells 32) = w3 at *
  have b03 := bt (bt b1 b2) b3
  have q1 : w3.cell? ⟨w.heap.size, 0, none⟩ = some (.int .i64 c) := by rw [cell_of_blk blk1]; rfl
  simp only [↓reduceIte, ↓bx_e, ↓al_e, ↓fa_e, ↓ld_e, ↓ad_e, ↓su_e, ↓mu_e, ↓lt_e, ↓le_e, ↓gt_e, ↓ge_e, ↓eqi_e, ↓nei_e, ↓qu_e, ↓re_e, ↓cv_e, ↓nt_e, ↓pk_t, ↓pk_f, ↓pk_e, ↓eqb_e, ↓neb_e, ↓nc_e, ↓ex_e, ↓lnl_e, ↓lns_e, ↓idv_e, ↓cl_e, ↓cnd_e, ↓gd_e, ↓gd_u, ↓gdu_e, ↓rt_e, ↓jn_e, ↓dr_q, ↓kp_e, ↓mnm_e, ↓mxm_e, ↓mif_e, ↓asrt_e, ↓eqs_e, ↓nes_e, Value.cells, add_lit, cell_psh_new, cell_drw, Nat.zero_add, Nat.reduceAdd, get4_0, get4_1, get4_2, get4_3, get3_0, get3_1, get3_2, get2_0, get2_1, get1_0, Option.some.injEq, exists_eq_left', decide_true, decide_false, decide_eq_true_eq, if_true, if_false, Bool.not_true, Bool.not_false, Bool.false_eq_true, Bool.true_eq_false, Bool.not_eq_true', decide_eq_false_iff_not, not_false_eq_true, not_true_eq_false, reduceCtorEq, bx_e, al_e, fa_e, ld_e, ad_e, su_e, mu_e, lt_e, le_e, gt_e, ge_e, eqi_e, nei_e, qu_e, re_e, cv_e, nt_e, pk_t, pk_f, pk_e, eqb_e, neb_e, nc_e, ex_e, lnl_e, lns_e, idv_e, cl_e, cnd_e, gd_e, gd_u, gdu_e, rt_e, jn_e, dr_q, kp_e, mnm_e, mxm_e, mif_e, asrt_e, eqs_e, nes_e, cond_true, cond_false, Bool.true_and, Bool.and_true, Bool.false_and, Bool.and_false, decide_not, q1]
  refine f26_s (rdL_b b03 h) (by omega) c fun w4 b4 => ?_
  have b04 := bt b03 b4
  have blk1 := stay b4 blk1
  have blk2 := stay b4 blk2
  have blk3 := stay b4 blk3
  by_cases hany : l.any (lacksB c) = true
  · simp only [↓reduceIte, ↓bx_e, ↓al_e, ↓fa_e, ↓ld_e, ↓ad_e, ↓su_e, ↓mu_e, ↓lt_e, ↓le_e, ↓gt_e, ↓ge_e, ↓eqi_e, ↓nei_e, ↓qu_e, ↓re_e, ↓cv_e, ↓nt_e, ↓pk_t, ↓pk_f, ↓pk_e, ↓eqb_e, ↓neb_e, ↓nc_e, ↓ex_e, ↓lnl_e, ↓lns_e, ↓idv_e, ↓cl_e, ↓cnd_e, ↓gd_e, ↓gd_u, ↓gdu_e, ↓rt_e, ↓jn_e, ↓dr_q, ↓kp_e, ↓mnm_e, ↓mxm_e, ↓mif_e, ↓asrt_e, ↓eqs_e, ↓nes_e, Value.cells, add_lit, cell_psh_new, cell_drw, Nat.zero_add, Nat.reduceAdd, get4_0, get4_1, get4_2, get4_3, get3_0, get3_1, get3_2, get2_0, get2_1, get1_0, Option.some.injEq, exists_eq_left', decide_true, decide_false, decide_eq_true_eq, if_true, if_false, Bool.not_true, Bool.not_false, Bool.false_eq_true, Bool.true_eq_false, Bool.not_eq_true', decide_eq_false_iff_not, not_false_eq_true, not_true_eq_false, reduceCtorEq, bx_e, al_e, fa_e, ld_e, ad_e, su_e, mu_e, lt_e, le_e, gt_e, ge_e, eqi_e, nei_e, qu_e, re_e, cv_e, nt_e, pk_t, pk_f, pk_e, eqb_e, neb_e, nc_e, ex_e, lnl_e, lns_e, idv_e, cl_e, cnd_e, gd_e, gd_u, gdu_e, rt_e, jn_e, dr_q, kp_e, mnm_e, mxm_e, mif_e, asrt_e, eqs_e, nes_e, cond_true, cond_false, Bool.true_and, Bool.and_true, Bool.false_and, Bool.and_false, decide_not, hany]
    exact k7 hany w4 b04
  · have hanf : l.any (lacksB c) = false := Bool.eq_false_iff.2 hany
    simp only [↓reduceIte, ↓bx_e, ↓al_e, ↓fa_e, ↓ld_e, ↓ad_e, ↓su_e, ↓mu_e, ↓lt_e, ↓le_e, ↓gt_e, ↓ge_e, ↓eqi_e, ↓nei_e, ↓qu_e, ↓re_e, ↓cv_e, ↓nt_e, ↓pk_t, ↓pk_f, ↓pk_e, ↓eqb_e, ↓neb_e, ↓nc_e, ↓ex_e, ↓lnl_e, ↓lns_e, ↓idv_e, ↓cl_e, ↓cnd_e, ↓gd_e, ↓gd_u, ↓gdu_e, ↓rt_e, ↓jn_e, ↓dr_q, ↓kp_e, ↓mnm_e, ↓mxm_e, ↓mif_e, ↓asrt_e, ↓eqs_e, ↓nes_e, Value.cells, add_lit, cell_psh_new, cell_drw, Nat.zero_add, Nat.reduceAdd, get4_0, get4_1, get4_2, get4_3, get3_0, get3_1, get3_2, get2_0, get2_1, get1_0, Option.some.injEq, exists_eq_left', decide_true, decide_false, decide_eq_true_eq, if_true, if_false, Bool.not_true, Bool.not_false, Bool.false_eq_true, Bool.true_eq_false, Bool.not_eq_true', decide_eq_false_iff_not, not_false_eq_true, not_true_eq_false, reduceCtorEq, bx_e, al_e, fa_e, ld_e, ad_e, su_e, mu_e, lt_e, le_e, gt_e, ge_e, eqi_e, nei_e, qu_e, re_e, cv_e, nt_e, pk_t, pk_f, pk_e, eqb_e, neb_e, nc_e, ex_e, lnl_e, lns_e, idv_e, cl_e, cnd_e, gd_e, gd_u, gdu_e, rt_e, jn_e, dr_q, kp_e, mnm_e, mxm_e, mif_e, asrt_e, eqs_e, nes_e, cond_true, cond_false, Bool.true_and, Bool.and_true, Bool.false_and, Bool.and_false, decide_not, hanf]
    refine f32_sC (rdL_b b04 h) (pr := whB lo hi c.toNat) (ok := fun r => 0 ≤ c ∧ c < r.length) ?_ hl hsz (not_lacks hanf) fun w5 u b5 o5 => ?_
    · intro rv r w6 K Q b6 hr hok k
      refine cf_p en34 ?_
      refine s34 rv (.pointer (some ⟨w1.heap.size, 0, none⟩)) (.pointer (some ⟨w.heap.size, 0, none⟩)) (.pointer (some ⟨w2.heap.size, 0, none⟩)) w6 _ ?_
      refine f34_s hr (rdR_b (bt b04 b6) hlo) (rdR_b (bt b04 b6) hhi) hok (fun w7 b7 => ?_) k
      have s1 := stay b7 (stay b6 blk1)
      have s2 := stay b7 (stay b6 blk2)
      have s3 := stay b7 (stay b6 blk3)
      refine ⟨?_, ?_, ?_⟩
      · rw [cell_of_blk s2, e1]; rfl
      · rw [cell_of_blk s1]; rfl
      · rw [cell_of_blk s3, e2]; rfl
    · try simp only [↓reduceIte, ↓bx_e, ↓al_e, ↓fa_e, ↓ld_e, ↓ad_e, ↓su_e, ↓mu_e, ↓lt_e, ↓le_e, ↓gt_e, ↓ge_e, ↓eqi_e, ↓nei_e, ↓qu_e, ↓re_e, ↓cv_e, ↓nt_e, ↓pk_t, ↓pk_f, ↓pk_e, ↓eqb_e, ↓neb_e, ↓nc_e, ↓ex_e, ↓lnl_e, ↓lns_e, ↓idv_e, ↓cl_e, ↓cnd_e, ↓gd_e, ↓gd_u, ↓gdu_e, ↓rt_e, ↓jn_e, ↓dr_q, ↓kp_e, ↓mnm_e, ↓mxm_e, ↓mif_e, ↓asrt_e, ↓eqs_e, ↓nes_e, Value.cells, add_lit, cell_psh_new, cell_drw, Nat.zero_add, Nat.reduceAdd, get4_0, get4_1, get4_2, get4_3, get3_0, get3_1, get3_2, get2_0, get2_1, get1_0, Option.some.injEq, exists_eq_left', decide_true, decide_false, decide_eq_true_eq, if_true, if_false, Bool.not_true, Bool.not_false, Bool.false_eq_true, Bool.true_eq_false, Bool.not_eq_true', decide_eq_false_iff_not, not_false_eq_true, not_true_eq_false, reduceCtorEq, bx_e, al_e, fa_e, ld_e, ad_e, su_e, mu_e, lt_e, le_e, gt_e, ge_e, eqi_e, nei_e, qu_e, re_e, cv_e, nt_e, pk_t, pk_f, pk_e, eqb_e, neb_e, nc_e, ex_e, lnl_e, lns_e, idv_e, cl_e, cnd_e, gd_e, gd_u, gdu_e, rt_e, jn_e, dr_q, kp_e, mnm_e, mxm_e, mif_e, asrt_e, eqs_e, nes_e, cond_true, cond_false, Bool.true_and, Bool.and_true, Bool.false_and, Bool.and_false, decide_not]
      exact k0 hanf w5 u (bt b04 b5) (o5.rd b5)
end
end Go.Proofs.Ytlmiimojgledpaa
