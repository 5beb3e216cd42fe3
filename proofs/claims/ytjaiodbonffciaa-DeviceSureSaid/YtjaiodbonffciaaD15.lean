/- DeviceStops at the level of predicate transformers. -/
import Derived.Test.YtjaiodbonffciaaD14
set_option linter.unusedVariables false
set_option linter.unusedSimpArgs false
set_option linter.unusedSectionVars false
namespace Go.Proofs.Ytjaiodbonffciaa
open Sh RowKit Go.MapKept
theorem wr_9 (D : Dv) (i : Int) (s : ByteArray) : ((D.wr i s).1 = 9 ↔ D.h < D.c + 1) ∧ (D.h < D.c + 1 → (D.wr i s).2.A = D.A) := by
  unfold Dv.wr
  by_cases c : D.h < D.c + 1
  · rw [if_pos c]; exact ⟨by simp [c], fun _ => rfl⟩
  · rw [if_neg c]
    refine ⟨?_, fun h => absurd h c⟩
    cases D.at i with
    | none => simp [c]
    | some x =>
      simp only
      by_cases hs : 64 < s.size
      · rw [if_pos hs]; simp [c]
      · rw [if_neg hs]; simp [c]
theorem op_9 (D : Dv) (o : Op4) (h : kdO o ≤ 1) : ((D.op o).1 = 9 ↔ D.h < D.c + 1) ∧ (D.op o).2.c = D.c + 1 ∧ (D.op o).2.h = D.h ∧ (D.h < D.c + 1 → (D.op o).2.A = D.A) := by
  unfold Dv.op
  by_cases c : kdO o = 0
  · rw [if_pos c]
    exact ⟨(wr_9 D _ _).1, (wr_A D _ _).1, (wr_A D _ _).2.1, (wr_9 D _ _).2⟩
  · rw [if_neg c, if_pos (by omega)]
    refine ⟨?_, (sync_A D).1, (sync_A D).2.1, ?_⟩
    · unfold Dv.sync
      by_cases c : D.h < D.c + 1
      · rw [if_pos c]; simp [c]
      · rw [if_neg c]; simp [c]
    · intro hc
      unfold Dv.sync
      rw [if_pos hc]; rfl
theorem rd_A {D D' : Dv} (h : D'.A = D.A) (i : Int) : D'.rd i = D.rd i := by unfold Dv.rd Dv.at; rw [h]
theorem rdsV_A {D D' : Dv} (h : D'.A = D.A) (k : Nat) : rdsV D' k = rdsV D k := by unfold rdsV; simp only [rd_A h]
section
variable {B : Nat} {W w w' w0 : World} {p b q : Nat} {v u : Value} {D : Dv} {Q : Value → World → Prop}
theorem f7_in {B1 B2 : Nat} {y z : Value} {xs : List Value} {e : Int} {a0 a1 a2 a4 : Value} (j6 : Value → Value → Value → Value → Value → M) (hy : ownV B1 9 W y xs) (hz : ownV B2 9 W z (rdsV D 8)) (he : e = 9 → xs ≠ [] → xs = rdsV D 8) :
    ∀ (d m k : Nat) (w : World), k + d = 8 → d < m → Below W.heap.size W w → (∀ w', Below W.heap.size W w' → j6 a0 a1 a2 a4 z w' Q) →
    itr (fun _ _ _ _ _ _ _ _ => bot) (f7_b7 j6) m a0 a1 a2 y a4 (.int .i64 e) z (.int .i64 (k : Int)) w Q := by
  intro d
  induction d with
  | zero =>
    intro m k w hk hm hb kk
    obtain ⟨m, rfl⟩ : ∃ x, m = x + 1 := ⟨m - 1, by omega⟩
    show f7_b7 j6 _ _ _ _ _ _ _ _ _ w Q
    unfold f7_b7
    obtain rfl : k = 8 := by omega
    have c : ¬ (((8 : Nat) : Int) < 8) := by omega
    try simp only [↓bx_e, ↓al_e, ↓fa_e, ↓ld_e, ↓ad_e, ↓su_e, ↓mu_e, ↓lt_e, ↓le_e, ↓gt_e, ↓ge_e, ↓eqi_e, ↓nei_e, ↓qu_e, ↓re_e, ↓cv_e, ↓nt_e, ↓pk_t, ↓pk_f, ↓pk_e, ↓eqb_e, ↓neb_e, ↓nc_e, ↓ex_e, ↓lnl_e, ↓lns_e, ↓idv_e, ↓cl_e, ↓cnd_e, ↓gd_e, ↓gd_u, ↓gdu_e, ↓rt_e, ↓jn_e, ↓dr_q, ↓kp_e, ↓mnm_e, ↓mxm_e, ↓mif_e, ↓asrt_e, ↓eqs_e, ↓nes_e, Value.cells, add_lit, cell_psh_new, cell_drw, Nat.zero_add, Nat.reduceAdd, get4_0, get4_1, get4_2, get4_3, get3_0, get3_1, get3_2, get2_0, get2_1, get1_0, Option.some.injEq, exists_eq_left', decide_true, decide_false, decide_eq_true_eq, if_true, if_false, Bool.not_true, Bool.not_false, Bool.false_eq_true, Bool.true_eq_false, Bool.not_eq_true', decide_eq_false_iff_not, not_false_eq_true, not_true_eq_false, reduceCtorEq, bx_e, al_e, fa_e, ld_e, ad_e, su_e, mu_e, lt_e, le_e, gt_e, ge_e, eqi_e, nei_e, qu_e, re_e, cv_e, nt_e, pk_t, pk_f, pk_e, eqb_e, neb_e, nc_e, ex_e, lnl_e, lns_e, idv_e, cl_e, cnd_e, gd_e, gd_u, gdu_e, rt_e, jn_e, dr_q, kp_e, mnm_e, mxm_e, mif_e, asrt_e, eqs_e, nes_e, cond_true, cond_false, Bool.true_and, Bool.and_true, Bool.false_and, Bool.and_false, decide_not, c]
    exact kk w hb
  | succ d ih =>
    intro m k w hk hm hb kk
    obtain ⟨m, rfl⟩ : ∃ x, m = x + 1 := ⟨m - 1, by omega⟩
    show f7_b7 j6 _ _ _ _ _ _ _ _ _ w Q
    unfold f7_b7
    have c : (k : Int) < 8 := by omega
    by_cases h9 : e = 9
    · obtain ⟨py, cy, hyl⟩ := ownV_len hy
      have hlnl : ∀ (K : Value → M) (w' : World), lnl y K w' Q = K (.int .i64 (xs.length : Nat)) w' Q := fun K w' => by rw [hyl, lnl_e]
      by_cases hx : xs = []
      · have hl0 : ¬ (0 : Int) < (xs.length : Nat) := by rw [hx]; simp
        try simp only [↓bx_e, ↓al_e, ↓fa_e, ↓ld_e, ↓ad_e, ↓su_e, ↓mu_e, ↓lt_e, ↓le_e, ↓gt_e, ↓ge_e, ↓eqi_e, ↓nei_e, ↓qu_e, ↓re_e, ↓cv_e, ↓nt_e, ↓pk_t, ↓pk_f, ↓pk_e, ↓eqb_e, ↓neb_e, ↓nc_e, ↓ex_e, ↓lnl_e, ↓lns_e, ↓idv_e, ↓cl_e, ↓cnd_e, ↓gd_e, ↓gd_u, ↓gdu_e, ↓rt_e, ↓jn_e, ↓dr_q, ↓kp_e, ↓mnm_e, ↓mxm_e, ↓mif_e, ↓asrt_e, ↓eqs_e, ↓nes_e, Value.cells, add_lit, cell_psh_new, cell_drw, Nat.zero_add, Nat.reduceAdd, get4_0, get4_1, get4_2, get4_3, get3_0, get3_1, get3_2, get2_0, get2_1, get1_0, Option.some.injEq, exists_eq_left', decide_true, decide_false, decide_eq_true_eq, if_true, if_false, Bool.not_true, Bool.not_false, Bool.false_eq_true, Bool.true_eq_false, Bool.not_eq_true', decide_eq_false_iff_not, not_false_eq_true, not_true_eq_false, reduceCtorEq, bx_e, al_e, fa_e, ld_e, ad_e, su_e, mu_e, lt_e, le_e, gt_e, ge_e, eqi_e, nei_e, qu_e, re_e, cv_e, nt_e, pk_t, pk_f, pk_e, eqb_e, neb_e, nc_e, ex_e, lnl_e, lns_e, idv_e, cl_e, cnd_e, gd_e, gd_u, gdu_e, rt_e, jn_e, dr_q, kp_e, mnm_e, mxm_e, mif_e, asrt_e, eqs_e, nes_e, cond_true, cond_false, Bool.true_and, Bool.and_true, Bool.false_and, Bool.and_false, decide_not, c, decide_eq_true h9, hlnl, hl0]
        exact kk w hb
      · have hxe := he h9 hx
        have hl0 : (0 : Int) < (xs.length : Nat) := by rw [hxe, rdsV_len]; omega
        have hne : rdsV D 8 ≠ [] := by intro e; have := congrArg List.length e; rw [rdsV_len] at this; cases this
        obtain ⟨g1, cap1, ey, _, _, _, hc1⟩ := ownV_blk hy hx
        obtain ⟨g2, cap2, ez, _, _, _, hc2⟩ := ownV_blk hz hne
        have k1 := hc1 k (by rw [hxe, rdsV_len]; omega)
        have k2 := hc2 k (by rw [rdsV_len]; omega)
        have k1' : (drw w).cell? ⟨g1, k, none⟩ = some (.string (D.rd (k : Int))) := by
          have := cell_below hb k1
          rw [show xs[k]'(by rw [hxe, rdsV_len]; omega) = .string (D.rd (k : Int)) by simp only [hxe, rdsV_get]] at this
          exact this
        have k2' : (drw w).cell? ⟨g2, k, none⟩ = some (.string (D.rd (k : Int))) := by
          have := cell_below hb k2
          rw [rdsV_get] at this
          exact this
        have hky : k < xs.length := by rw [hxe, rdsV_len]; omega
        have hkz : k < (rdsV D 8).length := by rw [rdsV_len]; omega
        have ia1 : ∀ (K : Value → M) (w' : World), ia 1 y (.int .i64 (k : Int)) K w' Q = K (.pointer (some ⟨g1, k, none⟩)) w' Q := fun K w' => by rw [ey, ia_at hky]
        have ia2 : ∀ (K : Value → M) (w' : World), ia 1 z (.int .i64 (k : Int)) K w' Q = K (.pointer (some ⟨g2, k, none⟩)) w' Q := fun K w' => by rw [ez, ia_at hkz]
        have h3 : IntKind.i64.wrap ((k : Int) + 1) = ((k + 1 : Nat) : Int) := by rw [w64 (by omega) (by omega)]; rfl
        try simp only [↓bx_e, ↓al_e, ↓fa_e, ↓ld_e, ↓ad_e, ↓su_e, ↓mu_e, ↓lt_e, ↓le_e, ↓gt_e, ↓ge_e, ↓eqi_e, ↓nei_e, ↓qu_e, ↓re_e, ↓cv_e, ↓nt_e, ↓pk_t, ↓pk_f, ↓pk_e, ↓eqb_e, ↓neb_e, ↓nc_e, ↓ex_e, ↓lnl_e, ↓lns_e, ↓idv_e, ↓cl_e, ↓cnd_e, ↓gd_e, ↓gd_u, ↓gdu_e, ↓rt_e, ↓jn_e, ↓dr_q, ↓kp_e, ↓mnm_e, ↓mxm_e, ↓mif_e, ↓asrt_e, ↓eqs_e, ↓nes_e, Value.cells, add_lit, cell_psh_new, cell_drw, Nat.zero_add, Nat.reduceAdd, get4_0, get4_1, get4_2, get4_3, get3_0, get3_1, get3_2, get2_0, get2_1, get1_0, Option.some.injEq, exists_eq_left', decide_true, decide_false, decide_eq_true_eq, if_true, if_false, Bool.not_true, Bool.not_false, Bool.false_eq_true, Bool.true_eq_false, Bool.not_eq_true', decide_eq_false_iff_not, not_false_eq_true, not_true_eq_false, reduceCtorEq, bx_e, al_e, fa_e, ld_e, ad_e, su_e, mu_e, lt_e, le_e, gt_e, ge_e, eqi_e, nei_e, qu_e, re_e, cv_e, nt_e, pk_t, pk_f, pk_e, eqb_e, neb_e, nc_e, ex_e, lnl_e, lns_e, idv_e, cl_e, cnd_e, gd_e, gd_u, gdu_e, rt_e, jn_e, dr_q, kp_e, mnm_e, mxm_e, mif_e, asrt_e, eqs_e, nes_e, cond_true, cond_false, Bool.true_and, Bool.and_true, Bool.false_and, Bool.and_false, decide_not, c, decide_eq_true h9, hlnl, hl0, ia1, ia2, k1', k2', ne_eq, h3]
        exact ih m (k + 1) (drw w) (by omega) (by omega) (hb.trans ⟨rfl, rfl, rfl, Nat.le_refl _, fun _ _ => rfl⟩) kk
    · try simp only [↓bx_e, ↓al_e, ↓fa_e, ↓ld_e, ↓ad_e, ↓su_e, ↓mu_e, ↓lt_e, ↓le_e, ↓gt_e, ↓ge_e, ↓eqi_e, ↓nei_e, ↓qu_e, ↓re_e, ↓cv_e, ↓nt_e, ↓pk_t, ↓pk_f, ↓pk_e, ↓eqb_e, ↓neb_e, ↓nc_e, ↓ex_e, ↓lnl_e, ↓lns_e, ↓idv_e, ↓cl_e, ↓cnd_e, ↓gd_e, ↓gd_u, ↓gdu_e, ↓rt_e, ↓jn_e, ↓dr_q, ↓kp_e, ↓mnm_e, ↓mxm_e, ↓mif_e, ↓asrt_e, ↓eqs_e, ↓nes_e, Value.cells, add_lit, cell_psh_new, cell_drw, Nat.zero_add, Nat.reduceAdd, get4_0, get4_1, get4_2, get4_3, get3_0, get3_1, get3_2, get2_0, get2_1, get1_0, Option.some.injEq, exists_eq_left', decide_true, decide_false, decide_eq_true_eq, if_true, if_false, Bool.not_true, Bool.not_false, Bool.false_eq_true, Bool.true_eq_false, Bool.not_eq_true', decide_eq_false_iff_not, not_false_eq_true, not_true_eq_false, reduceCtorEq, bx_e, al_e, fa_e, ld_e, ad_e, su_e, mu_e, lt_e, le_e, gt_e, ge_e, eqi_e, nei_e, qu_e, re_e, cv_e, nt_e, pk_t, pk_f, pk_e, eqb_e, neb_e, nc_e, ex_e, lnl_e, lns_e, idv_e, cl_e, cnd_e, gd_e, gd_u, gdu_e, rt_e, jn_e, dr_q, kp_e, mnm_e, mxm_e, mif_e, asrt_e, eqs_e, nes_e, cond_true, cond_false, Bool.true_and, Bool.and_true, Bool.false_and, Bool.and_false, decide_not, c, decide_eq_false h9]
      exact kk w hb
theorem f7_loop {vs : Value} {l : List Op4} {n : Nat} (hs : rdS 5 oR4 W vs l) (hl : l.length ≤ 300) (hWB : W.heap.size ≤ B) (j1 : Value → M) : ∀ (d m i : Nat) (w : World) (D : Dv) (y : Value) (xs : List Value) (BB : Nat), i + d = l.length → d < m → Below W.heap.size W w →
    DevAt B w p v b D → D.h = n → DI D i → D.A.length = 8 → ownV BB 9 w y xs → (xs = [] ∨ xs = rdsV D 8) →
    (∀ w' D', Below W.heap.size W w' → DevAt B w' p v b D' → DI D' 300 → D'.A.length = 8 → j1 (pv p) w' Q) →
    itr (fun _ _ _ _ _ => bot) (f7_b2 j1) m vs (.int .i64 (n : Int)) (pv p) y (.int .i64 (i : Int)) w Q := by
  intro d
  induction d with
  | zero =>
    intro m i w D y xs BB hi hm hb hd hh hdi hA hy hxs kk
    obtain ⟨m, rfl⟩ : ∃ x, m = x + 1 := ⟨m - 1, by omega⟩
    show f7_b2 j1 _ _ _ _ _ _ w Q
    unfold f7_b2
    refine lnl_S hs ?_
    have c : ¬ (i : Int) < l.length := by omega
    try simp only [↓bx_e, ↓al_e, ↓fa_e, ↓ld_e, ↓ad_e, ↓su_e, ↓mu_e, ↓lt_e, ↓le_e, ↓gt_e, ↓ge_e, ↓eqi_e, ↓nei_e, ↓qu_e, ↓re_e, ↓cv_e, ↓nt_e, ↓pk_t, ↓pk_f, ↓pk_e, ↓eqb_e, ↓neb_e, ↓nc_e, ↓ex_e, ↓lnl_e, ↓lns_e, ↓idv_e, ↓cl_e, ↓cnd_e, ↓gd_e, ↓gd_u, ↓gdu_e, ↓rt_e, ↓jn_e, ↓dr_q, ↓kp_e, ↓mnm_e, ↓mxm_e, ↓mif_e, ↓asrt_e, ↓eqs_e, ↓nes_e, Value.cells, add_lit, cell_psh_new, cell_drw, Nat.zero_add, Nat.reduceAdd, get4_0, get4_1, get4_2, get4_3, get3_0, get3_1, get3_2, get2_0, get2_1, get1_0, Option.some.injEq, exists_eq_left', decide_true, decide_false, decide_eq_true_eq, if_true, if_false, Bool.not_true, Bool.not_false, Bool.false_eq_true, Bool.true_eq_false, Bool.not_eq_true', decide_eq_false_iff_not, not_false_eq_true, not_true_eq_false, reduceCtorEq, bx_e, al_e, fa_e, ld_e, ad_e, su_e, mu_e, lt_e, le_e, gt_e, ge_e, eqi_e, nei_e, qu_e, re_e, cv_e, nt_e, pk_t, pk_f, pk_e, eqb_e, neb_e, nc_e, ex_e, lnl_e, lns_e, idv_e, cl_e, cnd_e, gd_e, gd_u, gdu_e, rt_e, jn_e, dr_q, kp_e, mnm_e, mxm_e, mif_e, asrt_e, eqs_e, nes_e, cond_true, cond_false, Bool.true_and, Bool.and_true, Bool.false_and, Bool.and_false, decide_not, c]
    exact kk w D hb hd (hdi.mono (by omega)) hA
  | succ d ih =>
    intro m i w D y xs BB hi hm hb hd hh hdi hA hy hxs kk
    obtain ⟨m, rfl⟩ : ∃ x, m = x + 1 := ⟨m - 1, by omega⟩
    show f7_b2 j1 _ _ _ _ _ _ w Q
    unfold f7_b2
    refine lnl_S hs ?_
    have hil : i < l.length := by omega
    have c : (i : Int) < l.length := by omega
    obtain ⟨ad, hc, hk, hia⟩ := op_at hs hil
    have h3 : IntKind.i64.wrap ((i : Int) + 1) = ((i + 1 : Nat) : Int) := by rw [w64 (by omega) (by omega)]; rfl
    try simp only [↓bx_e, ↓al_e, ↓fa_e, ↓ld_e, ↓ad_e, ↓su_e, ↓mu_e, ↓lt_e, ↓le_e, ↓gt_e, ↓ge_e, ↓eqi_e, ↓nei_e, ↓qu_e, ↓re_e, ↓cv_e, ↓nt_e, ↓pk_t, ↓pk_f, ↓pk_e, ↓eqb_e, ↓neb_e, ↓nc_e, ↓ex_e, ↓lnl_e, ↓lns_e, ↓idv_e, ↓cl_e, ↓cnd_e, ↓gd_e, ↓gd_u, ↓gdu_e, ↓rt_e, ↓jn_e, ↓dr_q, ↓kp_e, ↓mnm_e, ↓mxm_e, ↓mif_e, ↓asrt_e, ↓eqs_e, ↓nes_e, Value.cells, add_lit, cell_psh_new, cell_drw, Nat.zero_add, Nat.reduceAdd, get4_0, get4_1, get4_2, get4_3, get3_0, get3_1, get3_2, get2_0, get2_1, get1_0, Option.some.injEq, exists_eq_left', decide_true, decide_false, decide_eq_true_eq, if_true, if_false, Bool.not_true, Bool.not_false, Bool.false_eq_true, Bool.true_eq_false, Bool.not_eq_true', decide_eq_false_iff_not, not_false_eq_true, not_true_eq_false, reduceCtorEq, bx_e, al_e, fa_e, ld_e, ad_e, su_e, mu_e, lt_e, le_e, gt_e, ge_e, eqi_e, nei_e, qu_e, re_e, cv_e, nt_e, pk_t, pk_f, pk_e, eqb_e, neb_e, nc_e, ex_e, lnl_e, lns_e, idv_e, cl_e, cnd_e, gd_e, gd_u, gdu_e, rt_e, jn_e, dr_q, kp_e, mnm_e, mxm_e, mif_e, asrt_e, eqs_e, nes_e, cond_true, cond_false, Bool.true_and, Bool.and_true, Bool.false_and, Bool.and_false, decide_not, c, hia]
    refine ldn_at (hc w hb) rfl ?_
    try simp only [↓bx_e, ↓al_e, ↓fa_e, ↓ld_e, ↓ad_e, ↓su_e, ↓mu_e, ↓lt_e, ↓le_e, ↓gt_e, ↓ge_e, ↓eqi_e, ↓nei_e, ↓qu_e, ↓re_e, ↓cv_e, ↓nt_e, ↓pk_t, ↓pk_f, ↓pk_e, ↓eqb_e, ↓neb_e, ↓nc_e, ↓ex_e, ↓lnl_e, ↓lns_e, ↓idv_e, ↓cl_e, ↓cnd_e, ↓gd_e, ↓gd_u, ↓gdu_e, ↓rt_e, ↓jn_e, ↓dr_q, ↓kp_e, ↓mnm_e, ↓mxm_e, ↓mif_e, ↓asrt_e, ↓eqs_e, ↓nes_e, Value.cells, add_lit, cell_psh_new, cell_drw, Nat.zero_add, Nat.reduceAdd, get4_0, get4_1, get4_2, get4_3, get3_0, get3_1, get3_2, get2_0, get2_1, get1_0, Option.some.injEq, exists_eq_left', decide_true, decide_false, decide_eq_true_eq, if_true, if_false, Bool.not_true, Bool.not_false, Bool.false_eq_true, Bool.true_eq_false, Bool.not_eq_true', decide_eq_false_iff_not, not_false_eq_true, not_true_eq_false, reduceCtorEq, bx_e, al_e, fa_e, ld_e, ad_e, su_e, mu_e, lt_e, le_e, gt_e, ge_e, eqi_e, nei_e, qu_e, re_e, cv_e, nt_e, pk_t, pk_f, pk_e, eqb_e, neb_e, nc_e, ex_e, lnl_e, lns_e, idv_e, cl_e, cnd_e, gd_e, gd_u, gdu_e, rt_e, jn_e, dr_q, kp_e, mnm_e, mxm_e, mif_e, asrt_e, eqs_e, nes_e, cond_true, cond_false, Bool.true_and, Bool.and_true, Bool.false_and, Bool.and_false, decide_not]
    refine f26_s _ fun w1 hb1 => ?_
    have b1 := bt hb hb1
    have d1 := hd.below hb1
    have hy1 := ownV_below hy hb1
    by_cases k0 : kdO l[i] ≤ 1
    · have z : ¬ (1 : Int) < ((kdO l[i] : Nat) : Int) := by omega
      try simp only [↓bx_e, ↓al_e, ↓fa_e, ↓ld_e, ↓ad_e, ↓su_e, ↓mu_e, ↓lt_e, ↓le_e, ↓gt_e, ↓ge_e, ↓eqi_e, ↓nei_e, ↓qu_e, ↓re_e, ↓cv_e, ↓nt_e, ↓pk_t, ↓pk_f, ↓pk_e, ↓eqb_e, ↓neb_e, ↓nc_e, ↓ex_e, ↓lnl_e, ↓lns_e, ↓idv_e, ↓cl_e, ↓cnd_e, ↓gd_e, ↓gd_u, ↓gdu_e, ↓rt_e, ↓jn_e, ↓dr_q, ↓kp_e, ↓mnm_e, ↓mxm_e, ↓mif_e, ↓asrt_e, ↓eqs_e, ↓nes_e, Value.cells, add_lit, cell_psh_new, cell_drw, Nat.zero_add, Nat.reduceAdd, get4_0, get4_1, get4_2, get4_3, get3_0, get3_1, get3_2, get2_0, get2_1, get1_0, Option.some.injEq, exists_eq_left', decide_true, decide_false, decide_eq_true_eq, if_true, if_false, Bool.not_true, Bool.not_false, Bool.false_eq_true, Bool.true_eq_false, Bool.not_eq_true', decide_eq_false_iff_not, not_false_eq_true, not_true_eq_false, reduceCtorEq, bx_e, al_e, fa_e, ld_e, ad_e, su_e, mu_e, lt_e, le_e, gt_e, ge_e, eqi_e, nei_e, qu_e, re_e, cv_e, nt_e, pk_t, pk_f, pk_e, eqb_e, neb_e, nc_e, ex_e, lnl_e, lns_e, idv_e, cl_e, cnd_e, gd_e, gd_u, gdu_e, rt_e, jn_e, dr_q, kp_e, mnm_e, mxm_e, mif_e, asrt_e, eqs_e, nes_e, cond_true, cond_false, Bool.true_and, Bool.and_true, Bool.false_and, Bool.and_false, decide_not, z, hia]
      refine ldn_at (hc w1 b1) rfl ?_
      try simp only [↓bx_e, ↓al_e, ↓fa_e, ↓ld_e, ↓ad_e, ↓su_e, ↓mu_e, ↓lt_e, ↓le_e, ↓gt_e, ↓ge_e, ↓eqi_e, ↓nei_e, ↓qu_e, ↓re_e, ↓cv_e, ↓nt_e, ↓pk_t, ↓pk_f, ↓pk_e, ↓eqb_e, ↓neb_e, ↓nc_e, ↓ex_e, ↓lnl_e, ↓lns_e, ↓idv_e, ↓cl_e, ↓cnd_e, ↓gd_e, ↓gd_u, ↓gdu_e, ↓rt_e, ↓jn_e, ↓dr_q, ↓kp_e, ↓mnm_e, ↓mxm_e, ↓mif_e, ↓asrt_e, ↓eqs_e, ↓nes_e, Value.cells, add_lit, cell_psh_new, cell_drw, Nat.zero_add, Nat.reduceAdd, get4_0, get4_1, get4_2, get4_3, get3_0, get3_1, get3_2, get2_0, get2_1, get1_0, Option.some.injEq, exists_eq_left', decide_true, decide_false, decide_eq_true_eq, if_true, if_false, Bool.not_true, Bool.not_false, Bool.false_eq_true, Bool.true_eq_false, Bool.not_eq_true', decide_eq_false_iff_not, not_false_eq_true, not_true_eq_false, reduceCtorEq, bx_e, al_e, fa_e, ld_e, ad_e, su_e, mu_e, lt_e, le_e, gt_e, ge_e, eqi_e, nei_e, qu_e, re_e, cv_e, nt_e, pk_t, pk_f, pk_e, eqb_e, neb_e, nc_e, ex_e, lnl_e, lns_e, idv_e, cl_e, cnd_e, gd_e, gd_u, gdu_e, rt_e, jn_e, dr_q, kp_e, mnm_e, mxm_e, mif_e, asrt_e, eqs_e, nes_e, cond_true, cond_false, Bool.true_and, Bool.and_true, Bool.false_and, Bool.and_false, decide_not]
      refine f18_s hk b1 hWB d1 hdi (by omega) fun w2 d2 s2 => ?_
      have b2 := bs b1 (S := fpD p v b) (fun k hk => Nat.le_trans hWB (fpD_B d1 k hk)) b1.size s2
      have hy2 := keepV hy1 d1 s2
      obtain ⟨g1, g2, g3, g4⟩ := op_9 D l[i] k0
      have hdi2 : DI (D.op l[i]).2 ((i + 1 : Nat) : Int) := by have := hdi.op (by omega) l[i]; simpa using this
      have hA2 : (D.op l[i]).2.A.length = 8 := by rw [op_len]; exact hA
      generalize he : (D.op l[i]).1 = e at *
      generalize (D.op l[i]).2 = D2 at *
      try simp only [↓bx_e, ↓al_e, ↓fa_e, ↓ld_e, ↓ad_e, ↓su_e, ↓mu_e, ↓lt_e, ↓le_e, ↓gt_e, ↓ge_e, ↓eqi_e, ↓nei_e, ↓qu_e, ↓re_e, ↓cv_e, ↓nt_e, ↓pk_t, ↓pk_f, ↓pk_e, ↓eqb_e, ↓neb_e, ↓nc_e, ↓ex_e, ↓lnl_e, ↓lns_e, ↓idv_e, ↓cl_e, ↓cnd_e, ↓gd_e, ↓gd_u, ↓gdu_e, ↓rt_e, ↓jn_e, ↓dr_q, ↓kp_e, ↓mnm_e, ↓mxm_e, ↓mif_e, ↓asrt_e, ↓eqs_e, ↓nes_e, Value.cells, add_lit, cell_psh_new, cell_drw, Nat.zero_add, Nat.reduceAdd, get4_0, get4_1, get4_2, get4_3, get3_0, get3_1, get3_2, get2_0, get2_1, get1_0, Option.some.injEq, exists_eq_left', decide_true, decide_false, decide_eq_true_eq, if_true, if_false, Bool.not_true, Bool.not_false, Bool.false_eq_true, Bool.true_eq_false, Bool.not_eq_true', decide_eq_false_iff_not, not_false_eq_true, not_true_eq_false, reduceCtorEq, bx_e, al_e, fa_e, ld_e, ad_e, su_e, mu_e, lt_e, le_e, gt_e, ge_e, eqi_e, nei_e, qu_e, re_e, cv_e, nt_e, pk_t, pk_f, pk_e, eqb_e, neb_e, nc_e, ex_e, lnl_e, lns_e, idv_e, cl_e, cnd_e, gd_e, gd_u, gdu_e, rt_e, jn_e, dr_q, kp_e, mnm_e, mxm_e, mif_e, asrt_e, eqs_e, nes_e, cond_true, cond_false, Bool.true_and, Bool.and_true, Bool.false_and, Bool.and_false, decide_not]
      refine f15_s d2 ?_
      have e9 : decide (e = 9) = decide ((n : Int) < D2.c) := by
        rw [Bool.eq_iff_iff, decide_eq_true_iff, decide_eq_true_iff, g1, g2, hh]
      try simp only [↓bx_e, ↓al_e, ↓fa_e, ↓ld_e, ↓ad_e, ↓su_e, ↓mu_e, ↓lt_e, ↓le_e, ↓gt_e, ↓ge_e, ↓eqi_e, ↓nei_e, ↓qu_e, ↓re_e, ↓cv_e, ↓nt_e, ↓pk_t, ↓pk_f, ↓pk_e, ↓eqb_e, ↓neb_e, ↓nc_e, ↓ex_e, ↓lnl_e, ↓lns_e, ↓idv_e, ↓cl_e, ↓cnd_e, ↓gd_e, ↓gd_u, ↓gdu_e, ↓rt_e, ↓jn_e, ↓dr_q, ↓kp_e, ↓mnm_e, ↓mxm_e, ↓mif_e, ↓asrt_e, ↓eqs_e, ↓nes_e, Value.cells, add_lit, cell_psh_new, cell_drw, Nat.zero_add, Nat.reduceAdd, get4_0, get4_1, get4_2, get4_3, get3_0, get3_1, get3_2, get2_0, get2_1, get1_0, Option.some.injEq, exists_eq_left', decide_true, decide_false, decide_eq_true_eq, if_true, if_false, Bool.not_true, Bool.not_false, Bool.false_eq_true, Bool.true_eq_false, Bool.not_eq_true', decide_eq_false_iff_not, not_false_eq_true, not_true_eq_false, reduceCtorEq, bx_e, al_e, fa_e, ld_e, ad_e, su_e, mu_e, lt_e, le_e, gt_e, ge_e, eqi_e, nei_e, qu_e, re_e, cv_e, nt_e, pk_t, pk_f, pk_e, eqb_e, neb_e, nc_e, ex_e, lnl_e, lns_e, idv_e, cl_e, cnd_e, gd_e, gd_u, gdu_e, rt_e, jn_e, dr_q, kp_e, mnm_e, mxm_e, mif_e, asrt_e, eqs_e, nes_e, cond_true, cond_false, Bool.true_and, Bool.and_true, Bool.false_and, Bool.and_false, decide_not, e9, beq_self_eq_true]
      refine ⟨_, reads_loop (w0 := w2) (fun m' row k => itr (fun _ _ _ _ _ _ _ _ => bot) (f7_b5 (f7_j4 (f7_j3 (itr (fun _ _ _ _ _ => bot) (f7_b2 j1) m)))) m' vs (.int .i64 (n : Int)) (pv p) y (.int .i64 (i : Int)) (.int .i64 e) row (.int .i64 (k : Int)))
        (fun row => f7_j4 (f7_j3 (itr (fun _ _ _ _ _ => bot) (f7_b2 j1) m)) vs (.int .i64 (n : Int)) (pv p) y (.int .i64 (i : Int)) (.int .i64 e) row) ?_ ?_ d2 8 9 0 w2 (.slice none 0 0) (by omega) (by omega) (Below.refl _ _) ownV_nil fun w6 z hb6 hz => ?_⟩
      · intro m' row w h
        show f7_b5 _ _ _ _ _ _ _ _ _ _ w Q
        unfold f7_b5
        try simp only [↓bx_e, ↓al_e, ↓fa_e, ↓ld_e, ↓ad_e, ↓su_e, ↓mu_e, ↓lt_e, ↓le_e, ↓gt_e, ↓ge_e, ↓eqi_e, ↓nei_e, ↓qu_e, ↓re_e, ↓cv_e, ↓nt_e, ↓pk_t, ↓pk_f, ↓pk_e, ↓eqb_e, ↓neb_e, ↓nc_e, ↓ex_e, ↓lnl_e, ↓lns_e, ↓idv_e, ↓cl_e, ↓cnd_e, ↓gd_e, ↓gd_u, ↓gdu_e, ↓rt_e, ↓jn_e, ↓dr_q, ↓kp_e, ↓mnm_e, ↓mxm_e, ↓mif_e, ↓asrt_e, ↓eqs_e, ↓nes_e, Value.cells, add_lit, cell_psh_new, cell_drw, Nat.zero_add, Nat.reduceAdd, get4_0, get4_1, get4_2, get4_3, get3_0, get3_1, get3_2, get2_0, get2_1, get1_0, Option.some.injEq, exists_eq_left', decide_true, decide_false, decide_eq_true_eq, if_true, if_false, Bool.not_true, Bool.not_false, Bool.false_eq_true, Bool.true_eq_false, Bool.not_eq_true', decide_eq_false_iff_not, not_false_eq_true, not_true_eq_false, reduceCtorEq, bx_e, al_e, fa_e, ld_e, ad_e, su_e, mu_e, lt_e, le_e, gt_e, ge_e, eqi_e, nei_e, qu_e, re_e, cv_e, nt_e, pk_t, pk_f, pk_e, eqb_e, neb_e, nc_e, ex_e, lnl_e, lns_e, idv_e, cl_e, cnd_e, gd_e, gd_u, gdu_e, rt_e, jn_e, dr_q, kp_e, mnm_e, mxm_e, mif_e, asrt_e, eqs_e, nes_e, cond_true, cond_false, Bool.true_and, Bool.and_true, Bool.false_and, Bool.and_false, decide_not, Int.lt_irrefl]
        exact h
      · intro m' row k w hk hd h
        show f7_b5 _ _ _ _ _ _ _ _ _ _ w Q
        unfold f7_b5
        have c : (k : Int) < 8 := by omega
        have h3 : IntKind.i64.wrap ((k : Int) + 1) = ((k + 1 : Nat) : Int) := by rw [w64 (by omega) (by omega)]; rfl
        try simp only [↓bx_e, ↓al_e, ↓fa_e, ↓ld_e, ↓ad_e, ↓su_e, ↓mu_e, ↓lt_e, ↓le_e, ↓gt_e, ↓ge_e, ↓eqi_e, ↓nei_e, ↓qu_e, ↓re_e, ↓cv_e, ↓nt_e, ↓pk_t, ↓pk_f, ↓pk_e, ↓eqb_e, ↓neb_e, ↓nc_e, ↓ex_e, ↓lnl_e, ↓lns_e, ↓idv_e, ↓cl_e, ↓cnd_e, ↓gd_e, ↓gd_u, ↓gdu_e, ↓rt_e, ↓jn_e, ↓dr_q, ↓kp_e, ↓mnm_e, ↓mxm_e, ↓mif_e, ↓asrt_e, ↓eqs_e, ↓nes_e, Value.cells, add_lit, cell_psh_new, cell_drw, Nat.zero_add, Nat.reduceAdd, get4_0, get4_1, get4_2, get4_3, get3_0, get3_1, get3_2, get2_0, get2_1, get1_0, Option.some.injEq, exists_eq_left', decide_true, decide_false, decide_eq_true_eq, if_true, if_false, Bool.not_true, Bool.not_false, Bool.false_eq_true, Bool.true_eq_false, Bool.not_eq_true', decide_eq_false_iff_not, not_false_eq_true, not_true_eq_false, reduceCtorEq, bx_e, al_e, fa_e, ld_e, ad_e, su_e, mu_e, lt_e, le_e, gt_e, ge_e, eqi_e, nei_e, qu_e, re_e, cv_e, nt_e, pk_t, pk_f, pk_e, eqb_e, neb_e, nc_e, ex_e, lnl_e, lns_e, idv_e, cl_e, cnd_e, gd_e, gd_u, gdu_e, rt_e, jn_e, dr_q, kp_e, mnm_e, mxm_e, mif_e, asrt_e, eqs_e, nes_e, cond_true, cond_false, Bool.true_and, Bool.and_true, Bool.false_and, Bool.and_false, decide_not, c]
        refine f13_s hd _ fun w1 hb1 => ?_
        obtain ⟨v1, w1', e1, v2, w2, e2, h⟩ := h w1 hb1
        refine ⟨v1, w1', e1, v2, w2, e2, ?_⟩
        try simp only [↓bx_e, ↓al_e, ↓fa_e, ↓ld_e, ↓ad_e, ↓su_e, ↓mu_e, ↓lt_e, ↓le_e, ↓gt_e, ↓ge_e, ↓eqi_e, ↓nei_e, ↓qu_e, ↓re_e, ↓cv_e, ↓nt_e, ↓pk_t, ↓pk_f, ↓pk_e, ↓eqb_e, ↓neb_e, ↓nc_e, ↓ex_e, ↓lnl_e, ↓lns_e, ↓idv_e, ↓cl_e, ↓cnd_e, ↓gd_e, ↓gd_u, ↓gdu_e, ↓rt_e, ↓jn_e, ↓dr_q, ↓kp_e, ↓mnm_e, ↓mxm_e, ↓mif_e, ↓asrt_e, ↓eqs_e, ↓nes_e, Value.cells, add_lit, cell_psh_new, cell_drw, Nat.zero_add, Nat.reduceAdd, get4_0, get4_1, get4_2, get4_3, get3_0, get3_1, get3_2, get2_0, get2_1, get1_0, Option.some.injEq, exists_eq_left', decide_true, decide_false, decide_eq_true_eq, if_true, if_false, Bool.not_true, Bool.not_false, Bool.false_eq_true, Bool.true_eq_false, Bool.not_eq_true', decide_eq_false_iff_not, not_false_eq_true, not_true_eq_false, reduceCtorEq, bx_e, al_e, fa_e, ld_e, ad_e, su_e, mu_e, lt_e, le_e, gt_e, ge_e, eqi_e, nei_e, qu_e, re_e, cv_e, nt_e, pk_t, pk_f, pk_e, eqb_e, neb_e, nc_e, ex_e, lnl_e, lns_e, idv_e, cl_e, cnd_e, gd_e, gd_u, gdu_e, rt_e, jn_e, dr_q, kp_e, mnm_e, mxm_e, mif_e, asrt_e, eqs_e, nes_e, cond_true, cond_false, Bool.true_and, Bool.and_true, Bool.false_and, Bool.and_false, decide_not, h3]
        exact h
      unfold f7_j4
      have b6 := bt b2 hb6
      have d6 := d2.below hb6
      have hy6 := ownV_below hy2 hb6
      try simp only [↓bx_e, ↓al_e, ↓fa_e, ↓ld_e, ↓ad_e, ↓su_e, ↓mu_e, ↓lt_e, ↓le_e, ↓gt_e, ↓ge_e, ↓eqi_e, ↓nei_e, ↓qu_e, ↓re_e, ↓cv_e, ↓nt_e, ↓pk_t, ↓pk_f, ↓pk_e, ↓eqb_e, ↓neb_e, ↓nc_e, ↓ex_e, ↓lnl_e, ↓lns_e, ↓idv_e, ↓cl_e, ↓cnd_e, ↓gd_e, ↓gd_u, ↓gdu_e, ↓rt_e, ↓jn_e, ↓dr_q, ↓kp_e, ↓mnm_e, ↓mxm_e, ↓mif_e, ↓asrt_e, ↓eqs_e, ↓nes_e, Value.cells, add_lit, cell_psh_new, cell_drw, Nat.zero_add, Nat.reduceAdd, get4_0, get4_1, get4_2, get4_3, get3_0, get3_1, get3_2, get2_0, get2_1, get1_0, Option.some.injEq, exists_eq_left', decide_true, decide_false, decide_eq_true_eq, if_true, if_false, Bool.not_true, Bool.not_false, Bool.false_eq_true, Bool.true_eq_false, Bool.not_eq_true', decide_eq_false_iff_not, not_false_eq_true, not_true_eq_false, reduceCtorEq, bx_e, al_e, fa_e, ld_e, ad_e, su_e, mu_e, lt_e, le_e, gt_e, ge_e, eqi_e, nei_e, qu_e, re_e, cv_e, nt_e, pk_t, pk_f, pk_e, eqb_e, neb_e, nc_e, ex_e, lnl_e, lns_e, idv_e, cl_e, cnd_e, gd_e, gd_u, gdu_e, rt_e, jn_e, dr_q, kp_e, mnm_e, mxm_e, mif_e, asrt_e, eqs_e, nes_e, cond_true, cond_false, Bool.true_and, Bool.and_true, Bool.false_and, Bool.and_false, decide_not]
      refine ⟨_, f7_in (W := w6) (D := D2) _ hy6 hz (fun h9 hx => ?_) 8 9 0 w6 (by omega) (by omega) (Below.refl _ _) fun w7 hb7 => ?_⟩
      · rcases hxs with h | h
        · exact absurd h hx
        · rw [h, rdsV_A (g4 (g1.1 h9))]
      unfold f7_j6 f7_j3
      try simp only [↓bx_e, ↓al_e, ↓fa_e, ↓ld_e, ↓ad_e, ↓su_e, ↓mu_e, ↓lt_e, ↓le_e, ↓gt_e, ↓ge_e, ↓eqi_e, ↓nei_e, ↓qu_e, ↓re_e, ↓cv_e, ↓nt_e, ↓pk_t, ↓pk_f, ↓pk_e, ↓eqb_e, ↓neb_e, ↓nc_e, ↓ex_e, ↓lnl_e, ↓lns_e, ↓idv_e, ↓cl_e, ↓cnd_e, ↓gd_e, ↓gd_u, ↓gdu_e, ↓rt_e, ↓jn_e, ↓dr_q, ↓kp_e, ↓mnm_e, ↓mxm_e, ↓mif_e, ↓asrt_e, ↓eqs_e, ↓nes_e, Value.cells, add_lit, cell_psh_new, cell_drw, Nat.zero_add, Nat.reduceAdd, get4_0, get4_1, get4_2, get4_3, get3_0, get3_1, get3_2, get2_0, get2_1, get1_0, Option.some.injEq, exists_eq_left', decide_true, decide_false, decide_eq_true_eq, if_true, if_false, Bool.not_true, Bool.not_false, Bool.false_eq_true, Bool.true_eq_false, Bool.not_eq_true', decide_eq_false_iff_not, not_false_eq_true, not_true_eq_false, reduceCtorEq, bx_e, al_e, fa_e, ld_e, ad_e, su_e, mu_e, lt_e, le_e, gt_e, ge_e, eqi_e, nei_e, qu_e, re_e, cv_e, nt_e, pk_t, pk_f, pk_e, eqb_e, neb_e, nc_e, ex_e, lnl_e, lns_e, idv_e, cl_e, cnd_e, gd_e, gd_u, gdu_e, rt_e, jn_e, dr_q, kp_e, mnm_e, mxm_e, mif_e, asrt_e, eqs_e, nes_e, cond_true, cond_false, Bool.true_and, Bool.and_true, Bool.false_and, Bool.and_false, decide_not, h3]
      exact ih m (i + 1) w7 D2 z _ _ (by omega) (by omega) (bt b6 hb7) (d6.below hb7) (g3.trans hh) hdi2 hA2 (ownV_below hz hb7) (.inr rfl) kk
    · have z : (1 : Int) < ((kdO l[i] : Nat) : Int) := by omega
      try simp only [↓bx_e, ↓al_e, ↓fa_e, ↓ld_e, ↓ad_e, ↓su_e, ↓mu_e, ↓lt_e, ↓le_e, ↓gt_e, ↓ge_e, ↓eqi_e, ↓nei_e, ↓qu_e, ↓re_e, ↓cv_e, ↓nt_e, ↓pk_t, ↓pk_f, ↓pk_e, ↓eqb_e, ↓neb_e, ↓nc_e, ↓ex_e, ↓lnl_e, ↓lns_e, ↓idv_e, ↓cl_e, ↓cnd_e, ↓gd_e, ↓gd_u, ↓gdu_e, ↓rt_e, ↓jn_e, ↓dr_q, ↓kp_e, ↓mnm_e, ↓mxm_e, ↓mif_e, ↓asrt_e, ↓eqs_e, ↓nes_e, Value.cells, add_lit, cell_psh_new, cell_drw, Nat.zero_add, Nat.reduceAdd, get4_0, get4_1, get4_2, get4_3, get3_0, get3_1, get3_2, get2_0, get2_1, get1_0, Option.some.injEq, exists_eq_left', decide_true, decide_false, decide_eq_true_eq, if_true, if_false, Bool.not_true, Bool.not_false, Bool.false_eq_true, Bool.true_eq_false, Bool.not_eq_true', decide_eq_false_iff_not, not_false_eq_true, not_true_eq_false, reduceCtorEq, bx_e, al_e, fa_e, ld_e, ad_e, su_e, mu_e, lt_e, le_e, gt_e, ge_e, eqi_e, nei_e, qu_e, re_e, cv_e, nt_e, pk_t, pk_f, pk_e, eqb_e, neb_e, nc_e, ex_e, lnl_e, lns_e, idv_e, cl_e, cnd_e, gd_e, gd_u, gdu_e, rt_e, jn_e, dr_q, kp_e, mnm_e, mxm_e, mif_e, asrt_e, eqs_e, nes_e, cond_true, cond_false, Bool.true_and, Bool.and_true, Bool.false_and, Bool.and_false, decide_not, z]
      unfold f7_j3
      try simp only [↓bx_e, ↓al_e, ↓fa_e, ↓ld_e, ↓ad_e, ↓su_e, ↓mu_e, ↓lt_e, ↓le_e, ↓gt_e, ↓ge_e, ↓eqi_e, ↓nei_e, ↓qu_e, ↓re_e, ↓cv_e, ↓nt_e, ↓pk_t, ↓pk_f, ↓pk_e, ↓eqb_e, ↓neb_e, ↓nc_e, ↓ex_e, ↓lnl_e, ↓lns_e, ↓idv_e, ↓cl_e, ↓cnd_e, ↓gd_e, ↓gd_u, ↓gdu_e, ↓rt_e, ↓jn_e, ↓dr_q, ↓kp_e, ↓mnm_e, ↓mxm_e, ↓mif_e, ↓asrt_e, ↓eqs_e, ↓nes_e, Value.cells, add_lit, cell_psh_new, cell_drw, Nat.zero_add, Nat.reduceAdd, get4_0, get4_1, get4_2, get4_3, get3_0, get3_1, get3_2, get2_0, get2_1, get1_0, Option.some.injEq, exists_eq_left', decide_true, decide_false, decide_eq_true_eq, if_true, if_false, Bool.not_true, Bool.not_false, Bool.false_eq_true, Bool.true_eq_false, Bool.not_eq_true', decide_eq_false_iff_not, not_false_eq_true, not_true_eq_false, reduceCtorEq, bx_e, al_e, fa_e, ld_e, ad_e, su_e, mu_e, lt_e, le_e, gt_e, ge_e, eqi_e, nei_e, qu_e, re_e, cv_e, nt_e, pk_t, pk_f, pk_e, eqb_e, neb_e, nc_e, ex_e, lnl_e, lns_e, idv_e, cl_e, cnd_e, gd_e, gd_u, gdu_e, rt_e, jn_e, dr_q, kp_e, mnm_e, mxm_e, mif_e, asrt_e, eqs_e, nes_e, cond_true, cond_false, Bool.true_and, Bool.and_true, Bool.false_and, Bool.and_false, decide_not, h3]
      exact ih m (i + 1) w1 D y xs BB (by omega) (by omega) b1 d1 hh (hdi.mono (by omega)) hA hy1 hxs kk
theorem crash_DI {D : Dv} {n : Int} (h : DI D n) (keep : List Bool) (tn cut : Int) : DI (D.crash keep tn cut) n := ⟨h.c0, h.c1, by show (0 : Int) ≤ 4611686018427387904; omega⟩
theorem f7_s {w : World} {vs : Value} {l : List Op4} (n0 : Int) (hs : rdS 5 oR4 w vs l) (kk : ∀ w', Below w.heap.size w w' → Q (.bool true) w') : f7 vs (.int .i64 n0) w Q := by
  unfold f7
  try simp only [↓bx_e, ↓al_e, ↓fa_e, ↓ld_e, ↓ad_e, ↓su_e, ↓mu_e, ↓lt_e, ↓le_e, ↓gt_e, ↓ge_e, ↓eqi_e, ↓nei_e, ↓qu_e, ↓re_e, ↓cv_e, ↓nt_e, ↓pk_t, ↓pk_f, ↓pk_e, ↓eqb_e, ↓neb_e, ↓nc_e, ↓ex_e, ↓lnl_e, ↓lns_e, ↓idv_e, ↓cl_e, ↓cnd_e, ↓gd_e, ↓gd_u, ↓gdu_e, ↓rt_e, ↓jn_e, ↓dr_q, ↓kp_e, ↓mnm_e, ↓mxm_e, ↓mif_e, ↓asrt_e, ↓eqs_e, ↓nes_e, Value.cells, add_lit, cell_psh_new, cell_drw, Nat.zero_add, Nat.reduceAdd, get4_0, get4_1, get4_2, get4_3, get3_0, get3_1, get3_2, get2_0, get2_1, get1_0, Option.some.injEq, exists_eq_left', decide_true, decide_false, decide_eq_true_eq, if_true, if_false, Bool.not_true, Bool.not_false, Bool.false_eq_true, Bool.true_eq_false, Bool.not_eq_true', decide_eq_false_iff_not, not_false_eq_true, not_true_eq_false, reduceCtorEq, bx_e, al_e, fa_e, ld_e, ad_e, su_e, mu_e, lt_e, le_e, gt_e, ge_e, eqi_e, nei_e, qu_e, re_e, cv_e, nt_e, pk_t, pk_f, pk_e, eqb_e, neb_e, nc_e, ex_e, lnl_e, lns_e, idv_e, cl_e, cnd_e, gd_e, gd_u, gdu_e, rt_e, jn_e, dr_q, kp_e, mnm_e, mxm_e, mif_e, asrt_e, eqs_e, nes_e, cond_true, cond_false, Bool.true_and, Bool.and_true, Bool.false_and, Bool.and_false, decide_not]
  refine f9_s fun w2 hb2 => ?_
  try simp only [↓bx_e, ↓al_e, ↓fa_e, ↓ld_e, ↓ad_e, ↓su_e, ↓mu_e, ↓lt_e, ↓le_e, ↓gt_e, ↓ge_e, ↓eqi_e, ↓nei_e, ↓qu_e, ↓re_e, ↓cv_e, ↓nt_e, ↓pk_t, ↓pk_f, ↓pk_e, ↓eqb_e, ↓neb_e, ↓nc_e, ↓ex_e, ↓lnl_e, ↓lns_e, ↓idv_e, ↓cl_e, ↓cnd_e, ↓gd_e, ↓gd_u, ↓gdu_e, ↓rt_e, ↓jn_e, ↓dr_q, ↓kp_e, ↓mnm_e, ↓mxm_e, ↓mif_e, ↓asrt_e, ↓eqs_e, ↓nes_e, Value.cells, add_lit, cell_psh_new, cell_drw, Nat.zero_add, Nat.reduceAdd, get4_0, get4_1, get4_2, get4_3, get3_0, get3_1, get3_2, get2_0, get2_1, get1_0, Option.some.injEq, exists_eq_left', decide_true, decide_false, decide_eq_true_eq, if_true, if_false, Bool.not_true, Bool.not_false, Bool.false_eq_true, Bool.true_eq_false, Bool.not_eq_true', decide_eq_false_iff_not, not_false_eq_true, not_true_eq_false, reduceCtorEq, bx_e, al_e, fa_e, ld_e, ad_e, su_e, mu_e, lt_e, le_e, gt_e, ge_e, eqi_e, nei_e, qu_e, re_e, cv_e, nt_e, pk_t, pk_f, pk_e, eqb_e, neb_e, nc_e, ex_e, lnl_e, lns_e, idv_e, cl_e, cnd_e, gd_e, gd_u, gdu_e, rt_e, jn_e, dr_q, kp_e, mnm_e, mxm_e, mif_e, asrt_e, eqs_e, nes_e, cond_true, cond_false, Bool.true_and, Bool.and_true, Bool.false_and, Bool.and_false, decide_not]
  refine f16_s (rdS_below oR4_st hb2 hs) fun vs' hs' => ?_
  have hl3 : (l.take 300).length ≤ 300 := by rw [List.length_take]; omega
  generalize l.take 300 = l' at *
  try simp only [↓bx_e, ↓al_e, ↓fa_e, ↓ld_e, ↓ad_e, ↓su_e, ↓mu_e, ↓lt_e, ↓le_e, ↓gt_e, ↓ge_e, ↓eqi_e, ↓nei_e, ↓qu_e, ↓re_e, ↓cv_e, ↓nt_e, ↓pk_t, ↓pk_f, ↓pk_e, ↓eqb_e, ↓neb_e, ↓nc_e, ↓ex_e, ↓lnl_e, ↓lns_e, ↓idv_e, ↓cl_e, ↓cnd_e, ↓gd_e, ↓gd_u, ↓gdu_e, ↓rt_e, ↓jn_e, ↓dr_q, ↓kp_e, ↓mnm_e, ↓mxm_e, ↓mif_e, ↓asrt_e, ↓eqs_e, ↓nes_e, Value.cells, add_lit, cell_psh_new, cell_drw, Nat.zero_add, Nat.reduceAdd, get4_0, get4_1, get4_2, get4_3, get3_0, get3_1, get3_2, get2_0, get2_1, get1_0, Option.some.injEq, exists_eq_left', decide_true, decide_false, decide_eq_true_eq, if_true, if_false, Bool.not_true, Bool.not_false, Bool.false_eq_true, Bool.true_eq_false, Bool.not_eq_true', decide_eq_false_iff_not, not_false_eq_true, not_true_eq_false, reduceCtorEq, bx_e, al_e, fa_e, ld_e, ad_e, su_e, mu_e, lt_e, le_e, gt_e, ge_e, eqi_e, nei_e, qu_e, re_e, cv_e, nt_e, pk_t, pk_f, pk_e, eqb_e, neb_e, nc_e, ex_e, lnl_e, lns_e, idv_e, cl_e, cnd_e, gd_e, gd_u, gdu_e, rt_e, jn_e, dr_q, kp_e, mnm_e, mxm_e, mif_e, asrt_e, eqs_e, nes_e, cond_true, cond_false, Bool.true_and, Bool.and_true, Bool.false_and, Bool.and_false, decide_not]
  refine f10_s (B := w2.heap.size) 8 (k := 8) (by decide) (Nat.le_refl _) fun w3 p v b hp hb' d3 hfp hb3 => ?_
  obtain ⟨k, hk⟩ : ∃ k : Nat, (IntKind.u64.wrap n0).tmod 50 = ((k : Nat) : Int) := ⟨(IntKind.u64.wrap n0 % 50).toNat, by
    rw [Int.tmod_eq_emod_of_nonneg (by rw [wrap_u64]; omega)]; omega⟩
  have hk2 : k < 50 := by
    have : (IntKind.u64.wrap n0).tmod 50 = IntKind.u64.wrap n0 % 50 := Int.tmod_eq_emod_of_nonneg (by rw [wrap_u64]; omega)
    omega
  have e2 : IntKind.i64.wrap ((k : Nat) : Int) = ((k : Nat) : Int) := w64 (by omega) (by omega)
  try simp only [↓bx_e, ↓al_e, ↓fa_e, ↓ld_e, ↓ad_e, ↓su_e, ↓mu_e, ↓lt_e, ↓le_e, ↓gt_e, ↓ge_e, ↓eqi_e, ↓nei_e, ↓qu_e, ↓re_e, ↓cv_e, ↓nt_e, ↓pk_t, ↓pk_f, ↓pk_e, ↓eqb_e, ↓neb_e, ↓nc_e, ↓ex_e, ↓lnl_e, ↓lns_e, ↓idv_e, ↓cl_e, ↓cnd_e, ↓gd_e, ↓gd_u, ↓gdu_e, ↓rt_e, ↓jn_e, ↓dr_q, ↓kp_e, ↓mnm_e, ↓mxm_e, ↓mif_e, ↓asrt_e, ↓eqs_e, ↓nes_e, Value.cells, add_lit, cell_psh_new, cell_drw, Nat.zero_add, Nat.reduceAdd, get4_0, get4_1, get4_2, get4_3, get3_0, get3_1, get3_2, get2_0, get2_1, get1_0, Option.some.injEq, exists_eq_left', decide_true, decide_false, decide_eq_true_eq, if_true, if_false, Bool.not_true, Bool.not_false, Bool.false_eq_true, Bool.true_eq_false, Bool.not_eq_true', decide_eq_false_iff_not, not_false_eq_true, not_true_eq_false, reduceCtorEq, bx_e, al_e, fa_e, ld_e, ad_e, su_e, mu_e, lt_e, le_e, gt_e, ge_e, eqi_e, nei_e, qu_e, re_e, cv_e, nt_e, pk_t, pk_f, pk_e, eqb_e, neb_e, nc_e, ex_e, lnl_e, lns_e, idv_e, cl_e, cnd_e, gd_e, gd_u, gdu_e, rt_e, jn_e, dr_q, kp_e, mnm_e, mxm_e, mif_e, asrt_e, eqs_e, nes_e, cond_true, cond_false, Bool.true_and, Bool.and_true, Bool.false_and, Bool.and_false, decide_not, hk, e2]
  refine ⟨by decide, ?_⟩
  refine f27_s d3 (Int.le_refl _) (by show (0 : Int) ≤ 1000000; omega) (k : Int) fun w4 d4 u4 => ?_
  have b4 := bs hb3 hfp hb3.size (ChgS.of_upd u4 (S := fpD p v b) (.inl rfl))
  have h4 : ((newD 8).stop (k : Int)).h = (k : Int) := by
    unfold Dv.stop
    rw [if_neg (by omega)]
    show (0 : Int) + k = k
    omega
  have i4 : DI ((newD 8).stop (k : Int)) ((0 : Nat) : Int) := ⟨Int.le_refl _, Int.le_refl _, by rw [h4]; omega⟩
  try simp only [↓bx_e, ↓al_e, ↓fa_e, ↓ld_e, ↓ad_e, ↓su_e, ↓mu_e, ↓lt_e, ↓le_e, ↓gt_e, ↓ge_e, ↓eqi_e, ↓nei_e, ↓qu_e, ↓re_e, ↓cv_e, ↓nt_e, ↓pk_t, ↓pk_f, ↓pk_e, ↓eqb_e, ↓neb_e, ↓nc_e, ↓ex_e, ↓lnl_e, ↓lns_e, ↓idv_e, ↓cl_e, ↓cnd_e, ↓gd_e, ↓gd_u, ↓gdu_e, ↓rt_e, ↓jn_e, ↓dr_q, ↓kp_e, ↓mnm_e, ↓mxm_e, ↓mif_e, ↓asrt_e, ↓eqs_e, ↓nes_e, Value.cells, add_lit, cell_psh_new, cell_drw, Nat.zero_add, Nat.reduceAdd, get4_0, get4_1, get4_2, get4_3, get3_0, get3_1, get3_2, get2_0, get2_1, get1_0, Option.some.injEq, exists_eq_left', decide_true, decide_false, decide_eq_true_eq, if_true, if_false, Bool.not_true, Bool.not_false, Bool.false_eq_true, Bool.true_eq_false, Bool.not_eq_true', decide_eq_false_iff_not, not_false_eq_true, not_true_eq_false, reduceCtorEq, bx_e, al_e, fa_e, ld_e, ad_e, su_e, mu_e, lt_e, le_e, gt_e, ge_e, eqi_e, nei_e, qu_e, re_e, cv_e, nt_e, pk_t, pk_f, pk_e, eqb_e, neb_e, nc_e, ex_e, lnl_e, lns_e, idv_e, cl_e, cnd_e, gd_e, gd_u, gdu_e, rt_e, jn_e, dr_q, kp_e, mnm_e, mxm_e, mif_e, asrt_e, eqs_e, nes_e, cond_true, cond_false, Bool.true_and, Bool.and_true, Bool.false_and, Bool.and_false, decide_not]
  refine ⟨_, f7_loop (W := w2) (n := k) hs' hl3 (Nat.le_refl _) f7_j1 l'.length (l'.length + 1) 0 w4 _ (.slice none 0 0) [] 0 (by omega) (by omega) b4 d4 h4 i4 (by simp [newD, Dv.stop]) ownV_nil (.inl rfl) fun w5 D5 b5 d5 i5 hA5 => ?_⟩
  unfold f7_j1
  try simp only [↓bx_e, ↓al_e, ↓fa_e, ↓ld_e, ↓ad_e, ↓su_e, ↓mu_e, ↓lt_e, ↓le_e, ↓gt_e, ↓ge_e, ↓eqi_e, ↓nei_e, ↓qu_e, ↓re_e, ↓cv_e, ↓nt_e, ↓pk_t, ↓pk_f, ↓pk_e, ↓eqb_e, ↓neb_e, ↓nc_e, ↓ex_e, ↓lnl_e, ↓lns_e, ↓idv_e, ↓cl_e, ↓cnd_e, ↓gd_e, ↓gd_u, ↓gdu_e, ↓rt_e, ↓jn_e, ↓dr_q, ↓kp_e, ↓mnm_e, ↓mxm_e, ↓mif_e, ↓asrt_e, ↓eqs_e, ↓nes_e, Value.cells, add_lit, cell_psh_new, cell_drw, Nat.zero_add, Nat.reduceAdd, get4_0, get4_1, get4_2, get4_3, get3_0, get3_1, get3_2, get2_0, get2_1, get1_0, Option.some.injEq, exists_eq_left', decide_true, decide_false, decide_eq_true_eq, if_true, if_false, Bool.not_true, Bool.not_false, Bool.false_eq_true, Bool.true_eq_false, Bool.not_eq_true', decide_eq_false_iff_not, not_false_eq_true, not_true_eq_false, reduceCtorEq, bx_e, al_e, fa_e, ld_e, ad_e, su_e, mu_e, lt_e, le_e, gt_e, ge_e, eqi_e, nei_e, qu_e, re_e, cv_e, nt_e, pk_t, pk_f, pk_e, eqb_e, neb_e, nc_e, ex_e, lnl_e, lns_e, idv_e, cl_e, cnd_e, gd_e, gd_u, gdu_e, rt_e, jn_e, dr_q, kp_e, mnm_e, mxm_e, mif_e, asrt_e, eqs_e, nes_e, cond_true, cond_false, Bool.true_and, Bool.and_true, Bool.false_and, Bool.and_false, decide_not]
  refine f24_s (W := w2) (keep := []) (.inl ⟨rfl, rfl⟩) b5 (Nat.le_refl _) d5 fun w6 d6 s6 => ?_
  have b6 := bs b5 hfp b5.size s6
  have i6 := crash_DI i5 [] (-1) 0
  have h6 : (D5.crash [] (-1) 0).h = 4611686018427387904 := rfl
  have hA6 : (D5.crash [] (-1) 0).A.length = 8 := by rw [crashA_len]; exact hA5
  generalize D5.crash [] (-1) 0 = D6 at *
  obtain ⟨x, hx⟩ := at_some (D := D6) (i := 0) (by omega) (by omega)
  have ew : D6.wr 0 ⟨#[120]⟩ = (0, D6.tick.set 0 ⟨x.s, some (pad ⟨#[120]⟩)⟩) := by
    unfold Dv.wr
    rw [if_neg (by have := i6.c1; omega), hx]
    rfl
  try simp only [↓bx_e, ↓al_e, ↓fa_e, ↓ld_e, ↓ad_e, ↓su_e, ↓mu_e, ↓lt_e, ↓le_e, ↓gt_e, ↓ge_e, ↓eqi_e, ↓nei_e, ↓qu_e, ↓re_e, ↓cv_e, ↓nt_e, ↓pk_t, ↓pk_f, ↓pk_e, ↓eqb_e, ↓neb_e, ↓nc_e, ↓ex_e, ↓lnl_e, ↓lns_e, ↓idv_e, ↓cl_e, ↓cnd_e, ↓gd_e, ↓gd_u, ↓gdu_e, ↓rt_e, ↓jn_e, ↓dr_q, ↓kp_e, ↓mnm_e, ↓mxm_e, ↓mif_e, ↓asrt_e, ↓eqs_e, ↓nes_e, Value.cells, add_lit, cell_psh_new, cell_drw, Nat.zero_add, Nat.reduceAdd, get4_0, get4_1, get4_2, get4_3, get3_0, get3_1, get3_2, get2_0, get2_1, get1_0, Option.some.injEq, exists_eq_left', decide_true, decide_false, decide_eq_true_eq, if_true, if_false, Bool.not_true, Bool.not_false, Bool.false_eq_true, Bool.true_eq_false, Bool.not_eq_true', decide_eq_false_iff_not, not_false_eq_true, not_true_eq_false, reduceCtorEq, bx_e, al_e, fa_e, ld_e, ad_e, su_e, mu_e, lt_e, le_e, gt_e, ge_e, eqi_e, nei_e, qu_e, re_e, cv_e, nt_e, pk_t, pk_f, pk_e, eqb_e, neb_e, nc_e, ex_e, lnl_e, lns_e, idv_e, cl_e, cnd_e, gd_e, gd_u, gdu_e, rt_e, jn_e, dr_q, kp_e, mnm_e, mxm_e, mif_e, asrt_e, eqs_e, nes_e, cond_true, cond_false, Bool.true_and, Bool.and_true, Bool.false_and, Bool.and_false, decide_not]
  refine f28_s d6 i6.c0 (by have := i6.c1; omega) 0 ⟨#[120]⟩ fun w7 d7 s7 => ?_
  rw [ew] at d7 ⊢
  have b7 := bs b6 hfp b6.size s7
  have ec : (D6.tick.set 0 ⟨x.s, some (pad ⟨#[120]⟩)⟩).c = D6.c + 1 := rfl
  have eh : (D6.tick.set 0 ⟨x.s, some (pad ⟨#[120]⟩)⟩).h = 4611686018427387904 := h6
  have ea : (D6.tick.set 0 ⟨x.s, some (pad ⟨#[120]⟩)⟩).A[0]? = some ⟨x.s, some (pad ⟨#[120]⟩)⟩ := by
    show (D6.A.set 0 _)[0]? = _
    rw [List.getElem?_set_self (by omega)]
  have j6 := i6.c0
  have j6' := i6.c1
  try simp only [↓bx_e, ↓al_e, ↓fa_e, ↓ld_e, ↓ad_e, ↓su_e, ↓mu_e, ↓lt_e, ↓le_e, ↓gt_e, ↓ge_e, ↓eqi_e, ↓nei_e, ↓qu_e, ↓re_e, ↓cv_e, ↓nt_e, ↓pk_t, ↓pk_f, ↓pk_e, ↓eqb_e, ↓neb_e, ↓nc_e, ↓ex_e, ↓lnl_e, ↓lns_e, ↓idv_e, ↓cl_e, ↓cnd_e, ↓gd_e, ↓gd_u, ↓gdu_e, ↓rt_e, ↓jn_e, ↓dr_q, ↓kp_e, ↓mnm_e, ↓mxm_e, ↓mif_e, ↓asrt_e, ↓eqs_e, ↓nes_e, Value.cells, add_lit, cell_psh_new, cell_drw, Nat.zero_add, Nat.reduceAdd, get4_0, get4_1, get4_2, get4_3, get3_0, get3_1, get3_2, get2_0, get2_1, get1_0, Option.some.injEq, exists_eq_left', decide_true, decide_false, decide_eq_true_eq, if_true, if_false, Bool.not_true, Bool.not_false, Bool.false_eq_true, Bool.true_eq_false, Bool.not_eq_true', decide_eq_false_iff_not, not_false_eq_true, not_true_eq_false, reduceCtorEq, bx_e, al_e, fa_e, ld_e, ad_e, su_e, mu_e, lt_e, le_e, gt_e, ge_e, eqi_e, nei_e, qu_e, re_e, cv_e, nt_e, pk_t, pk_f, pk_e, eqb_e, neb_e, nc_e, ex_e, lnl_e, lns_e, idv_e, cl_e, cnd_e, gd_e, gd_u, gdu_e, rt_e, jn_e, dr_q, kp_e, mnm_e, mxm_e, mif_e, asrt_e, eqs_e, nes_e, cond_true, cond_false, Bool.true_and, Bool.and_true, Bool.false_and, Bool.and_false, decide_not] at d7 ⊢
  generalize D6.tick.set 0 ⟨x.s, some (pad ⟨#[120]⟩)⟩ = D7 at *
  have es : D7.sync = (0, { D7.tick with A := D7.A.map fun x => ⟨x.now, none⟩ }) := by unfold Dv.sync; rw [if_neg (by omega)]
  refine f25_s d7 (by omega) (by omega) fun w8 d8 s8 => ?_
  rw [es] at d8 ⊢
  have b8 := bs b7 hfp b7.size s8
  try simp only [↓bx_e, ↓al_e, ↓fa_e, ↓ld_e, ↓ad_e, ↓su_e, ↓mu_e, ↓lt_e, ↓le_e, ↓gt_e, ↓ge_e, ↓eqi_e, ↓nei_e, ↓qu_e, ↓re_e, ↓cv_e, ↓nt_e, ↓pk_t, ↓pk_f, ↓pk_e, ↓eqb_e, ↓neb_e, ↓nc_e, ↓ex_e, ↓lnl_e, ↓lns_e, ↓idv_e, ↓cl_e, ↓cnd_e, ↓gd_e, ↓gd_u, ↓gdu_e, ↓rt_e, ↓jn_e, ↓dr_q, ↓kp_e, ↓mnm_e, ↓mxm_e, ↓mif_e, ↓asrt_e, ↓eqs_e, ↓nes_e, Value.cells, add_lit, cell_psh_new, cell_drw, Nat.zero_add, Nat.reduceAdd, get4_0, get4_1, get4_2, get4_3, get3_0, get3_1, get3_2, get2_0, get2_1, get1_0, Option.some.injEq, exists_eq_left', decide_true, decide_false, decide_eq_true_eq, if_true, if_false, Bool.not_true, Bool.not_false, Bool.false_eq_true, Bool.true_eq_false, Bool.not_eq_true', decide_eq_false_iff_not, not_false_eq_true, not_true_eq_false, reduceCtorEq, bx_e, al_e, fa_e, ld_e, ad_e, su_e, mu_e, lt_e, le_e, gt_e, ge_e, eqi_e, nei_e, qu_e, re_e, cv_e, nt_e, pk_t, pk_f, pk_e, eqb_e, neb_e, nc_e, ex_e, lnl_e, lns_e, idv_e, cl_e, cnd_e, gd_e, gd_u, gdu_e, rt_e, jn_e, dr_q, kp_e, mnm_e, mxm_e, mif_e, asrt_e, eqs_e, nes_e, cond_true, cond_false, Bool.true_and, Bool.and_true, Bool.false_and, Bool.and_false, decide_not] at d8 ⊢
  refine f13_s d8 0 fun w9 hb9 => ?_
  have er : ({ D7.tick with A := D7.A.map fun x => ⟨x.now, none⟩ } : Dv).rd 0 = (pad ⟨#[120]⟩).1 := by
    have : ({ D7.tick with A := D7.A.map fun x => ⟨x.now, none⟩ } : Dv).A[0]? = some ⟨pad ⟨#[120]⟩, none⟩ := by
      show (D7.A.map _)[0]? = _
      rw [List.getElem?_map, ea]; rfl
    exact rd_at (i := 0) this
  rw [er]
  try simp only [↓bx_e, ↓al_e, ↓fa_e, ↓ld_e, ↓ad_e, ↓su_e, ↓mu_e, ↓lt_e, ↓le_e, ↓gt_e, ↓ge_e, ↓eqi_e, ↓nei_e, ↓qu_e, ↓re_e, ↓cv_e, ↓nt_e, ↓pk_t, ↓pk_f, ↓pk_e, ↓eqb_e, ↓neb_e, ↓nc_e, ↓ex_e, ↓lnl_e, ↓lns_e, ↓idv_e, ↓cl_e, ↓cnd_e, ↓gd_e, ↓gd_u, ↓gdu_e, ↓rt_e, ↓jn_e, ↓dr_q, ↓kp_e, ↓mnm_e, ↓mxm_e, ↓mif_e, ↓asrt_e, ↓eqs_e, ↓nes_e, Value.cells, add_lit, cell_psh_new, cell_drw, Nat.zero_add, Nat.reduceAdd, get4_0, get4_1, get4_2, get4_3, get3_0, get3_1, get3_2, get2_0, get2_1, get1_0, Option.some.injEq, exists_eq_left', decide_true, decide_false, decide_eq_true_eq, if_true, if_false, Bool.not_true, Bool.not_false, Bool.false_eq_true, Bool.true_eq_false, Bool.not_eq_true', decide_eq_false_iff_not, not_false_eq_true, not_true_eq_false, reduceCtorEq, bx_e, al_e, fa_e, ld_e, ad_e, su_e, mu_e, lt_e, le_e, gt_e, ge_e, eqi_e, nei_e, qu_e, re_e, cv_e, nt_e, pk_t, pk_f, pk_e, eqb_e, neb_e, nc_e, ex_e, lnl_e, lns_e, idv_e, cl_e, cnd_e, gd_e, gd_u, gdu_e, rt_e, jn_e, dr_q, kp_e, mnm_e, mxm_e, mif_e, asrt_e, eqs_e, nes_e, cond_true, cond_false, Bool.true_and, Bool.and_true, Bool.false_and, Bool.and_false, decide_not]
  refine f12_s _ fun w10 hb10 => ?_
  try simp only [↓bx_e, ↓al_e, ↓fa_e, ↓ld_e, ↓ad_e, ↓su_e, ↓mu_e, ↓lt_e, ↓le_e, ↓gt_e, ↓ge_e, ↓eqi_e, ↓nei_e, ↓qu_e, ↓re_e, ↓cv_e, ↓nt_e, ↓pk_t, ↓pk_f, ↓pk_e, ↓eqb_e, ↓neb_e, ↓nc_e, ↓ex_e, ↓lnl_e, ↓lns_e, ↓idv_e, ↓cl_e, ↓cnd_e, ↓gd_e, ↓gd_u, ↓gdu_e, ↓rt_e, ↓jn_e, ↓dr_q, ↓kp_e, ↓mnm_e, ↓mxm_e, ↓mif_e, ↓asrt_e, ↓eqs_e, ↓nes_e, Value.cells, add_lit, cell_psh_new, cell_drw, Nat.zero_add, Nat.reduceAdd, get4_0, get4_1, get4_2, get4_3, get3_0, get3_1, get3_2, get2_0, get2_1, get1_0, Option.some.injEq, exists_eq_left', decide_true, decide_false, decide_eq_true_eq, if_true, if_false, Bool.not_true, Bool.not_false, Bool.false_eq_true, Bool.true_eq_false, Bool.not_eq_true', decide_eq_false_iff_not, not_false_eq_true, not_true_eq_false, reduceCtorEq, bx_e, al_e, fa_e, ld_e, ad_e, su_e, mu_e, lt_e, le_e, gt_e, ge_e, eqi_e, nei_e, qu_e, re_e, cv_e, nt_e, pk_t, pk_f, pk_e, eqb_e, neb_e, nc_e, ex_e, lnl_e, lns_e, idv_e, cl_e, cnd_e, gd_e, gd_u, gdu_e, rt_e, jn_e, dr_q, kp_e, mnm_e, mxm_e, mif_e, asrt_e, eqs_e, nes_e, cond_true, cond_false, Bool.true_and, Bool.and_true, Bool.false_and, Bool.and_false, decide_not]
  exact kk w10 (bt hb2 (bt (bt b8 hb9) hb10))
end
end Go.Proofs.Ytjaiodbonffciaa
