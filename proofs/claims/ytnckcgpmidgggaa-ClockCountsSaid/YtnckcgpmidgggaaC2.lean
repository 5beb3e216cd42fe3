/- The round of the times that both have. -/
import Derived.Test.YtnckcgpmidgggaaC1
set_option linter.unusedVariables false
set_option linter.unusedSimpArgs false
namespace Go.Proofs.Ytnckcgpmidgggaa
open Sh RowKit

theorem build27 (a b : Int) (w : World) : (Instr.build 27 #[(0, .int .i64 a), (1, .int .i64 b)]).run Try.prog w = .ok (rdV a b) w := by
  kernel_rfl
theorem build27n (w : World) : (Instr.build 27 #[]).run Try.prog w = .ok (rdV 0 0) w := by
  kernel_rfl
theorem one_rd (E A : Int) : ∀ v ∈ (rdC E A).toList, v.oneCell' = true := by simp [rdC, Value.oneCell']
theorem f9_s (E A : Int) (w : World) (Q : Value → World → Prop) (h : ∀ w', Below w.heap.size w w' → Q (rdV E A) w') : f9 (rdV E A) w Q := by
  unfold f9
  simp only [↓bx_e, ↓al_e]
  rw [show (rdV E A).cells = rdC E A from rfl]
  have hp0 := blk_psh_new (w := w) (o := .cells (rdC E A) 23)
  have b0 := b_psh w (.cells (rdC E A) 23)
  generalize psh w (.cells (rdC E A) 23) = w1 at *
  have hq := blk_psh_new (w := w1) (o := .cells #[.int .i64 0, .int .i64 0] 27)
  have hb := b_psh w1 (.cells #[.int .i64 0, .int .i64 0] 27)
  have b1 := bt b0 hb
  have hp1 := stay hb hp0
  have c0 := cell_of_blk (n := 0) hp1
  have c1 := cell_of_blk (n := 1) hp1
  simp only [↓bx_e, ↓al_e, ↓fa_e, ↓ld_e, ↓ad_e, ↓su_e, ↓mu_e, ↓lt_e, ↓le_e, ↓gt_e, ↓ge_e, ↓eqi_e, ↓nei_e, ↓qu_e, ↓re_e, ↓cv_e, ↓nt_e, ↓pk_t, ↓pk_f, ↓pk_e, ↓eqb_e, ↓neb_e, ↓nc_e, ↓ex_e, ↓lnl_e, ↓lns_e, ↓idv_e, ↓cl_e, ↓cnd_e, ↓gd_e, ↓gd_u, ↓gdu_e, ↓rt_e, ↓jn_e, ↓dr_q, ↓kp_e, ↓mnm_e, ↓mxm_e, ↓mif_e, ↓asrt_e, ↓eqs_e, ↓nes_e, Value.cells, add_lit, cell_psh_new, cell_drw, Nat.zero_add, Nat.reduceAdd, get4_0, get4_1, get4_2, get4_3, get3_0, get3_1, get3_2, get2_0, get2_1, get1_0, Option.some.injEq, exists_eq_left', decide_true, decide_false, decide_eq_true_eq, if_true, if_false, Bool.not_true, Bool.not_false, Bool.false_eq_true, Bool.true_eq_false, Bool.not_eq_true', decide_eq_false_iff_not, not_false_eq_true, not_true_eq_false, reduceCtorEq, bx_e, al_e, fa_e, ld_e, ad_e, su_e, mu_e, lt_e, le_e, gt_e, ge_e, eqi_e, nei_e, qu_e, re_e, cv_e, nt_e, pk_t, pk_f, pk_e, eqb_e, neb_e, nc_e, ex_e, lnl_e, lns_e, idv_e, cl_e, cnd_e, gd_e, gd_u, gdu_e, rt_e, jn_e, dr_q, kp_e, mnm_e, mxm_e, mif_e, asrt_e, eqs_e, nes_e, cond_true, cond_false, Bool.true_and, Bool.and_true, Bool.false_and, Bool.and_false, decide_not, c0, c1, rdC]
  rw [smr_e]
  refine ⟨_, build27 E A _, ?_⟩
  refine stn_box (cs := rdC E A) hq rfl rfl (one_rd E A) fun w3 hw3 hu3 => ?_
  refine ldn_box hw3 rfl ?_
  rw [rt_e]
  exact h _ (b1.trans (hu3.below b0.size))

/-- what a meeting is -/
structure Met (Ea Aa Eb Ab E A : Int) : Prop where
  e1 : 1 ≤ E
  e2 : E ≤ 1099511627776
  a0 : 0 ≤ A
  a1 : A < E
  da : Ea ∣ E
  db : Eb ∣ E
  lcm : ∀ z, Ea ∣ z → Eb ∣ z → E ∣ z
  ra : Ea ∣ A - Aa
  rb : Eb ∣ A - Ab

theorem met_of {Ea Aa Eb Ab g p st c i u k A n m : Int} (hp : Ea = g * p) (hq : Eb = g * st) (hg : 1 ≤ g) (hc : Ab - Aa = g * c) (hi : p * i = 1 + st * u) (hk : k = c * i - st * n)
    (hA : A = Aa + Ea * k - Ea * st * m) (h0 : 0 ≤ A) (h1 : A < Ea * st) (hE : Ea * st ≤ 1099511627776) : Met Ea Aa Eb Ab (Ea * st) A := by
  refine ⟨by omega, hE, h0, h1, ⟨st, rfl⟩, ⟨p, by grind⟩, ?_, ⟨k - st * m, by grind⟩, ⟨c * u - p * n - p * m, by grind⟩⟩
  rintro z ⟨x, hx⟩ ⟨y, hy⟩
  -- g p x = g st y, so p x = st y, x = x p i - x st u = st (y i - x u)
  have h3 : p * x = st * y := by
    apply Int.eq_of_mul_eq_mul_left (a := g) (by omega)
    grind
  refine ⟨y * i - x * u, ?_⟩
  have : x = st * (y * i - x * u) := by grind
  rw [hx]
  grind

theorem aux1 {k st z x i y c : Int} (hk : k + st * z = x * i) (hm : x + st * y = c) : k = c * i - st * (y * i + z) := by grind
theorem f28_s (Ea Aa Eb Ab g p st c : Int) (hp : Ea = g * p) (hq : Eb = g * st) (hg : 1 ≤ g) (hc : Ab - Aa = g * c) (hEa : 1 ≤ Ea) (hEb : 1 ≤ Eb) (hle : Eb ≤ Ea) (hE : Ea * st ≤ 1099511627776)
    (hAa : 0 ≤ Aa) (hAa2 : Aa < Ea) (hAb : 0 ≤ Ab) (hAb2 : Ab < Eb) (hp1 : 1 ≤ p) (hst : 1 ≤ st) (hco : ∀ d : Int, d ∣ p → d ∣ st → d ∣ 1) (w : World) (Q : Value → World → Prop)
    (h : ∀ w' A, Met Ea Aa Eb Ab (Ea * st) A → Below w.heap.size w w' → Q (.tuple #[rdV (Ea * st) A, .bool true]) w') : f28 (rdV Ea Aa) (rdV Eb Ab) (.int .i64 g) (.int .i64 st) w Q := by
  have hEa2 : Ea ≤ 1099511627776 := by
    have : Ea * 1 ≤ Ea * st := Int.mul_le_mul_of_nonneg_left hst (by omega)
    omega
  have hstE : st ≤ Ea := by
    have : 1 * st ≤ g * st := Int.mul_le_mul_of_nonneg_right hg (by omega)
    omega
  have hpE : p ≤ Ea := by
    have : 1 * p ≤ g * p := Int.mul_le_mul_of_nonneg_right hg (by omega)
    omega
  have hss : st * st ≤ Ea * st := Int.mul_le_mul_of_nonneg_right hstE (by omega)
  have hcb : -1099511627776 ≤ c ∧ c ≤ 1099511627776 := by
    constructor
    · rcases Int.lt_or_le c 0 with z | z
      · have : g * c ≤ 1 * c := Int.mul_le_mul_of_nonpos_right hg (by omega)
        omega
      · omega
    · rcases Int.lt_or_le c 0 with z | z
      · omega
      · have : 1 * c ≤ g * c := Int.mul_le_mul_of_nonneg_right hg (by omega)
        omega
  unfold f28
  simp only [↓bx_e, ↓al_e]
  rw [show (rdV Ea Aa).cells = rdC Ea Aa from rfl, show (rdV Eb Ab).cells = rdC Eb Ab from rfl]
  have q0 := blk_psh_new (w := w) (o := .cells (rdC Ea Aa) 27)
  have b0 := b_psh w (.cells (rdC Ea Aa) 27)
  generalize psh w (.cells (rdC Ea Aa) 27) = w1 at *
  have r1 := blk_psh_new (w := w1) (o := .cells (rdC Eb Ab) 27)
  have hb := b_psh w1 (.cells (rdC Eb Ab) 27)
  have b1 := bt b0 hb
  have q1 := stay hb q0
  generalize psh w1 (.cells (rdC Eb Ab) 27) = w2 at *
  have s2 := blk_psh_new (w := w2) (o := .cells #[.int .i64 0, .int .i64 0] 27)
  have hb2 := b_psh w2 (.cells #[.int .i64 0, .int .i64 0] 27)
  have b2 : Below w.heap.size w (drw (psh w2 (.cells #[.int .i64 0, .int .i64 0] 27))) := Below_drw (bt b1 hb2)
  have q2 : (drw (psh w2 (.cells #[.int .i64 0, .int .i64 0] 27))).heap[w.heap.size]? = _ := (stay hb2 q1 :)
  have r2 : (drw (psh w2 (.cells #[.int .i64 0, .int .i64 0] 27))).heap[w1.heap.size]? = _ := (stay hb2 r1 :)
  have s2 : (drw (psh w2 (.cells #[.int .i64 0, .int .i64 0] 27))).heap[w2.heap.size]? = _ := s2
  rw [dr_q]
  have hsz : w.heap.size ≤ w2.heap.size := b1.size
  generalize drw (psh w2 (.cells #[.int .i64 0, .int .i64 0] 27)) = w3 at *
  have c40 := cell_of_blk (n := 0) q2
  have c41 := cell_of_blk (n := 1) q2
  have c51 := cell_of_blk (n := 1) r2
  have e1 : IntKind.i64.wrap (Ab - Aa) = g * c := by rw [← hc]; exact w64' (by omega) (by omega)
  have e2 : IntKind.i64.wrap ((g * c).tdiv g) = c := by rw [Int.mul_tdiv_cancel_left _ (by omega)]; exact w64' (by omega) (by omega)
  have e3 : IntKind.i64.wrap (Ea.tdiv g) = p := by rw [hp, Int.mul_tdiv_cancel_left _ (by omega)]; exact w64' (by omega) (by omega)
  have hgne : ¬ g = 0 := by omega
  have hstne : ¬ st = 0 := by omega
  simp only [↓bx_e, ↓al_e, ↓fa_e, ↓ld_e, ↓ad_e, ↓su_e, ↓mu_e, ↓lt_e, ↓le_e, ↓gt_e, ↓ge_e, ↓eqi_e, ↓nei_e, ↓qu_e, ↓re_e, ↓cv_e, ↓nt_e, ↓pk_t, ↓pk_f, ↓pk_e, ↓eqb_e, ↓neb_e, ↓nc_e, ↓ex_e, ↓lnl_e, ↓lns_e, ↓idv_e, ↓cl_e, ↓cnd_e, ↓gd_e, ↓gd_u, ↓gdu_e, ↓rt_e, ↓jn_e, ↓dr_q, ↓kp_e, ↓mnm_e, ↓mxm_e, ↓mif_e, ↓asrt_e, ↓eqs_e, ↓nes_e, Value.cells, add_lit, cell_psh_new, cell_drw, Nat.zero_add, Nat.reduceAdd, get4_0, get4_1, get4_2, get4_3, get3_0, get3_1, get3_2, get2_0, get2_1, get1_0, Option.some.injEq, exists_eq_left', decide_true, decide_false, decide_eq_true_eq, if_true, if_false, Bool.not_true, Bool.not_false, Bool.false_eq_true, Bool.true_eq_false, Bool.not_eq_true', decide_eq_false_iff_not, not_false_eq_true, not_true_eq_false, reduceCtorEq, bx_e, al_e, fa_e, ld_e, ad_e, su_e, mu_e, lt_e, le_e, gt_e, ge_e, eqi_e, nei_e, qu_e, re_e, cv_e, nt_e, pk_t, pk_f, pk_e, eqb_e, neb_e, nc_e, ex_e, lnl_e, lns_e, idv_e, cl_e, cnd_e, gd_e, gd_u, gdu_e, rt_e, jn_e, dr_q, kp_e, mnm_e, mxm_e, mif_e, asrt_e, eqs_e, nes_e, cond_true, cond_false, Bool.true_and, Bool.and_true, Bool.false_and, Bool.and_false, decide_not, c40, c41, c51, rdC, e1, ne_eq, hgne, hstne, not_false_eq_true, true_and, e2, e3]
  refine f27_s _ _ hst (by omega) _ _ ?_
  simp only [↓bx_e, ↓al_e, ↓fa_e, ↓ld_e, ↓ad_e, ↓su_e, ↓mu_e, ↓lt_e, ↓le_e, ↓gt_e, ↓ge_e, ↓eqi_e, ↓nei_e, ↓qu_e, ↓re_e, ↓cv_e, ↓nt_e, ↓pk_t, ↓pk_f, ↓pk_e, ↓eqb_e, ↓neb_e, ↓nc_e, ↓ex_e, ↓lnl_e, ↓lns_e, ↓idv_e, ↓cl_e, ↓cnd_e, ↓gd_e, ↓gd_u, ↓gdu_e, ↓rt_e, ↓jn_e, ↓dr_q, ↓kp_e, ↓mnm_e, ↓mxm_e, ↓mif_e, ↓asrt_e, ↓eqs_e, ↓nes_e, Value.cells, add_lit, cell_psh_new, cell_drw, Nat.zero_add, Nat.reduceAdd, get4_0, get4_1, get4_2, get4_3, get3_0, get3_1, get3_2, get2_0, get2_1, get1_0, Option.some.injEq, exists_eq_left', decide_true, decide_false, decide_eq_true_eq, if_true, if_false, Bool.not_true, Bool.not_false, Bool.false_eq_true, Bool.true_eq_false, Bool.not_eq_true', decide_eq_false_iff_not, not_false_eq_true, not_true_eq_false, reduceCtorEq, bx_e, al_e, fa_e, ld_e, ad_e, su_e, mu_e, lt_e, le_e, gt_e, ge_e, eqi_e, nei_e, qu_e, re_e, cv_e, nt_e, pk_t, pk_f, pk_e, eqb_e, neb_e, nc_e, ex_e, lnl_e, lns_e, idv_e, cl_e, cnd_e, gd_e, gd_u, gdu_e, rt_e, jn_e, dr_q, kp_e, mnm_e, mxm_e, mif_e, asrt_e, eqs_e, nes_e, cond_true, cond_false, Bool.true_and, Bool.and_true, Bool.false_and, Bool.and_false, decide_not, Kld_e, c40, rdC, true_and]
  refine f32_s _ _ hst (by omega) hco _ _ fun i u hi0 hi1 hi => ?_
  have hm0 := Int.emod_nonneg c (show st ≠ 0 by omega)
  have hm1 := Int.emod_lt_of_pos c (show 0 < st by omega)
  have hm2 := Int.emod_add_mul_ediv c st
  have hpr0 : 0 ≤ c % st * i := Int.mul_nonneg hm0 hi0
  have hpr1 : c % st * i ≤ st * st := Int.mul_le_mul (by omega) (by omega) hi0 (by omega)
  have e4 : IntKind.i64.wrap (c % st * i) = c % st * i := w64' (by omega) (by omega)
  have hk := Int.emod_add_mul_ediv (c % st * i) st
  have hk0 := Int.emod_nonneg (c % st * i) (show st ≠ 0 by omega)
  have hk1 := Int.emod_lt_of_pos (c % st * i) (show 0 < st by omega)
  have e5 : (c % st * i).tmod st = c % st * i % st := Int.tmod_eq_emod_of_nonneg hpr0
  simp only [↓bx_e, ↓al_e, ↓fa_e, ↓ld_e, ↓ad_e, ↓su_e, ↓mu_e, ↓lt_e, ↓le_e, ↓gt_e, ↓ge_e, ↓eqi_e, ↓nei_e, ↓qu_e, ↓re_e, ↓cv_e, ↓nt_e, ↓pk_t, ↓pk_f, ↓pk_e, ↓eqb_e, ↓neb_e, ↓nc_e, ↓ex_e, ↓lnl_e, ↓lns_e, ↓idv_e, ↓cl_e, ↓cnd_e, ↓gd_e, ↓gd_u, ↓gdu_e, ↓rt_e, ↓jn_e, ↓dr_q, ↓kp_e, ↓mnm_e, ↓mxm_e, ↓mif_e, ↓asrt_e, ↓eqs_e, ↓nes_e, Value.cells, add_lit, cell_psh_new, cell_drw, Nat.zero_add, Nat.reduceAdd, get4_0, get4_1, get4_2, get4_3, get3_0, get3_1, get3_2, get2_0, get2_1, get1_0, Option.some.injEq, exists_eq_left', decide_true, decide_false, decide_eq_true_eq, if_true, if_false, Bool.not_true, Bool.not_false, Bool.false_eq_true, Bool.true_eq_false, Bool.not_eq_true', decide_eq_false_iff_not, not_false_eq_true, not_true_eq_false, reduceCtorEq, bx_e, al_e, fa_e, ld_e, ad_e, su_e, mu_e, lt_e, le_e, gt_e, ge_e, eqi_e, nei_e, qu_e, re_e, cv_e, nt_e, pk_t, pk_f, pk_e, eqb_e, neb_e, nc_e, ex_e, lnl_e, lns_e, idv_e, cl_e, cnd_e, gd_e, gd_u, gdu_e, rt_e, jn_e, dr_q, kp_e, mnm_e, mxm_e, mif_e, asrt_e, eqs_e, nes_e, cond_true, cond_false, Bool.true_and, Bool.and_true, Bool.false_and, Bool.and_false, decide_not, ne_eq, hstne, not_false_eq_true, true_and, e4, e5]
  obtain ⟨k, hkk⟩ : ∃ k, k = c % st * i % st := ⟨_, rfl⟩
  rw [← hkk] at hk hk0 hk1 ⊢
  have hEs : 0 ≤ Ea * st := Int.mul_nonneg (by omega) (by omega)
  have e6 : IntKind.i64.wrap (Ea * st) = Ea * st := w64' (by omega) (by omega)
  have hEk0 : 0 ≤ Ea * k := Int.mul_nonneg (by omega) hk0
  have hEk1 : Ea * k ≤ Ea * st := Int.mul_le_mul_of_nonneg_left (by omega) (by omega)
  have e7 : IntKind.i64.wrap (Ea * k) = Ea * k := w64' (by omega) (by omega)
  have e8 : IntKind.i64.wrap (Aa + Ea * k) = Aa + Ea * k := w64' (by omega) (by omega)
  simp only [↓bx_e, ↓al_e, ↓fa_e, ↓ld_e, ↓ad_e, ↓su_e, ↓mu_e, ↓lt_e, ↓le_e, ↓gt_e, ↓ge_e, ↓eqi_e, ↓nei_e, ↓qu_e, ↓re_e, ↓cv_e, ↓nt_e, ↓pk_t, ↓pk_f, ↓pk_e, ↓eqb_e, ↓neb_e, ↓nc_e, ↓ex_e, ↓lnl_e, ↓lns_e, ↓idv_e, ↓cl_e, ↓cnd_e, ↓gd_e, ↓gd_u, ↓gdu_e, ↓rt_e, ↓jn_e, ↓dr_q, ↓kp_e, ↓mnm_e, ↓mxm_e, ↓mif_e, ↓asrt_e, ↓eqs_e, ↓nes_e, Value.cells, add_lit, cell_psh_new, cell_drw, Nat.zero_add, Nat.reduceAdd, get4_0, get4_1, get4_2, get4_3, get3_0, get3_1, get3_2, get2_0, get2_1, get1_0, Option.some.injEq, exists_eq_left', decide_true, decide_false, decide_eq_true_eq, if_true, if_false, Bool.not_true, Bool.not_false, Bool.false_eq_true, Bool.true_eq_false, Bool.not_eq_true', decide_eq_false_iff_not, not_false_eq_true, not_true_eq_false, reduceCtorEq, bx_e, al_e, fa_e, ld_e, ad_e, su_e, mu_e, lt_e, le_e, gt_e, ge_e, eqi_e, nei_e, qu_e, re_e, cv_e, nt_e, pk_t, pk_f, pk_e, eqb_e, neb_e, nc_e, ex_e, lnl_e, lns_e, idv_e, cl_e, cnd_e, gd_e, gd_u, gdu_e, rt_e, jn_e, dr_q, kp_e, mnm_e, mxm_e, mif_e, asrt_e, eqs_e, nes_e, cond_true, cond_false, Bool.true_and, Bool.and_true, Bool.false_and, Bool.and_false, decide_not, c40, c41, rdC, e6, e7, e8]
  have hE1 : 1 ≤ Ea * st := by
    have : 1 * 1 ≤ Ea * st := Int.mul_le_mul hEa hst (by omega) (by omega)
    omega
  refine f27_s _ _ hE1 hE _ _ ?_
  rw [smr_e]
  refine ⟨_, build27 _ _ _, ?_⟩
  refine stn_box (cs := rdC _ _) s2 rfl rfl (one_rd _ _) fun w4 hw4 hu4 => ?_
  refine ldn_box hw4 rfl ?_
  rw [rt_e]
  refine h _ _ ?_ (b2.trans (hu4.below hsz))
  have hA0 := Int.emod_nonneg (Aa + Ea * k) (show Ea * st ≠ 0 by omega)
  have hA1 := Int.emod_lt_of_pos (Aa + Ea * k) (show 0 < Ea * st by omega)
  have hA2 := Int.emod_add_mul_ediv (Aa + Ea * k) (Ea * st)
  refine met_of (k := k) (i := i) (u := u) (c := c) (n := (c / st) * i + (c % st * i / st)) (m := (Aa + Ea * k) / (Ea * st)) hp hq hg hc hi ?_ ?_ hA0 hA1 hE
  · exact aux1 hk hm2
  · omega
end Go.Proofs.Ytnckcgpmidgggaa
