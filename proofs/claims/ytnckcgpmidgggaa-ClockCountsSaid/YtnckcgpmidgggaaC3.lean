/- Where two rounds meet, any two. -/
import Derived.Test.YtnckcgpmidgggaaC2
set_option linter.unusedVariables false
set_option linter.unusedSimpArgs false
namespace Go.Proofs.Ytnckcgpmidgggaa
open Sh RowKit

theorem gcd_parts {a b : Nat} (ha : 1 ≤ a) (hb : 1 ≤ b) : ∃ g p q : Int, ((Nat.gcd a b : Nat) : Int) = g ∧ 1 ≤ g ∧ 1 ≤ p ∧ 1 ≤ q ∧ (a : Int) = g * p ∧ (b : Int) = g * q ∧ (∀ d : Int, d ∣ p → d ∣ q → d ∣ 1) := by
  obtain ⟨p, hp⟩ := Nat.gcd_dvd_left a b
  obtain ⟨q, hq⟩ := Nat.gcd_dvd_right a b
  have hg : 0 < Nat.gcd a b := Nat.gcd_pos_of_pos_left _ (by omega)
  refine ⟨_, p, q, rfl, by omega, ?_, ?_, ?_, ?_, ?_⟩
  · rcases Nat.eq_zero_or_pos p with z | z
    · rw [z, Nat.mul_zero] at hp; omega
    · omega
  · rcases Nat.eq_zero_or_pos q with z | z
    · rw [z, Nat.mul_zero] at hq; omega
    · omega
  · exact_mod_cast hp
  · exact_mod_cast hq
  · intro d h1 h2
    have d1 : ((Nat.gcd a b : Nat) : Int) * d ∣ (a : Int) := by
      have : (a : Int) = ((Nat.gcd a b : Nat) : Int) * p := by exact_mod_cast hp
      rw [this]; exact Int.mul_dvd_mul_left _ h1
    have d2 : ((Nat.gcd a b : Nat) : Int) * d ∣ (b : Int) := by
      have : (b : Int) = ((Nat.gcd a b : Nat) : Int) * q := by exact_mod_cast hq
      rw [this]; exact Int.mul_dvd_mul_left _ h2
    have d3 := Int.dvd_coe_gcd d1 d2
    have e : (((a : Int).gcd (b : Int) : Nat) : Int) = ((Nat.gcd a b : Nat) : Int) * 1 := by
      rw [Int.mul_one]; rfl
    rw [e] at d3
    exact Int.dvd_of_mul_dvd_mul_left (by omega) d3

theorem div_lt {x y N : Int} (hx : 1 ≤ x) : N / x < y ↔ N < x * y := by
  rw [Int.ediv_lt_iff_lt_mul (by omega), Int.mul_comm]

theorem f17_j1_s (a b : Nat) (Aa Ab : Int) (ha : rrB a Aa = true) (hb : rrB b Ab = true) (hle : b ≤ a) {p2 p3 p4 : Nat} {z : Array Value} {w : World} {Q : Value → World → Prop} {B : Nat} (hz : z.size = 2)
    (h2 : w.heap[p2]? = some (.cells (rdC a Aa) 27)) (h3 : w.heap[p3]? = some (.cells (rdC b Ab) 27)) (h4 : w.heap[p4]? = some (.cells z 27)) (hB : B ≤ p4)
    (k1 : ∀ w' E A, Met a Aa b Ab E A → Below B w w' → Q (.tuple #[rdV E A, .bool true]) w')
    (k2 : ∀ w', (1099511627776 < (a : Int) * ((b : Int) / (Nat.gcd a b : Nat)) ∨ ¬ ((Nat.gcd a b : Nat) : Int) ∣ Aa - Ab) → Below B w w' → Q (.tuple #[rdV 0 0, .bool false]) w') :
    f17_j1 (.pointer (some ⟨p2, 0, none⟩)) (.pointer (some ⟨p3, 0, none⟩)) (.pointer (some ⟨p4, 0, none⟩)) w Q := by
  obtain ⟨a1, a2, a3, a4⟩ := rrB_t.1 ha
  obtain ⟨b1, b2, b3, b4⟩ := rrB_t.1 hb
  obtain ⟨g, p, q, hg, hg1, hp1, hq1, hp, hq, hco⟩ := gcd_parts (a := a) (b := b) (by omega) (by omega)
  have hBw : B ≤ w.heap.size := by have := blk_lt h4; omega
  have c20 := cell_of_blk (n := 0) h2
  have c30 := cell_of_blk (n := 0) h3
  unfold f17_j1
  simp only [↓bx_e, ↓al_e, ↓fa_e, ↓ld_e, ↓ad_e, ↓su_e, ↓mu_e, ↓lt_e, ↓le_e, ↓gt_e, ↓ge_e, ↓eqi_e, ↓nei_e, ↓qu_e, ↓re_e, ↓cv_e, ↓nt_e, ↓pk_t, ↓pk_f, ↓pk_e, ↓eqb_e, ↓neb_e, ↓nc_e, ↓ex_e, ↓lnl_e, ↓lns_e, ↓idv_e, ↓cl_e, ↓cnd_e, ↓gd_e, ↓gd_u, ↓gdu_e, ↓rt_e, ↓jn_e, ↓dr_q, ↓kp_e, ↓mnm_e, ↓mxm_e, ↓mif_e, ↓asrt_e, ↓eqs_e, ↓nes_e, Value.cells, add_lit, cell_psh_new, cell_drw, Nat.zero_add, Nat.reduceAdd, get4_0, get4_1, get4_2, get4_3, get3_0, get3_1, get3_2, get2_0, get2_1, get1_0, Option.some.injEq, exists_eq_left', decide_true, decide_false, decide_eq_true_eq, if_true, if_false, Bool.not_true, Bool.not_false, Bool.false_eq_true, Bool.true_eq_false, Bool.not_eq_true', decide_eq_false_iff_not, not_false_eq_true, not_true_eq_false, reduceCtorEq, bx_e, al_e, fa_e, ld_e, ad_e, su_e, mu_e, lt_e, le_e, gt_e, ge_e, eqi_e, nei_e, qu_e, re_e, cv_e, nt_e, pk_t, pk_f, pk_e, eqb_e, neb_e, nc_e, ex_e, lnl_e, lns_e, idv_e, cl_e, cnd_e, gd_e, gd_u, gdu_e, rt_e, jn_e, dr_q, kp_e, mnm_e, mxm_e, mif_e, asrt_e, eqs_e, nes_e, cond_true, cond_false, Bool.true_and, Bool.and_true, Bool.false_and, Bool.and_false, decide_not, c20, c30, rdC]
  refine f26_s a b (by omega) (by omega) _ _ fun w1 hb1 => ?_
  have h2 := stay hb1 h2
  have h3 := stay hb1 h3
  have h4 := stay hb1 h4
  have bB : Below B w w1 := hb1.mono hBw
  have c20 := cell_of_blk (n := 0) h2
  have c21 := cell_of_blk (n := 1) h2
  have c30 := cell_of_blk (n := 0) h3
  have c31 := cell_of_blk (n := 1) h3
  rw [hg]
  have hgne : ¬ g = 0 := by omega
  have hane : ¬ (a : Int) = 0 := by omega
  have e1 : IntKind.i64.wrap ((b : Int).tdiv g) = q := by rw [hq, Int.mul_tdiv_cancel_left _ (by omega)]; refine w64' (by omega) ?_; have : 1 * q ≤ g * q := Int.mul_le_mul_of_nonneg_right hg1 (by omega); omega
  have e2 : IntKind.i64.wrap ((1099511627776 : Int).tdiv a) = 1099511627776 / (a : Int) := by
    rw [Int.tdiv_eq_ediv_of_nonneg (by omega)]
    have := Int.ediv_nonneg (show (0 : Int) ≤ 1099511627776 by omega) (show (0 : Int) ≤ a by omega)
    have := Int.ediv_le_self (a := 1099511627776) a (by omega)
    exact w64' (by omega) (by omega)
  have e3 : IntKind.i64.wrap (Aa - Ab) = Aa - Ab := w64' (by omega) (by omega)
  have hdq : (b : Int) / ((Nat.gcd a b : Nat) : Int) = q := by rw [hg, hq, Int.mul_ediv_cancel_left _ (by omega)]
  have fin : (1099511627776 < (a : Int) * ((b : Int) / (Nat.gcd a b : Nat)) ∨ ¬ ((Nat.gcd a b : Nat) : Int) ∣ Aa - Ab) →
      (smr Try.prog (Instr.build 27 #[]) fun t48 => stn 2 (.pointer (some ⟨p4, 0, none⟩)) t48 <| ldn 2 (.pointer (some ⟨p4, 0, none⟩)) fun r0 => rt (.tuple #[r0, (.bool false)])) w1 Q := by
    intro hc
    rw [smr_e]
    refine ⟨_, build27n _, ?_⟩
    refine stn_box (cs := rdC 0 0) h4 hz rfl (one_rd _ _) fun w4 hw4 hu4 => ?_
    refine ldn_box hw4 rfl ?_
    rw [rt_e]
    exact k2 _ hc (bB.trans (hu4.below hB))
  by_cases c1 : 1099511627776 / (a : Int) < q
  · have := (div_lt a1).1 c1
    simp only [↓bx_e, ↓al_e, ↓fa_e, ↓ld_e, ↓ad_e, ↓su_e, ↓mu_e, ↓lt_e, ↓le_e, ↓gt_e, ↓ge_e, ↓eqi_e, ↓nei_e, ↓qu_e, ↓re_e, ↓cv_e, ↓nt_e, ↓pk_t, ↓pk_f, ↓pk_e, ↓eqb_e, ↓neb_e, ↓nc_e, ↓ex_e, ↓lnl_e, ↓lns_e, ↓idv_e, ↓cl_e, ↓cnd_e, ↓gd_e, ↓gd_u, ↓gdu_e, ↓rt_e, ↓jn_e, ↓dr_q, ↓kp_e, ↓mnm_e, ↓mxm_e, ↓mif_e, ↓asrt_e, ↓eqs_e, ↓nes_e, Value.cells, add_lit, cell_psh_new, cell_drw, Nat.zero_add, Nat.reduceAdd, get4_0, get4_1, get4_2, get4_3, get3_0, get3_1, get3_2, get2_0, get2_1, get1_0, Option.some.injEq, exists_eq_left', decide_true, decide_false, decide_eq_true_eq, if_true, if_false, Bool.not_true, Bool.not_false, Bool.false_eq_true, Bool.true_eq_false, Bool.not_eq_true', decide_eq_false_iff_not, not_false_eq_true, not_true_eq_false, reduceCtorEq, bx_e, al_e, fa_e, ld_e, ad_e, su_e, mu_e, lt_e, le_e, gt_e, ge_e, eqi_e, nei_e, qu_e, re_e, cv_e, nt_e, pk_t, pk_f, pk_e, eqb_e, neb_e, nc_e, ex_e, lnl_e, lns_e, idv_e, cl_e, cnd_e, gd_e, gd_u, gdu_e, rt_e, jn_e, dr_q, kp_e, mnm_e, mxm_e, mif_e, asrt_e, eqs_e, nes_e, cond_true, cond_false, Bool.true_and, Bool.and_true, Bool.false_and, Bool.and_false, decide_not, c20, c30, rdC, ne_eq, hgne, hane, not_false_eq_true, true_and, e1, e2, c1]
    exact fin (.inl (by rw [hdq]; exact this))
  · have hE : (a : Int) * q ≤ 1099511627776 := by
      exact Int.not_lt.1 fun h => c1 ((div_lt a1).2 h)
    simp only [↓bx_e, ↓al_e, ↓fa_e, ↓ld_e, ↓ad_e, ↓su_e, ↓mu_e, ↓lt_e, ↓le_e, ↓gt_e, ↓ge_e, ↓eqi_e, ↓nei_e, ↓qu_e, ↓re_e, ↓cv_e, ↓nt_e, ↓pk_t, ↓pk_f, ↓pk_e, ↓eqb_e, ↓neb_e, ↓nc_e, ↓ex_e, ↓lnl_e, ↓lns_e, ↓idv_e, ↓cl_e, ↓cnd_e, ↓gd_e, ↓gd_u, ↓gdu_e, ↓rt_e, ↓jn_e, ↓dr_q, ↓kp_e, ↓mnm_e, ↓mxm_e, ↓mif_e, ↓asrt_e, ↓eqs_e, ↓nes_e, Value.cells, add_lit, cell_psh_new, cell_drw, Nat.zero_add, Nat.reduceAdd, get4_0, get4_1, get4_2, get4_3, get3_0, get3_1, get3_2, get2_0, get2_1, get1_0, Option.some.injEq, exists_eq_left', decide_true, decide_false, decide_eq_true_eq, if_true, if_false, Bool.not_true, Bool.not_false, Bool.false_eq_true, Bool.true_eq_false, Bool.not_eq_true', decide_eq_false_iff_not, not_false_eq_true, not_true_eq_false, reduceCtorEq, bx_e, al_e, fa_e, ld_e, ad_e, su_e, mu_e, lt_e, le_e, gt_e, ge_e, eqi_e, nei_e, qu_e, re_e, cv_e, nt_e, pk_t, pk_f, pk_e, eqb_e, neb_e, nc_e, ex_e, lnl_e, lns_e, idv_e, cl_e, cnd_e, gd_e, gd_u, gdu_e, rt_e, jn_e, dr_q, kp_e, mnm_e, mxm_e, mif_e, asrt_e, eqs_e, nes_e, cond_true, cond_false, Bool.true_and, Bool.and_true, Bool.false_and, Bool.and_false, decide_not, c20, c21, c30, c31, rdC, ne_eq, hgne, hane, not_false_eq_true, true_and, e1, e2, e3, c1]
    have hgb : g ≤ b := by
      have : g * 1 ≤ g * q := Int.mul_le_mul_of_nonneg_left hq1 (by omega)
      omega
    refine f27_s _ _ hg1 (by omega) _ _ ?_
    by_cases c2 : (Aa - Ab) % g = 0
    · simp only [↓bx_e, ↓al_e, ↓fa_e, ↓ld_e, ↓ad_e, ↓su_e, ↓mu_e, ↓lt_e, ↓le_e, ↓gt_e, ↓ge_e, ↓eqi_e, ↓nei_e, ↓qu_e, ↓re_e, ↓cv_e, ↓nt_e, ↓pk_t, ↓pk_f, ↓pk_e, ↓eqb_e, ↓neb_e, ↓nc_e, ↓ex_e, ↓lnl_e, ↓lns_e, ↓idv_e, ↓cl_e, ↓cnd_e, ↓gd_e, ↓gd_u, ↓gdu_e, ↓rt_e, ↓jn_e, ↓dr_q, ↓kp_e, ↓mnm_e, ↓mxm_e, ↓mif_e, ↓asrt_e, ↓eqs_e, ↓nes_e, Value.cells, add_lit, cell_psh_new, cell_drw, Nat.zero_add, Nat.reduceAdd, get4_0, get4_1, get4_2, get4_3, get3_0, get3_1, get3_2, get2_0, get2_1, get1_0, Option.some.injEq, exists_eq_left', decide_true, decide_false, decide_eq_true_eq, if_true, if_false, Bool.not_true, Bool.not_false, Bool.false_eq_true, Bool.true_eq_false, Bool.not_eq_true', decide_eq_false_iff_not, not_false_eq_true, not_true_eq_false, reduceCtorEq, bx_e, al_e, fa_e, ld_e, ad_e, su_e, mu_e, lt_e, le_e, gt_e, ge_e, eqi_e, nei_e, qu_e, re_e, cv_e, nt_e, pk_t, pk_f, pk_e, eqb_e, neb_e, nc_e, ex_e, lnl_e, lns_e, idv_e, cl_e, cnd_e, gd_e, gd_u, gdu_e, rt_e, jn_e, dr_q, kp_e, mnm_e, mxm_e, mif_e, asrt_e, eqs_e, nes_e, cond_true, cond_false, Bool.true_and, Bool.and_true, Bool.false_and, Bool.and_false, decide_not, c2, ne_eq, not_true_eq_false]
      refine ldn_box h2 rfl ?_
      refine ldn_box h3 rfl ?_
      rw [cl_e]
      obtain ⟨c, hc⟩ := Int.dvd_of_emod_eq_zero c2
      refine f28_s a Aa b Ab g p q (-c) hp hq hg1 (by rw [Int.mul_neg]; omega) a1 b1 (by omega) hE a3 a4 b3 b4 hp1 hq1 hco _ _ fun w2 A hm hb2 => ?_
      have h4 := stay hb2 h4
      simp only [↓bx_e, ↓al_e, ↓fa_e, ↓ld_e, ↓ad_e, ↓su_e, ↓mu_e, ↓lt_e, ↓le_e, ↓gt_e, ↓ge_e, ↓eqi_e, ↓nei_e, ↓qu_e, ↓re_e, ↓cv_e, ↓nt_e, ↓pk_t, ↓pk_f, ↓pk_e, ↓eqb_e, ↓neb_e, ↓nc_e, ↓ex_e, ↓lnl_e, ↓lns_e, ↓idv_e, ↓cl_e, ↓cnd_e, ↓gd_e, ↓gd_u, ↓gdu_e, ↓rt_e, ↓jn_e, ↓dr_q, ↓kp_e, ↓mnm_e, ↓mxm_e, ↓mif_e, ↓asrt_e, ↓eqs_e, ↓nes_e, Value.cells, add_lit, cell_psh_new, cell_drw, Nat.zero_add, Nat.reduceAdd, get4_0, get4_1, get4_2, get4_3, get3_0, get3_1, get3_2, get2_0, get2_1, get1_0, Option.some.injEq, exists_eq_left', decide_true, decide_false, decide_eq_true_eq, if_true, if_false, Bool.not_true, Bool.not_false, Bool.false_eq_true, Bool.true_eq_false, Bool.not_eq_true', decide_eq_false_iff_not, not_false_eq_true, not_true_eq_false, reduceCtorEq, bx_e, al_e, fa_e, ld_e, ad_e, su_e, mu_e, lt_e, le_e, gt_e, ge_e, eqi_e, nei_e, qu_e, re_e, cv_e, nt_e, pk_t, pk_f, pk_e, eqb_e, neb_e, nc_e, ex_e, lnl_e, lns_e, idv_e, cl_e, cnd_e, gd_e, gd_u, gdu_e, rt_e, jn_e, dr_q, kp_e, mnm_e, mxm_e, mif_e, asrt_e, eqs_e, nes_e, cond_true, cond_false, Bool.true_and, Bool.and_true, Bool.false_and, Bool.and_false, decide_not]
      refine stn_box (cs := rdC _ _) h4 hz rfl (one_rd _ _) fun w4 hw4 hu4 => ?_
      refine ldn_box hw4 rfl ?_
      rw [rt_e]
      refine k1 _ _ _ hm ((bB.trans (hb2.mono ?_)).trans (hu4.below hB))
      have := bB.size
      omega
    · simp only [↓bx_e, ↓al_e, ↓fa_e, ↓ld_e, ↓ad_e, ↓su_e, ↓mu_e, ↓lt_e, ↓le_e, ↓gt_e, ↓ge_e, ↓eqi_e, ↓nei_e, ↓qu_e, ↓re_e, ↓cv_e, ↓nt_e, ↓pk_t, ↓pk_f, ↓pk_e, ↓eqb_e, ↓neb_e, ↓nc_e, ↓ex_e, ↓lnl_e, ↓lns_e, ↓idv_e, ↓cl_e, ↓cnd_e, ↓gd_e, ↓gd_u, ↓gdu_e, ↓rt_e, ↓jn_e, ↓dr_q, ↓kp_e, ↓mnm_e, ↓mxm_e, ↓mif_e, ↓asrt_e, ↓eqs_e, ↓nes_e, Value.cells, add_lit, cell_psh_new, cell_drw, Nat.zero_add, Nat.reduceAdd, get4_0, get4_1, get4_2, get4_3, get3_0, get3_1, get3_2, get2_0, get2_1, get1_0, Option.some.injEq, exists_eq_left', decide_true, decide_false, decide_eq_true_eq, if_true, if_false, Bool.not_true, Bool.not_false, Bool.false_eq_true, Bool.true_eq_false, Bool.not_eq_true', decide_eq_false_iff_not, not_false_eq_true, not_true_eq_false, reduceCtorEq, bx_e, al_e, fa_e, ld_e, ad_e, su_e, mu_e, lt_e, le_e, gt_e, ge_e, eqi_e, nei_e, qu_e, re_e, cv_e, nt_e, pk_t, pk_f, pk_e, eqb_e, neb_e, nc_e, ex_e, lnl_e, lns_e, idv_e, cl_e, cnd_e, gd_e, gd_u, gdu_e, rt_e, jn_e, dr_q, kp_e, mnm_e, mxm_e, mif_e, asrt_e, eqs_e, nes_e, cond_true, cond_false, Bool.true_and, Bool.and_true, Bool.false_and, Bool.and_false, decide_not, c2, ne_eq, not_false_eq_true]
      exact fin (.inr (by rw [hg]; exact fun h => c2 (Int.emod_eq_zero_of_dvd h)))

/-- never they meet, or what they have in common is too long -/
def NoMeet (Ea Aa Eb Ab : Int) : Prop := ¬ (rrB Ea Aa = true ∧ rrB Eb Ab = true) ∨
  (1099511627776 / Eb < Ea / (Nat.gcd Ea.toNat Eb.toNat : Nat) ∨ ¬ ((Nat.gcd Ea.toNat Eb.toNat : Nat) : Int) ∣ Aa - Ab)
theorem Met.symm {Ea Aa Eb Ab E A : Int} (h : Met Ea Aa Eb Ab E A) : Met Eb Ab Ea Aa E A := ⟨h.e1, h.e2, h.a0, h.a1, h.db, h.da, fun z h1 h2 => h.lcm z h2 h1, h.rb, h.ra⟩
theorem nomeet_l {a b : Nat} (ha : 1 ≤ a) (hb : 1 ≤ b) : 1099511627776 < (a : Int) * ((b : Int) / (Nat.gcd a b : Nat)) ↔ 1099511627776 / (b : Int) < (a : Int) / (Nat.gcd a b : Nat) := by
  obtain ⟨g, p, q, hg, hg1, hp1, hq1, hp, hq, hco⟩ := gcd_parts (a := a) (b := b) ha hb
  have e1 : (b : Int) / ((Nat.gcd a b : Nat) : Int) = q := by rw [hg, hq, Int.mul_ediv_cancel_left _ (by omega)]
  have e2 : (a : Int) / ((Nat.gcd a b : Nat) : Int) = p := by rw [hg, hp, Int.mul_ediv_cancel_left _ (by omega)]
  rw [e1, e2, div_lt (by omega)]
  have : (a : Int) * q = b * p := by rw [hp, hq]; grind
  rw [this]
theorem f17_s (Ea Aa Eb Ab : Int) (w : World) (Q : Value → World → Prop)
    (k1 : ∀ w' E A, rrB Ea Aa = true → rrB Eb Ab = true → Met Ea Aa Eb Ab E A → Below w.heap.size w w' → Q (.tuple #[rdV E A, .bool true]) w')
    (k2 : ∀ w', NoMeet Ea Aa Eb Ab → Below w.heap.size w w' → Q (.tuple #[rdV 0 0, .bool false]) w') : f17 (rdV Ea Aa) (rdV Eb Ab) w Q := by
  unfold f17
  simp only [↓bx_e, ↓al_e]
  rw [show (rdV Ea Aa).cells = rdC Ea Aa from rfl, show (rdV Eb Ab).cells = rdC Eb Ab from rfl]
  have q0 := blk_psh_new (w := w) (o := .cells (rdC Ea Aa) 27)
  have b0 := b_psh w (.cells (rdC Ea Aa) 27)
  generalize psh w (.cells (rdC Ea Aa) 27) = w1 at *
  have r1 := blk_psh_new (w := w1) (o := .cells (rdC Eb Ab) 27)
  have hb := b_psh w1 (.cells (rdC Eb Ab) 27)
  have b1 := bt b0 hb
  have q1 := stay hb q0
  have l1 := blk_lt q0
  generalize psh w1 (.cells (rdC Eb Ab) 27) = w2 at *
  have s2 := blk_psh_new (w := w2) (o := .cells #[.int .i64 0, .int .i64 0] 27)
  have hb2 := b_psh w2 (.cells #[.int .i64 0, .int .i64 0] 27)
  have b2 := bt b1 hb2
  have q2 := stay hb2 q1
  have r2 := stay hb2 r1
  have l2 := blk_lt r1
  generalize psh w2 (.cells #[.int .i64 0, .int .i64 0] 27) = w3 at *
  have fin : ∀ w4, Below w.heap.size w w4 → w4.heap[w2.heap.size]? = some (.cells #[.int .i64 0, .int .i64 0] 27) → ¬ (rrB Ea Aa = true ∧ rrB Eb Ab = true) →
      (smr Try.prog (Instr.build 27 #[]) fun t48 => stn 2 (.pointer (some ⟨w2.heap.size, 0, none⟩)) t48 <| ldn 2 (.pointer (some ⟨w2.heap.size, 0, none⟩)) fun r0 => rt (.tuple #[r0, (.bool false)])) w4 Q := by
    intro w4 b4 s4 hc
    rw [smr_e]
    refine ⟨_, build27n _, ?_⟩
    refine stn_box (cs := rdC 0 0) s4 rfl rfl (one_rd _ _) fun w4 hw4 hu4 => ?_
    refine ldn_box hw4 rfl ?_
    rw [rt_e]
    exact k2 _ (.inl hc) (b4.trans (hu4.below (by omega)))
  refine ldn_box q2 rfl ?_
  rw [cl_e]
  refine f11_s Ea Aa _ _ fun w4 hb4 => ?_
  have b4 := bt b2 hb4
  have q4 := stay hb4 q2
  have r4 := stay hb4 r2
  have s4 := stay hb4 s2
  cases hR : rrB Ea Aa with
  | false =>
    simp only [↓bx_e, ↓al_e, ↓fa_e, ↓ld_e, ↓ad_e, ↓su_e, ↓mu_e, ↓lt_e, ↓le_e, ↓gt_e, ↓ge_e, ↓eqi_e, ↓nei_e, ↓qu_e, ↓re_e, ↓cv_e, ↓nt_e, ↓pk_t, ↓pk_f, ↓pk_e, ↓eqb_e, ↓neb_e, ↓nc_e, ↓ex_e, ↓lnl_e, ↓lns_e, ↓idv_e, ↓cl_e, ↓cnd_e, ↓gd_e, ↓gd_u, ↓gdu_e, ↓rt_e, ↓jn_e, ↓dr_q, ↓kp_e, ↓mnm_e, ↓mxm_e, ↓mif_e, ↓asrt_e, ↓eqs_e, ↓nes_e, Value.cells, add_lit, cell_psh_new, cell_drw, Nat.zero_add, Nat.reduceAdd, get4_0, get4_1, get4_2, get4_3, get3_0, get3_1, get3_2, get2_0, get2_1, get1_0, Option.some.injEq, exists_eq_left', decide_true, decide_false, decide_eq_true_eq, if_true, if_false, Bool.not_true, Bool.not_false, Bool.false_eq_true, Bool.true_eq_false, Bool.not_eq_true', decide_eq_false_iff_not, not_false_eq_true, not_true_eq_false, reduceCtorEq, bx_e, al_e, fa_e, ld_e, ad_e, su_e, mu_e, lt_e, le_e, gt_e, ge_e, eqi_e, nei_e, qu_e, re_e, cv_e, nt_e, pk_t, pk_f, pk_e, eqb_e, neb_e, nc_e, ex_e, lnl_e, lns_e, idv_e, cl_e, cnd_e, gd_e, gd_u, gdu_e, rt_e, jn_e, dr_q, kp_e, mnm_e, mxm_e, mif_e, asrt_e, eqs_e, nes_e, cond_true, cond_false, Bool.true_and, Bool.and_true, Bool.false_and, Bool.and_false, decide_not]
    exact fin w4 b4 s4 (by simp [hR])
  | true =>
    simp only [↓bx_e, ↓al_e, ↓fa_e, ↓ld_e, ↓ad_e, ↓su_e, ↓mu_e, ↓lt_e, ↓le_e, ↓gt_e, ↓ge_e, ↓eqi_e, ↓nei_e, ↓qu_e, ↓re_e, ↓cv_e, ↓nt_e, ↓pk_t, ↓pk_f, ↓pk_e, ↓eqb_e, ↓neb_e, ↓nc_e, ↓ex_e, ↓lnl_e, ↓lns_e, ↓idv_e, ↓cl_e, ↓cnd_e, ↓gd_e, ↓gd_u, ↓gdu_e, ↓rt_e, ↓jn_e, ↓dr_q, ↓kp_e, ↓mnm_e, ↓mxm_e, ↓mif_e, ↓asrt_e, ↓eqs_e, ↓nes_e, Value.cells, add_lit, cell_psh_new, cell_drw, Nat.zero_add, Nat.reduceAdd, get4_0, get4_1, get4_2, get4_3, get3_0, get3_1, get3_2, get2_0, get2_1, get1_0, Option.some.injEq, exists_eq_left', decide_true, decide_false, decide_eq_true_eq, if_true, if_false, Bool.not_true, Bool.not_false, Bool.false_eq_true, Bool.true_eq_false, Bool.not_eq_true', decide_eq_false_iff_not, not_false_eq_true, not_true_eq_false, reduceCtorEq, bx_e, al_e, fa_e, ld_e, ad_e, su_e, mu_e, lt_e, le_e, gt_e, ge_e, eqi_e, nei_e, qu_e, re_e, cv_e, nt_e, pk_t, pk_f, pk_e, eqb_e, neb_e, nc_e, ex_e, lnl_e, lns_e, idv_e, cl_e, cnd_e, gd_e, gd_u, gdu_e, rt_e, jn_e, dr_q, kp_e, mnm_e, mxm_e, mif_e, asrt_e, eqs_e, nes_e, cond_true, cond_false, Bool.true_and, Bool.and_true, Bool.false_and, Bool.and_false, decide_not]
    refine ldn_box r4 rfl ?_
    simp only [↓bx_e, ↓al_e, ↓fa_e, ↓ld_e, ↓ad_e, ↓su_e, ↓mu_e, ↓lt_e, ↓le_e, ↓gt_e, ↓ge_e, ↓eqi_e, ↓nei_e, ↓qu_e, ↓re_e, ↓cv_e, ↓nt_e, ↓pk_t, ↓pk_f, ↓pk_e, ↓eqb_e, ↓neb_e, ↓nc_e, ↓ex_e, ↓lnl_e, ↓lns_e, ↓idv_e, ↓cl_e, ↓cnd_e, ↓gd_e, ↓gd_u, ↓gdu_e, ↓rt_e, ↓jn_e, ↓dr_q, ↓kp_e, ↓mnm_e, ↓mxm_e, ↓mif_e, ↓asrt_e, ↓eqs_e, ↓nes_e, Value.cells, add_lit, cell_psh_new, cell_drw, Nat.zero_add, Nat.reduceAdd, get4_0, get4_1, get4_2, get4_3, get3_0, get3_1, get3_2, get2_0, get2_1, get1_0, Option.some.injEq, exists_eq_left', decide_true, decide_false, decide_eq_true_eq, if_true, if_false, Bool.not_true, Bool.not_false, Bool.false_eq_true, Bool.true_eq_false, Bool.not_eq_true', decide_eq_false_iff_not, not_false_eq_true, not_true_eq_false, reduceCtorEq, bx_e, al_e, fa_e, ld_e, ad_e, su_e, mu_e, lt_e, le_e, gt_e, ge_e, eqi_e, nei_e, qu_e, re_e, cv_e, nt_e, pk_t, pk_f, pk_e, eqb_e, neb_e, nc_e, ex_e, lnl_e, lns_e, idv_e, cl_e, cnd_e, gd_e, gd_u, gdu_e, rt_e, jn_e, dr_q, kp_e, mnm_e, mxm_e, mif_e, asrt_e, eqs_e, nes_e, cond_true, cond_false, Bool.true_and, Bool.and_true, Bool.false_and, Bool.and_false, decide_not]
    refine f11_s Eb Ab _ _ fun w5 hb5 => ?_
    have b5 := bt b4 hb5
    have q5 := stay hb5 q4
    have r5 := stay hb5 r4
    have s5 := stay hb5 s4
    cases hS : rrB Eb Ab with
    | false =>
      simp only [↓bx_e, ↓al_e, ↓fa_e, ↓ld_e, ↓ad_e, ↓su_e, ↓mu_e, ↓lt_e, ↓le_e, ↓gt_e, ↓ge_e, ↓eqi_e, ↓nei_e, ↓qu_e, ↓re_e, ↓cv_e, ↓nt_e, ↓pk_t, ↓pk_f, ↓pk_e, ↓eqb_e, ↓neb_e, ↓nc_e, ↓ex_e, ↓lnl_e, ↓lns_e, ↓idv_e, ↓cl_e, ↓cnd_e, ↓gd_e, ↓gd_u, ↓gdu_e, ↓rt_e, ↓jn_e, ↓dr_q, ↓kp_e, ↓mnm_e, ↓mxm_e, ↓mif_e, ↓asrt_e, ↓eqs_e, ↓nes_e, Value.cells, add_lit, cell_psh_new, cell_drw, Nat.zero_add, Nat.reduceAdd, get4_0, get4_1, get4_2, get4_3, get3_0, get3_1, get3_2, get2_0, get2_1, get1_0, Option.some.injEq, exists_eq_left', decide_true, decide_false, decide_eq_true_eq, if_true, if_false, Bool.not_true, Bool.not_false, Bool.false_eq_true, Bool.true_eq_false, Bool.not_eq_true', decide_eq_false_iff_not, not_false_eq_true, not_true_eq_false, reduceCtorEq, bx_e, al_e, fa_e, ld_e, ad_e, su_e, mu_e, lt_e, le_e, gt_e, ge_e, eqi_e, nei_e, qu_e, re_e, cv_e, nt_e, pk_t, pk_f, pk_e, eqb_e, neb_e, nc_e, ex_e, lnl_e, lns_e, idv_e, cl_e, cnd_e, gd_e, gd_u, gdu_e, rt_e, jn_e, dr_q, kp_e, mnm_e, mxm_e, mif_e, asrt_e, eqs_e, nes_e, cond_true, cond_false, Bool.true_and, Bool.and_true, Bool.false_and, Bool.and_false, decide_not]
      exact fin w5 b5 s5 (by simp [hS])
    | true =>
      obtain ⟨a1, a2, a3, a4⟩ := rrB_t.1 hR
      obtain ⟨d1, d2, d3, d4⟩ := rrB_t.1 hS
      obtain ⟨a, ha⟩ : ∃ a : Nat, Ea = a := ⟨Ea.toNat, by omega⟩
      obtain ⟨b, hb⟩ : ∃ b : Nat, Eb = b := ⟨Eb.toNat, by omega⟩
      subst ha hb
      have c0 := cell_of_blk (n := 0) q5
      have c1 := cell_of_blk (n := 0) r5
      by_cases c : (a : Int) < b
      · simp only [↓bx_e, ↓al_e, ↓fa_e, ↓ld_e, ↓ad_e, ↓su_e, ↓mu_e, ↓lt_e, ↓le_e, ↓gt_e, ↓ge_e, ↓eqi_e, ↓nei_e, ↓qu_e, ↓re_e, ↓cv_e, ↓nt_e, ↓pk_t, ↓pk_f, ↓pk_e, ↓eqb_e, ↓neb_e, ↓nc_e, ↓ex_e, ↓lnl_e, ↓lns_e, ↓idv_e, ↓cl_e, ↓cnd_e, ↓gd_e, ↓gd_u, ↓gdu_e, ↓rt_e, ↓jn_e, ↓dr_q, ↓kp_e, ↓mnm_e, ↓mxm_e, ↓mif_e, ↓asrt_e, ↓eqs_e, ↓nes_e, Value.cells, add_lit, cell_psh_new, cell_drw, Nat.zero_add, Nat.reduceAdd, get4_0, get4_1, get4_2, get4_3, get3_0, get3_1, get3_2, get2_0, get2_1, get1_0, Option.some.injEq, exists_eq_left', decide_true, decide_false, decide_eq_true_eq, if_true, if_false, Bool.not_true, Bool.not_false, Bool.false_eq_true, Bool.true_eq_false, Bool.not_eq_true', decide_eq_false_iff_not, not_false_eq_true, not_true_eq_false, reduceCtorEq, bx_e, al_e, fa_e, ld_e, ad_e, su_e, mu_e, lt_e, le_e, gt_e, ge_e, eqi_e, nei_e, qu_e, re_e, cv_e, nt_e, pk_t, pk_f, pk_e, eqb_e, neb_e, nc_e, ex_e, lnl_e, lns_e, idv_e, cl_e, cnd_e, gd_e, gd_u, gdu_e, rt_e, jn_e, dr_q, kp_e, mnm_e, mxm_e, mif_e, asrt_e, eqs_e, nes_e, cond_true, cond_false, Bool.true_and, Bool.and_true, Bool.false_and, Bool.and_false, decide_not, c0, c1, rdC, c]
        refine ldn_box r5 rfl ?_
        refine ldn_box q5 rfl ?_
        refine stn_box (cs := rdC b Ab) q5 rfl rfl (one_rd _ _) fun w6 hw6 hu6 => ?_
        have r6 : w6.heap[w1.heap.size]? = some (.cells (rdC b Ab) 27) := by rw [hu6.block _ (by omega)]; exact r5
        have s6 : w6.heap[w2.heap.size]? = some (.cells #[.int .i64 0, .int .i64 0] 27) := by rw [hu6.block _ (by omega)]; exact s5
        refine stn_box (cs := rdC a Aa) r6 rfl rfl (one_rd _ _) fun w7 hw7 hu7 => ?_
        have q7 : w7.heap[w.heap.size]? = some (.cells (rdC b Ab) 27) := by rw [hu7.block _ (by omega)]; exact hw6
        have s7 : w7.heap[w2.heap.size]? = some (.cells #[.int .i64 0, .int .i64 0] 27) := by rw [hu7.block _ (by omega)]; exact s6
        have b7 : Below w.heap.size w w7 := (b5.trans (hu6.below (Nat.le_refl _))).trans (hu7.below (by omega))
        refine f17_j1_s b a Ab Aa hS hR (by omega) (B := w.heap.size) rfl q7 hw7 s7 (by omega) ?_ ?_
        · intro w' E A hm hbl
          exact k1 _ _ _ hR hS hm.symm (b7.trans hbl)
        · intro w' hn hbl
          refine k2 _ (.inr ?_) (b7.trans hbl)
          rw [Int.toNat_natCast, Int.toNat_natCast, Nat.gcd_comm a b]
          rcases hn with hn | hn
          · left
            rw [Nat.gcd_comm b a] at hn ⊢
            rw [← nomeet_l (by omega) (by omega)]
            obtain ⟨g, p, q, hg, hg1, hp1, hq1, hp, hq, hco⟩ := gcd_parts (a := a) (b := b) (by omega) (by omega)
            have e1 : (b : Int) / ((Nat.gcd a b : Nat) : Int) = q := by rw [hg, hq, Int.mul_ediv_cancel_left _ (by omega)]
            have e2 : (a : Int) / ((Nat.gcd a b : Nat) : Int) = p := by rw [hg, hp, Int.mul_ediv_cancel_left _ (by omega)]
            rw [e2] at hn
            rw [e1]
            have : (a : Int) * q = b * p := by rw [hp, hq]; grind
            omega
          · right
            intro hd
            apply hn
            have := Int.dvd_neg.2 hd
            have e : -(Aa - Ab) = Ab - Aa := by omega
            rw [e] at this
            exact this
      · simp only [↓bx_e, ↓al_e, ↓fa_e, ↓ld_e, ↓ad_e, ↓su_e, ↓mu_e, ↓lt_e, ↓le_e, ↓gt_e, ↓ge_e, ↓eqi_e, ↓nei_e, ↓qu_e, ↓re_e, ↓cv_e, ↓nt_e, ↓pk_t, ↓pk_f, ↓pk_e, ↓eqb_e, ↓neb_e, ↓nc_e, ↓ex_e, ↓lnl_e, ↓lns_e, ↓idv_e, ↓cl_e, ↓cnd_e, ↓gd_e, ↓gd_u, ↓gdu_e, ↓rt_e, ↓jn_e, ↓dr_q, ↓kp_e, ↓mnm_e, ↓mxm_e, ↓mif_e, ↓asrt_e, ↓eqs_e, ↓nes_e, Value.cells, add_lit, cell_psh_new, cell_drw, Nat.zero_add, Nat.reduceAdd, get4_0, get4_1, get4_2, get4_3, get3_0, get3_1, get3_2, get2_0, get2_1, get1_0, Option.some.injEq, exists_eq_left', decide_true, decide_false, decide_eq_true_eq, if_true, if_false, Bool.not_true, Bool.not_false, Bool.false_eq_true, Bool.true_eq_false, Bool.not_eq_true', decide_eq_false_iff_not, not_false_eq_true, not_true_eq_false, reduceCtorEq, bx_e, al_e, fa_e, ld_e, ad_e, su_e, mu_e, lt_e, le_e, gt_e, ge_e, eqi_e, nei_e, qu_e, re_e, cv_e, nt_e, pk_t, pk_f, pk_e, eqb_e, neb_e, nc_e, ex_e, lnl_e, lns_e, idv_e, cl_e, cnd_e, gd_e, gd_u, gdu_e, rt_e, jn_e, dr_q, kp_e, mnm_e, mxm_e, mif_e, asrt_e, eqs_e, nes_e, cond_true, cond_false, Bool.true_and, Bool.and_true, Bool.false_and, Bool.and_false, decide_not, c0, c1, rdC, c]
        refine f17_j1_s a b Aa Ab hR hS (by omega) (B := w.heap.size) rfl q5 r5 s5 (by omega) ?_ ?_
        · intro w' E A hm hbl
          exact k1 _ _ _ hR hS hm (b5.trans hbl)
        · intro w' hn hbl
          refine k2 _ (.inr ?_) (b5.trans hbl)
          rw [Int.toNat_natCast, Int.toNat_natCast]
          rcases hn with hn | hn
          · exact .inl ((nomeet_l (by omega) (by omega)).1 hn)
          · exact .inr hn
end Go.Proofs.Ytnckcgpmidgggaa
