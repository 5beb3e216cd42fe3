/- ClockMeet at the level of predicate transformers. -/
import Derived.Test.YtnckcgpmidgggaaC4
set_option linter.unusedVariables false
set_option linter.unusedSimpArgs false
namespace Go.Proofs.Ytnckcgpmidgggaa
open Sh RowKit

/-- both rounds have a time just if their meeting has it -/
theorem met_is {Ea Aa Eb Ab E A t : Int} (ha : rrB Ea Aa = true) (hb : rrB Eb Ab = true) (hm : Met Ea Aa Eb Ab E A) : isP E A t = (isP Ea Aa t && isP Eb Ab t) := by
  have hE : rrB E A = true := rrB_t.2 ⟨hm.e1, hm.e2, hm.a0, hm.a1⟩
  obtain ⟨a1, a2, a3, a4⟩ := rrB_t.1 ha
  obtain ⟨b1, b2, b3, b4⟩ := rrB_t.1 hb
  cases hN : nearB t with
  | false => simp [isP, hN]
  | true =>
    simp only [isP, hN, hE, ha, hb, Bool.true_and]
    rw [Bool.eq_iff_iff, Bool.and_eq_true, decide_eq_true_eq, decide_eq_true_eq, decide_eq_true_eq, bh_is hm.e1, bh_is a1, bh_is b1]
    have e1 : t - Aa = (t - A) + (A - Aa) := by omega
    have e2 : t - Ab = (t - A) + (A - Ab) := by omega
    constructor
    · intro h
      have d := Int.dvd_of_emod_eq_zero h
      constructor
      · rw [e1]; exact Int.emod_eq_zero_of_dvd (Int.dvd_add (Int.dvd_trans hm.da d) hm.ra)
      · rw [e2]; exact Int.emod_eq_zero_of_dvd (Int.dvd_add (Int.dvd_trans hm.db d) hm.rb)
    · rintro ⟨h1, h2⟩
      have d1 := Int.dvd_of_emod_eq_zero h1
      have d2 := Int.dvd_of_emod_eq_zero h2
      refine Int.emod_eq_zero_of_dvd (hm.lcm _ ?_ ?_)
      · have := Int.dvd_sub d1 hm.ra
        have e : t - Aa - (A - Aa) = t - A := by omega
        rw [e] at this; exact this
      · have := Int.dvd_sub d2 hm.rb
        have e : t - Ab - (A - Ab) = t - A := by omega
        rw [e] at this; exact this
theorem nomeet_is {Ea Aa Eb Ab t : Int} (h : NoMeet Ea Aa Eb Ab) (hb : (isP Ea Aa t && isP Eb Ab t) = true) :
    rrB Ea Aa = true ∧ rrB Eb Ab = true ∧ 1099511627776 / Eb < Ea / (Nat.gcd Ea.toNat Eb.toNat : Nat) := by
  rw [Bool.and_eq_true] at hb
  obtain ⟨h1, h2⟩ := hb
  simp only [isP, Bool.and_eq_true, decide_eq_true_eq] at h1 h2
  obtain ⟨⟨ha, hn⟩, i1⟩ := h1
  obtain ⟨⟨hb, _⟩, i2⟩ := h2
  refine ⟨ha, hb, ?_⟩
  rcases h with h | h | h
  · exact absurd ⟨ha, hb⟩ h
  · exact h
  · exfalso
    apply h
    obtain ⟨a1, a2, a3, a4⟩ := rrB_t.1 ha
    obtain ⟨b1, b2, b3, b4⟩ := rrB_t.1 hb
    rw [bh_is a1] at i1
    rw [bh_is b1] at i2
    have d1 := Int.dvd_of_emod_eq_zero i1
    have d2 := Int.dvd_of_emod_eq_zero i2
    have g1 : ((Nat.gcd Ea.toNat Eb.toNat : Nat) : Int) ∣ Ea := by
      have : ((Nat.gcd Ea.toNat Eb.toNat : Nat) : Int) ∣ ((Ea.toNat : Nat) : Int) := Int.natCast_dvd_natCast.2 (Nat.gcd_dvd_left _ _)
      rw [Int.toNat_of_nonneg (by omega)] at this; exact this
    have g2 : ((Nat.gcd Ea.toNat Eb.toNat : Nat) : Int) ∣ Eb := by
      have : ((Nat.gcd Ea.toNat Eb.toNat : Nat) : Int) ∣ ((Eb.toNat : Nat) : Int) := Int.natCast_dvd_natCast.2 (Nat.gcd_dvd_right _ _)
      rw [Int.toNat_of_nonneg (by omega)] at this; exact this
    have := Int.dvd_sub (Int.dvd_trans g2 d2) (Int.dvd_trans g1 d1)
    have e : t - Ab - (t - Aa) = Aa - Ab := by omega
    rw [e] at this; exact this

theorem f4_tail (Ea Aa Eb Ab t E A : Int) (ok : Bool) (hk : (ok = true ∧ rrB Ea Aa = true ∧ rrB Eb Ab = true ∧ Met Ea Aa Eb Ab E A) ∨ (ok = false ∧ E = 0 ∧ A = 0 ∧ NoMeet Ea Aa Eb Ab))
    {p3 p4 p7 : Nat} {w : World} {Q : Value → World → Prop} (h3 : w.heap[p3]? = some (.cells (rdC Ea Aa) 23)) (h4 : w.heap[p4]? = some (.cells (rdC Eb Ab) 23)) (h7 : w.heap[p7]? = some (.cells (rdC E A) 27))
    (h : ∀ w', Below w.heap.size w w' → Q (.bool true) w') :
    f4_j1 (.int .i64 t) (.pointer (some ⟨p3, 0, none⟩)) (.pointer (some ⟨p4, 0, none⟩)) (.pointer (some ⟨p7, 0, none⟩)) (.bool ok) w Q := by
  unfold f4_j1
  refine ldn_box h3 rfl ?_
  rw [cl_e]
  refine f9_s Ea Aa _ _ fun w1 hb => ?_
  have b1 := hb
  have h3 := stay hb h3
  have h4 := stay hb h4
  have h7 := stay hb h7
  rw [cl_e]
  refine f13_s Ea Aa t _ _ fun w2 hb => ?_
  have b2 := bt b1 hb
  have h3 := stay hb h3
  have h4 := stay hb h4
  have h7 := stay hb h7
  -- the second one is asked only if the first one has it
  suffices key : ∀ w3 both, both = (isP Ea Aa t && isP Eb Ab t) → Below w.heap.size w w3 → w3.heap[p3]? = some (.cells (rdC Ea Aa) 23) → w3.heap[p4]? = some (.cells (rdC Eb Ab) 23) → w3.heap[p7]? = some (.cells (rdC E A) 27) →
    (nt (.bool ok) fun t32 =>
      cnd t32 (
        dr <|
        ldn 2 (.pointer (some ⟨p3, 0, none⟩)) fun t33 =>
        cl (f9 t33) fun t34 =>
        cl (f11 t34) fun t35 =>
        idv t35 fun t36 =>
        gd t36 true (ldn 2 (.pointer (some ⟨p4, 0, none⟩))) fun t37 =>
        gd t36 true (cl (f9 t37)) fun t38 =>
        gd t36 true (cl (f11 t38)) fun t39 =>
        pk t36 t39 (.bool false) fun t40 =>
        idv t40 fun t41 =>
        gd t41 true (fa 0 (.pointer (some ⟨p3, 0, none⟩))) fun t42 =>
        gd t41 true (ld t42) fun t43 =>
        gd t41 true (fa 0 (.pointer (some ⟨p3, 0, none⟩))) fun t44 =>
        gd t41 true (ld t44) fun t45 =>
        gd t41 true (fa 0 (.pointer (some ⟨p4, 0, none⟩))) fun t46 =>
        gd t41 true (ld t46) fun t47 =>
        gd t41 true (fa 0 (.pointer (some ⟨p4, 0, none⟩))) fun t50 =>
        gd t41 true (ld t50) fun t51 =>
        gd t41 true (qu .i64 (.int .i64 1099511627776) t51) fun t52 =>
        gd t41 true (cl (f18 t45 t47)) fun t48 =>
        kp (fun w => gdB t41 true = true → Kld t50 t51 w) <|
        kp (fun w => gdB t41 true = true → Kld t42 t43 w) <|
        gd t41 true (qu .i64 t43 t48) fun t49 =>
        gd t41 true (gt .i64 t49 t52) fun t53 =>
        pk t41 t53 (.bool false) fun t54 =>
        idv t54 fun t10 =>
        ldn 2 (.pointer (some ⟨p7, 0, none⟩)) fun t55 =>
        smr Try.prog (Instr.build 27 #[]) fun t56 =>
        smr Try.prog (do eqGuard .eql 27 (.tmp 55) (.tmp 56) t55 t56; binOp .eql 27 t55 t56) fun t57 =>
        gd t57 true (idv (.bool both)) fun t59 =>
        gd t57 true (nt t59) fun t60 =>
        gd t57 true (idv t60) fun t61 =>
        gd t61 false (idv t10) fun t62 =>
        gd t57 true (pk t61 (.bool true) t62) fun t63 =>
        pk t57 t63 (.bool false) fun t64 =>
        rt t64
        ) (
        ldn 2 (.pointer (some ⟨p7, 0, none⟩)) fun t65 =>
        cl (f11 t65) fun t66 =>
        gd t66 true (ldn 2 (.pointer (some ⟨p7, 0, none⟩))) fun t68 =>
        gd t66 true (idv (.int .i64 t)) fun t69 =>
        gd t66 true (cl (f13 t68 t69)) fun t70 =>
        gd t66 true (idv (.bool both)) fun t71 =>
        gd t66 true (eqb t70 t71) fun t72 =>
        pk t66 t72 (.bool false) fun t73 =>
        gd t73 true (fa 0 (.pointer (some ⟨p7, 0, none⟩))) fun t75 =>
        gd t73 true (ld t75) fun t76 =>
        gd t73 true (fa 0 (.pointer (some ⟨p3, 0, none⟩))) fun t77 =>
        gd t73 true (ld t77) fun t78 =>
        gd t73 true (re .i64 t76 t78) fun t79 =>
        gd t73 true (eqi .i64 t79 (.int .i64 0)) fun t80 =>
        pk t73 t80 (.bool false) fun t81 =>
        gd t81 true (fa 0 (.pointer (some ⟨p7, 0, none⟩))) fun t83 =>
        gd t81 true (ld t83) fun t84 =>
        gd t81 true (fa 0 (.pointer (some ⟨p4, 0, none⟩))) fun t85 =>
        gd t81 true (ld t85) fun t86 =>
        gd t81 true (re .i64 t84 t86) fun t87 =>
        gd t81 true (eqi .i64 t87 (.int .i64 0)) fun t88 =>
        pk t81 t88 (.bool false) fun t89 =>
        rt t89
        )) w3 Q by
    cases hI : isP Ea Aa t with
    | false =>
      have := key w2 false (by rw [hI]; rfl) b2 h3 h4 h7
      simp only [↓gd_e, ↓gd_u, ↓pk_f, ↓pk_e, Bool.false_eq_true, if_false, cond_false, ↓idv_e] at this ⊢
      exact this
    | true =>
      simp only [↓gd_e, if_true]
      refine ldn_box h4 rfl ?_
      simp only [↓gd_e, if_true, ↓cl_e]
      refine f9_s Eb Ab _ _ fun w3 hb => ?_
      have b3 := bt b2 hb
      have h3 := stay hb h3
      have h4 := stay hb h4
      have h7 := stay hb h7
      simp only [↓gd_e, if_true, ↓cl_e, ↓idv_e]
      refine f13_s Eb Ab t _ _ fun w4 hb => ?_
      have b4 := bt b3 hb
      have h3 := stay hb h3
      have h4 := stay hb h4
      have h7 := stay hb h7
      simp only [↓pk_t, ↓pk_e, cond_true]
      exact key w4 _ (by rw [hI]; rfl) b4 h3 h4 h7
  intro w3 both hboth b3 h3 h4 h7
  rcases hk with ⟨rfl, ha, hb', hm⟩ | ⟨rfl, rfl, rfl, hn⟩
  · have hE : rrB E A = true := rrB_t.2 ⟨hm.e1, hm.e2, hm.a0, hm.a1⟩
    obtain ⟨a1, _, _, _⟩ := rrB_t.1 ha
    obtain ⟨b1', _, _, _⟩ := rrB_t.1 hb'
    have n1 : ¬ Ea = 0 := by omega
    have n2 : ¬ Eb = 0 := by omega
    have m1 : E.tmod Ea = 0 := Int.tmod_eq_zero_of_dvd hm.da
    have m2 : E.tmod Eb = 0 := Int.tmod_eq_zero_of_dvd hm.db
    simp only [↓bx_e, ↓al_e, ↓fa_e, ↓ld_e, ↓ad_e, ↓su_e, ↓mu_e, ↓lt_e, ↓le_e, ↓gt_e, ↓ge_e, ↓eqi_e, ↓nei_e, ↓qu_e, ↓re_e, ↓cv_e, ↓nt_e, ↓pk_t, ↓pk_f, ↓pk_e, ↓eqb_e, ↓neb_e, ↓nc_e, ↓ex_e, ↓lnl_e, ↓lns_e, ↓idv_e, ↓cl_e, ↓cnd_e, ↓gd_e, ↓gd_u, ↓gdu_e, ↓rt_e, ↓jn_e, ↓dr_q, ↓kp_e, ↓mnm_e, ↓mxm_e, ↓mif_e, ↓asrt_e, ↓eqs_e, ↓nes_e, Value.cells, add_lit, cell_psh_new, cell_drw, Nat.zero_add, Nat.reduceAdd, get4_0, get4_1, get4_2, get4_3, get3_0, get3_1, get3_2, get2_0, get2_1, get1_0, Option.some.injEq, exists_eq_left', decide_true, decide_false, decide_eq_true_eq, if_true, if_false, Bool.not_true, Bool.not_false, Bool.false_eq_true, Bool.true_eq_false, Bool.not_eq_true', decide_eq_false_iff_not, not_false_eq_true, not_true_eq_false, reduceCtorEq, bx_e, al_e, fa_e, ld_e, ad_e, su_e, mu_e, lt_e, le_e, gt_e, ge_e, eqi_e, nei_e, qu_e, re_e, cv_e, nt_e, pk_t, pk_f, pk_e, eqb_e, neb_e, nc_e, ex_e, lnl_e, lns_e, idv_e, cl_e, cnd_e, gd_e, gd_u, gdu_e, rt_e, jn_e, dr_q, kp_e, mnm_e, mxm_e, mif_e, asrt_e, eqs_e, nes_e, cond_true, cond_false, Bool.true_and, Bool.and_true, Bool.false_and, Bool.and_false, decide_not]
    refine ldn_box h7 rfl ?_
    simp only [↓bx_e, ↓al_e, ↓fa_e, ↓ld_e, ↓ad_e, ↓su_e, ↓mu_e, ↓lt_e, ↓le_e, ↓gt_e, ↓ge_e, ↓eqi_e, ↓nei_e, ↓qu_e, ↓re_e, ↓cv_e, ↓nt_e, ↓pk_t, ↓pk_f, ↓pk_e, ↓eqb_e, ↓neb_e, ↓nc_e, ↓ex_e, ↓lnl_e, ↓lns_e, ↓idv_e, ↓cl_e, ↓cnd_e, ↓gd_e, ↓gd_u, ↓gdu_e, ↓rt_e, ↓jn_e, ↓dr_q, ↓kp_e, ↓mnm_e, ↓mxm_e, ↓mif_e, ↓asrt_e, ↓eqs_e, ↓nes_e, Value.cells, add_lit, cell_psh_new, cell_drw, Nat.zero_add, Nat.reduceAdd, get4_0, get4_1, get4_2, get4_3, get3_0, get3_1, get3_2, get2_0, get2_1, get1_0, Option.some.injEq, exists_eq_left', decide_true, decide_false, decide_eq_true_eq, if_true, if_false, Bool.not_true, Bool.not_false, Bool.false_eq_true, Bool.true_eq_false, Bool.not_eq_true', decide_eq_false_iff_not, not_false_eq_true, not_true_eq_false, reduceCtorEq, bx_e, al_e, fa_e, ld_e, ad_e, su_e, mu_e, lt_e, le_e, gt_e, ge_e, eqi_e, nei_e, qu_e, re_e, cv_e, nt_e, pk_t, pk_f, pk_e, eqb_e, neb_e, nc_e, ex_e, lnl_e, lns_e, idv_e, cl_e, cnd_e, gd_e, gd_u, gdu_e, rt_e, jn_e, dr_q, kp_e, mnm_e, mxm_e, mif_e, asrt_e, eqs_e, nes_e, cond_true, cond_false, Bool.true_and, Bool.and_true, Bool.false_and, Bool.and_false, decide_not]
    refine f11_s E A _ _ fun w4 hb => ?_
    have b4 := bt b3 hb
    have h3 := stay hb h3
    have h4 := stay hb h4
    have h7 := stay hb h7
    simp only [↓bx_e, ↓al_e, ↓fa_e, ↓ld_e, ↓ad_e, ↓su_e, ↓mu_e, ↓lt_e, ↓le_e, ↓gt_e, ↓ge_e, ↓eqi_e, ↓nei_e, ↓qu_e, ↓re_e, ↓cv_e, ↓nt_e, ↓pk_t, ↓pk_f, ↓pk_e, ↓eqb_e, ↓neb_e, ↓nc_e, ↓ex_e, ↓lnl_e, ↓lns_e, ↓idv_e, ↓cl_e, ↓cnd_e, ↓gd_e, ↓gd_u, ↓gdu_e, ↓rt_e, ↓jn_e, ↓dr_q, ↓kp_e, ↓mnm_e, ↓mxm_e, ↓mif_e, ↓asrt_e, ↓eqs_e, ↓nes_e, Value.cells, add_lit, cell_psh_new, cell_drw, Nat.zero_add, Nat.reduceAdd, get4_0, get4_1, get4_2, get4_3, get3_0, get3_1, get3_2, get2_0, get2_1, get1_0, Option.some.injEq, exists_eq_left', decide_true, decide_false, decide_eq_true_eq, if_true, if_false, Bool.not_true, Bool.not_false, Bool.false_eq_true, Bool.true_eq_false, Bool.not_eq_true', decide_eq_false_iff_not, not_false_eq_true, not_true_eq_false, reduceCtorEq, bx_e, al_e, fa_e, ld_e, ad_e, su_e, mu_e, lt_e, le_e, gt_e, ge_e, eqi_e, nei_e, qu_e, re_e, cv_e, nt_e, pk_t, pk_f, pk_e, eqb_e, neb_e, nc_e, ex_e, lnl_e, lns_e, idv_e, cl_e, cnd_e, gd_e, gd_u, gdu_e, rt_e, jn_e, dr_q, kp_e, mnm_e, mxm_e, mif_e, asrt_e, eqs_e, nes_e, cond_true, cond_false, Bool.true_and, Bool.and_true, Bool.false_and, Bool.and_false, decide_not, hE]
    refine ldn_box h7 rfl ?_
    simp only [↓bx_e, ↓al_e, ↓fa_e, ↓ld_e, ↓ad_e, ↓su_e, ↓mu_e, ↓lt_e, ↓le_e, ↓gt_e, ↓ge_e, ↓eqi_e, ↓nei_e, ↓qu_e, ↓re_e, ↓cv_e, ↓nt_e, ↓pk_t, ↓pk_f, ↓pk_e, ↓eqb_e, ↓neb_e, ↓nc_e, ↓ex_e, ↓lnl_e, ↓lns_e, ↓idv_e, ↓cl_e, ↓cnd_e, ↓gd_e, ↓gd_u, ↓gdu_e, ↓rt_e, ↓jn_e, ↓dr_q, ↓kp_e, ↓mnm_e, ↓mxm_e, ↓mif_e, ↓asrt_e, ↓eqs_e, ↓nes_e, Value.cells, add_lit, cell_psh_new, cell_drw, Nat.zero_add, Nat.reduceAdd, get4_0, get4_1, get4_2, get4_3, get3_0, get3_1, get3_2, get2_0, get2_1, get1_0, Option.some.injEq, exists_eq_left', decide_true, decide_false, decide_eq_true_eq, if_true, if_false, Bool.not_true, Bool.not_false, Bool.false_eq_true, Bool.true_eq_false, Bool.not_eq_true', decide_eq_false_iff_not, not_false_eq_true, not_true_eq_false, reduceCtorEq, bx_e, al_e, fa_e, ld_e, ad_e, su_e, mu_e, lt_e, le_e, gt_e, ge_e, eqi_e, nei_e, qu_e, re_e, cv_e, nt_e, pk_t, pk_f, pk_e, eqb_e, neb_e, nc_e, ex_e, lnl_e, lns_e, idv_e, cl_e, cnd_e, gd_e, gd_u, gdu_e, rt_e, jn_e, dr_q, kp_e, mnm_e, mxm_e, mif_e, asrt_e, eqs_e, nes_e, cond_true, cond_false, Bool.true_and, Bool.and_true, Bool.false_and, Bool.and_false, decide_not]
    refine f13_s E A t _ _ fun w5 hb => ?_
    have b5 := bt b4 hb
    have h3 := stay hb h3
    have h4 := stay hb h4
    have h7 := stay hb h7
    have c30 := cell_of_blk (n := 0) h3
    have c40 := cell_of_blk (n := 0) h4
    have c70 := cell_of_blk (n := 0) h7
    have e : (isP E A t == both) = true := by rw [hboth, met_is ha hb' hm]; simp
    simp only [↓bx_e, ↓al_e, ↓fa_e, ↓ld_e, ↓ad_e, ↓su_e, ↓mu_e, ↓lt_e, ↓le_e, ↓gt_e, ↓ge_e, ↓eqi_e, ↓nei_e, ↓qu_e, ↓re_e, ↓cv_e, ↓nt_e, ↓pk_t, ↓pk_f, ↓pk_e, ↓eqb_e, ↓neb_e, ↓nc_e, ↓ex_e, ↓lnl_e, ↓lns_e, ↓idv_e, ↓cl_e, ↓cnd_e, ↓gd_e, ↓gd_u, ↓gdu_e, ↓rt_e, ↓jn_e, ↓dr_q, ↓kp_e, ↓mnm_e, ↓mxm_e, ↓mif_e, ↓asrt_e, ↓eqs_e, ↓nes_e, Value.cells, add_lit, cell_psh_new, cell_drw, Nat.zero_add, Nat.reduceAdd, get4_0, get4_1, get4_2, get4_3, get3_0, get3_1, get3_2, get2_0, get2_1, get1_0, Option.some.injEq, exists_eq_left', decide_true, decide_false, decide_eq_true_eq, if_true, if_false, Bool.not_true, Bool.not_false, Bool.false_eq_true, Bool.true_eq_false, Bool.not_eq_true', decide_eq_false_iff_not, not_false_eq_true, not_true_eq_false, reduceCtorEq, bx_e, al_e, fa_e, ld_e, ad_e, su_e, mu_e, lt_e, le_e, gt_e, ge_e, eqi_e, nei_e, qu_e, re_e, cv_e, nt_e, pk_t, pk_f, pk_e, eqb_e, neb_e, nc_e, ex_e, lnl_e, lns_e, idv_e, cl_e, cnd_e, gd_e, gd_u, gdu_e, rt_e, jn_e, dr_q, kp_e, mnm_e, mxm_e, mif_e, asrt_e, eqs_e, nes_e, cond_true, cond_false, Bool.true_and, Bool.and_true, Bool.false_and, Bool.and_false, decide_not, e, c30, c40, c70, rdC, ne_eq, n1, n2, m1, m2, not_false_eq_true, true_and]
    exact h _ b5
  · simp only [↓bx_e, ↓al_e, ↓fa_e, ↓ld_e, ↓ad_e, ↓su_e, ↓mu_e, ↓lt_e, ↓le_e, ↓gt_e, ↓ge_e, ↓eqi_e, ↓nei_e, ↓qu_e, ↓re_e, ↓cv_e, ↓nt_e, ↓pk_t, ↓pk_f, ↓pk_e, ↓eqb_e, ↓neb_e, ↓nc_e, ↓ex_e, ↓lnl_e, ↓lns_e, ↓idv_e, ↓cl_e, ↓cnd_e, ↓gd_e, ↓gd_u, ↓gdu_e, ↓rt_e, ↓jn_e, ↓dr_q, ↓kp_e, ↓mnm_e, ↓mxm_e, ↓mif_e, ↓asrt_e, ↓eqs_e, ↓nes_e, Value.cells, add_lit, cell_psh_new, cell_drw, Nat.zero_add, Nat.reduceAdd, get4_0, get4_1, get4_2, get4_3, get3_0, get3_1, get3_2, get2_0, get2_1, get1_0, Option.some.injEq, exists_eq_left', decide_true, decide_false, decide_eq_true_eq, if_true, if_false, Bool.not_true, Bool.not_false, Bool.false_eq_true, Bool.true_eq_false, Bool.not_eq_true', decide_eq_false_iff_not, not_false_eq_true, not_true_eq_false, reduceCtorEq, bx_e, al_e, fa_e, ld_e, ad_e, su_e, mu_e, lt_e, le_e, gt_e, ge_e, eqi_e, nei_e, qu_e, re_e, cv_e, nt_e, pk_t, pk_f, pk_e, eqb_e, neb_e, nc_e, ex_e, lnl_e, lns_e, idv_e, cl_e, cnd_e, gd_e, gd_u, gdu_e, rt_e, jn_e, dr_q, kp_e, mnm_e, mxm_e, mif_e, asrt_e, eqs_e, nes_e, cond_true, cond_false, Bool.true_and, Bool.and_true, Bool.false_and, Bool.and_false, decide_not]
    have b3 : Below w.heap.size w (drw w3) := Below_drw b3
    have h3 : (drw w3).heap[p3]? = some (.cells (rdC Ea Aa) 23) := h3
    have h4 : (drw w3).heap[p4]? = some (.cells (rdC Eb Ab) 23) := h4
    have h7 : (drw w3).heap[p7]? = some (.cells (rdC 0 0) 27) := h7
    generalize drw w3 = w3 at *
    refine ldn_box h3 rfl ?_
    simp only [↓bx_e, ↓al_e, ↓fa_e, ↓ld_e, ↓ad_e, ↓su_e, ↓mu_e, ↓lt_e, ↓le_e, ↓gt_e, ↓ge_e, ↓eqi_e, ↓nei_e, ↓qu_e, ↓re_e, ↓cv_e, ↓nt_e, ↓pk_t, ↓pk_f, ↓pk_e, ↓eqb_e, ↓neb_e, ↓nc_e, ↓ex_e, ↓lnl_e, ↓lns_e, ↓idv_e, ↓cl_e, ↓cnd_e, ↓gd_e, ↓gd_u, ↓gdu_e, ↓rt_e, ↓jn_e, ↓dr_q, ↓kp_e, ↓mnm_e, ↓mxm_e, ↓mif_e, ↓asrt_e, ↓eqs_e, ↓nes_e, Value.cells, add_lit, cell_psh_new, cell_drw, Nat.zero_add, Nat.reduceAdd, get4_0, get4_1, get4_2, get4_3, get3_0, get3_1, get3_2, get2_0, get2_1, get1_0, Option.some.injEq, exists_eq_left', decide_true, decide_false, decide_eq_true_eq, if_true, if_false, Bool.not_true, Bool.not_false, Bool.false_eq_true, Bool.true_eq_false, Bool.not_eq_true', decide_eq_false_iff_not, not_false_eq_true, not_true_eq_false, reduceCtorEq, bx_e, al_e, fa_e, ld_e, ad_e, su_e, mu_e, lt_e, le_e, gt_e, ge_e, eqi_e, nei_e, qu_e, re_e, cv_e, nt_e, pk_t, pk_f, pk_e, eqb_e, neb_e, nc_e, ex_e, lnl_e, lns_e, idv_e, cl_e, cnd_e, gd_e, gd_u, gdu_e, rt_e, jn_e, dr_q, kp_e, mnm_e, mxm_e, mif_e, asrt_e, eqs_e, nes_e, cond_true, cond_false, Bool.true_and, Bool.and_true, Bool.false_and, Bool.and_false, decide_not]
    refine f9_s Ea Aa _ _ fun w4 hb => ?_
    have b4 := bt b3 hb
    have h3 := stay hb h3
    have h4 := stay hb h4
    have h7 := stay hb h7
    try simp only [↓bx_e, ↓al_e, ↓fa_e, ↓ld_e, ↓ad_e, ↓su_e, ↓mu_e, ↓lt_e, ↓le_e, ↓gt_e, ↓ge_e, ↓eqi_e, ↓nei_e, ↓qu_e, ↓re_e, ↓cv_e, ↓nt_e, ↓pk_t, ↓pk_f, ↓pk_e, ↓eqb_e, ↓neb_e, ↓nc_e, ↓ex_e, ↓lnl_e, ↓lns_e, ↓idv_e, ↓cl_e, ↓cnd_e, ↓gd_e, ↓gd_u, ↓gdu_e, ↓rt_e, ↓jn_e, ↓dr_q, ↓kp_e, ↓mnm_e, ↓mxm_e, ↓mif_e, ↓asrt_e, ↓eqs_e, ↓nes_e, Value.cells, add_lit, cell_psh_new, cell_drw, Nat.zero_add, Nat.reduceAdd, get4_0, get4_1, get4_2, get4_3, get3_0, get3_1, get3_2, get2_0, get2_1, get1_0, Option.some.injEq, exists_eq_left', decide_true, decide_false, decide_eq_true_eq, if_true, if_false, Bool.not_true, Bool.not_false, Bool.false_eq_true, Bool.true_eq_false, Bool.not_eq_true', decide_eq_false_iff_not, not_false_eq_true, not_true_eq_false, reduceCtorEq, bx_e, al_e, fa_e, ld_e, ad_e, su_e, mu_e, lt_e, le_e, gt_e, ge_e, eqi_e, nei_e, qu_e, re_e, cv_e, nt_e, pk_t, pk_f, pk_e, eqb_e, neb_e, nc_e, ex_e, lnl_e, lns_e, idv_e, cl_e, cnd_e, gd_e, gd_u, gdu_e, rt_e, jn_e, dr_q, kp_e, mnm_e, mxm_e, mif_e, asrt_e, eqs_e, nes_e, cond_true, cond_false, Bool.true_and, Bool.and_true, Bool.false_and, Bool.and_false, decide_not]
    refine f11_s Ea Aa _ _ fun w5 hb => ?_
    have b5 := bt b4 hb
    have h3 := stay hb h3
    have h4 := stay hb h4
    have h7 := stay hb h7
    have fin : ∀ w6 long, (both = true → long = true) → Below w.heap.size w w6 → w6.heap[p7]? = some (.cells (rdC 0 0) 27) →
        (ldn 2 (.pointer (some ⟨p7, 0, none⟩)) fun t55 =>
        smr Try.prog (Instr.build 27 #[]) fun t56 =>
        smr Try.prog (do eqGuard .eql 27 (.tmp 55) (.tmp 56) t55 t56; binOp .eql 27 t55 t56) fun t57 =>
        gd t57 true (idv (.bool both)) fun t59 =>
        gd t57 true (nt t59) fun t60 =>
        gd t57 true (idv t60) fun t61 =>
        gd t61 false (idv (.bool long)) fun t62 =>
        gd t57 true (pk t61 (.bool true) t62) fun t63 =>
        pk t57 t63 (.bool false) fun t64 =>
        rt t64) w6 Q := by
      intro w6 long hl b6 h7
      refine ldn_box h7 rfl ?_
      rw [smr_e]
      refine ⟨_, build27n _, ?_⟩
      rw [smr_e]
      refine ⟨_, eq27 0 0 0 0 _ _ _, ?_⟩
      cases hbo : both with
      | false =>
        simp only [↓bx_e, ↓al_e, ↓fa_e, ↓ld_e, ↓ad_e, ↓su_e, ↓mu_e, ↓lt_e, ↓le_e, ↓gt_e, ↓ge_e, ↓eqi_e, ↓nei_e, ↓qu_e, ↓re_e, ↓cv_e, ↓nt_e, ↓pk_t, ↓pk_f, ↓pk_e, ↓eqb_e, ↓neb_e, ↓nc_e, ↓ex_e, ↓lnl_e, ↓lns_e, ↓idv_e, ↓cl_e, ↓cnd_e, ↓gd_e, ↓gd_u, ↓gdu_e, ↓rt_e, ↓jn_e, ↓dr_q, ↓kp_e, ↓mnm_e, ↓mxm_e, ↓mif_e, ↓asrt_e, ↓eqs_e, ↓nes_e, Value.cells, add_lit, cell_psh_new, cell_drw, Nat.zero_add, Nat.reduceAdd, get4_0, get4_1, get4_2, get4_3, get3_0, get3_1, get3_2, get2_0, get2_1, get1_0, Option.some.injEq, exists_eq_left', decide_true, decide_false, decide_eq_true_eq, if_true, if_false, Bool.not_true, Bool.not_false, Bool.false_eq_true, Bool.true_eq_false, Bool.not_eq_true', decide_eq_false_iff_not, not_false_eq_true, not_true_eq_false, reduceCtorEq, bx_e, al_e, fa_e, ld_e, ad_e, su_e, mu_e, lt_e, le_e, gt_e, ge_e, eqi_e, nei_e, qu_e, re_e, cv_e, nt_e, pk_t, pk_f, pk_e, eqb_e, neb_e, nc_e, ex_e, lnl_e, lns_e, idv_e, cl_e, cnd_e, gd_e, gd_u, gdu_e, rt_e, jn_e, dr_q, kp_e, mnm_e, mxm_e, mif_e, asrt_e, eqs_e, nes_e, cond_true, cond_false, Bool.true_and, Bool.and_true, Bool.false_and, Bool.and_false, decide_not, beq_self_eq_true]
        exact h _ b6
      | true =>
        have hl := hl hbo
        subst hl
        simp only [↓bx_e, ↓al_e, ↓fa_e, ↓ld_e, ↓ad_e, ↓su_e, ↓mu_e, ↓lt_e, ↓le_e, ↓gt_e, ↓ge_e, ↓eqi_e, ↓nei_e, ↓qu_e, ↓re_e, ↓cv_e, ↓nt_e, ↓pk_t, ↓pk_f, ↓pk_e, ↓eqb_e, ↓neb_e, ↓nc_e, ↓ex_e, ↓lnl_e, ↓lns_e, ↓idv_e, ↓cl_e, ↓cnd_e, ↓gd_e, ↓gd_u, ↓gdu_e, ↓rt_e, ↓jn_e, ↓dr_q, ↓kp_e, ↓mnm_e, ↓mxm_e, ↓mif_e, ↓asrt_e, ↓eqs_e, ↓nes_e, Value.cells, add_lit, cell_psh_new, cell_drw, Nat.zero_add, Nat.reduceAdd, get4_0, get4_1, get4_2, get4_3, get3_0, get3_1, get3_2, get2_0, get2_1, get1_0, Option.some.injEq, exists_eq_left', decide_true, decide_false, decide_eq_true_eq, if_true, if_false, Bool.not_true, Bool.not_false, Bool.false_eq_true, Bool.true_eq_false, Bool.not_eq_true', decide_eq_false_iff_not, not_false_eq_true, not_true_eq_false, reduceCtorEq, bx_e, al_e, fa_e, ld_e, ad_e, su_e, mu_e, lt_e, le_e, gt_e, ge_e, eqi_e, nei_e, qu_e, re_e, cv_e, nt_e, pk_t, pk_f, pk_e, eqb_e, neb_e, nc_e, ex_e, lnl_e, lns_e, idv_e, cl_e, cnd_e, gd_e, gd_u, gdu_e, rt_e, jn_e, dr_q, kp_e, mnm_e, mxm_e, mif_e, asrt_e, eqs_e, nes_e, cond_true, cond_false, Bool.true_and, Bool.and_true, Bool.false_and, Bool.and_false, decide_not, beq_self_eq_true]
        exact h _ b6
    cases hR : rrB Ea Aa with
    | false =>
      simp only [↓bx_e, ↓al_e, ↓fa_e, ↓ld_e, ↓ad_e, ↓su_e, ↓mu_e, ↓lt_e, ↓le_e, ↓gt_e, ↓ge_e, ↓eqi_e, ↓nei_e, ↓qu_e, ↓re_e, ↓cv_e, ↓nt_e, ↓pk_t, ↓pk_f, ↓pk_e, ↓eqb_e, ↓neb_e, ↓nc_e, ↓ex_e, ↓lnl_e, ↓lns_e, ↓idv_e, ↓cl_e, ↓cnd_e, ↓gd_e, ↓gd_u, ↓gdu_e, ↓rt_e, ↓jn_e, ↓dr_q, ↓kp_e, ↓mnm_e, ↓mxm_e, ↓mif_e, ↓asrt_e, ↓eqs_e, ↓nes_e, Value.cells, add_lit, cell_psh_new, cell_drw, Nat.zero_add, Nat.reduceAdd, get4_0, get4_1, get4_2, get4_3, get3_0, get3_1, get3_2, get2_0, get2_1, get1_0, Option.some.injEq, exists_eq_left', decide_true, decide_false, decide_eq_true_eq, if_true, if_false, Bool.not_true, Bool.not_false, Bool.false_eq_true, Bool.true_eq_false, Bool.not_eq_true', decide_eq_false_iff_not, not_false_eq_true, not_true_eq_false, reduceCtorEq, bx_e, al_e, fa_e, ld_e, ad_e, su_e, mu_e, lt_e, le_e, gt_e, ge_e, eqi_e, nei_e, qu_e, re_e, cv_e, nt_e, pk_t, pk_f, pk_e, eqb_e, neb_e, nc_e, ex_e, lnl_e, lns_e, idv_e, cl_e, cnd_e, gd_e, gd_u, gdu_e, rt_e, jn_e, dr_q, kp_e, mnm_e, mxm_e, mif_e, asrt_e, eqs_e, nes_e, cond_true, cond_false, Bool.true_and, Bool.and_true, Bool.false_and, Bool.and_false, decide_not]
      refine ⟨fun h => by simp [gdB] at h, fun h => by simp [gdB] at h, ?_⟩
      refine fin w5 false ?_ b5 h7
      intro hbo
      have := nomeet_is hn (hboth ▸ hbo)
      rw [hR] at this
      exact this.1
    | true =>
      simp only [↓bx_e, ↓al_e, ↓fa_e, ↓ld_e, ↓ad_e, ↓su_e, ↓mu_e, ↓lt_e, ↓le_e, ↓gt_e, ↓ge_e, ↓eqi_e, ↓nei_e, ↓qu_e, ↓re_e, ↓cv_e, ↓nt_e, ↓pk_t, ↓pk_f, ↓pk_e, ↓eqb_e, ↓neb_e, ↓nc_e, ↓ex_e, ↓lnl_e, ↓lns_e, ↓idv_e, ↓cl_e, ↓cnd_e, ↓gd_e, ↓gd_u, ↓gdu_e, ↓rt_e, ↓jn_e, ↓dr_q, ↓kp_e, ↓mnm_e, ↓mxm_e, ↓mif_e, ↓asrt_e, ↓eqs_e, ↓nes_e, Value.cells, add_lit, cell_psh_new, cell_drw, Nat.zero_add, Nat.reduceAdd, get4_0, get4_1, get4_2, get4_3, get3_0, get3_1, get3_2, get2_0, get2_1, get1_0, Option.some.injEq, exists_eq_left', decide_true, decide_false, decide_eq_true_eq, if_true, if_false, Bool.not_true, Bool.not_false, Bool.false_eq_true, Bool.true_eq_false, Bool.not_eq_true', decide_eq_false_iff_not, not_false_eq_true, not_true_eq_false, reduceCtorEq, bx_e, al_e, fa_e, ld_e, ad_e, su_e, mu_e, lt_e, le_e, gt_e, ge_e, eqi_e, nei_e, qu_e, re_e, cv_e, nt_e, pk_t, pk_f, pk_e, eqb_e, neb_e, nc_e, ex_e, lnl_e, lns_e, idv_e, cl_e, cnd_e, gd_e, gd_u, gdu_e, rt_e, jn_e, dr_q, kp_e, mnm_e, mxm_e, mif_e, asrt_e, eqs_e, nes_e, cond_true, cond_false, Bool.true_and, Bool.and_true, Bool.false_and, Bool.and_false, decide_not]
      refine ldn_box h4 rfl ?_
      simp only [↓bx_e, ↓al_e, ↓fa_e, ↓ld_e, ↓ad_e, ↓su_e, ↓mu_e, ↓lt_e, ↓le_e, ↓gt_e, ↓ge_e, ↓eqi_e, ↓nei_e, ↓qu_e, ↓re_e, ↓cv_e, ↓nt_e, ↓pk_t, ↓pk_f, ↓pk_e, ↓eqb_e, ↓neb_e, ↓nc_e, ↓ex_e, ↓lnl_e, ↓lns_e, ↓idv_e, ↓cl_e, ↓cnd_e, ↓gd_e, ↓gd_u, ↓gdu_e, ↓rt_e, ↓jn_e, ↓dr_q, ↓kp_e, ↓mnm_e, ↓mxm_e, ↓mif_e, ↓asrt_e, ↓eqs_e, ↓nes_e, Value.cells, add_lit, cell_psh_new, cell_drw, Nat.zero_add, Nat.reduceAdd, get4_0, get4_1, get4_2, get4_3, get3_0, get3_1, get3_2, get2_0, get2_1, get1_0, Option.some.injEq, exists_eq_left', decide_true, decide_false, decide_eq_true_eq, if_true, if_false, Bool.not_true, Bool.not_false, Bool.false_eq_true, Bool.true_eq_false, Bool.not_eq_true', decide_eq_false_iff_not, not_false_eq_true, not_true_eq_false, reduceCtorEq, bx_e, al_e, fa_e, ld_e, ad_e, su_e, mu_e, lt_e, le_e, gt_e, ge_e, eqi_e, nei_e, qu_e, re_e, cv_e, nt_e, pk_t, pk_f, pk_e, eqb_e, neb_e, nc_e, ex_e, lnl_e, lns_e, idv_e, cl_e, cnd_e, gd_e, gd_u, gdu_e, rt_e, jn_e, dr_q, kp_e, mnm_e, mxm_e, mif_e, asrt_e, eqs_e, nes_e, cond_true, cond_false, Bool.true_and, Bool.and_true, Bool.false_and, Bool.and_false, decide_not]
      refine f9_s Eb Ab _ _ fun w6 hb => ?_
      have b6 := bt b5 hb
      have h3 := stay hb h3
      have h4 := stay hb h4
      have h7 := stay hb h7
      try simp only [↓bx_e, ↓al_e, ↓fa_e, ↓ld_e, ↓ad_e, ↓su_e, ↓mu_e, ↓lt_e, ↓le_e, ↓gt_e, ↓ge_e, ↓eqi_e, ↓nei_e, ↓qu_e, ↓re_e, ↓cv_e, ↓nt_e, ↓pk_t, ↓pk_f, ↓pk_e, ↓eqb_e, ↓neb_e, ↓nc_e, ↓ex_e, ↓lnl_e, ↓lns_e, ↓idv_e, ↓cl_e, ↓cnd_e, ↓gd_e, ↓gd_u, ↓gdu_e, ↓rt_e, ↓jn_e, ↓dr_q, ↓kp_e, ↓mnm_e, ↓mxm_e, ↓mif_e, ↓asrt_e, ↓eqs_e, ↓nes_e, Value.cells, add_lit, cell_psh_new, cell_drw, Nat.zero_add, Nat.reduceAdd, get4_0, get4_1, get4_2, get4_3, get3_0, get3_1, get3_2, get2_0, get2_1, get1_0, Option.some.injEq, exists_eq_left', decide_true, decide_false, decide_eq_true_eq, if_true, if_false, Bool.not_true, Bool.not_false, Bool.false_eq_true, Bool.true_eq_false, Bool.not_eq_true', decide_eq_false_iff_not, not_false_eq_true, not_true_eq_false, reduceCtorEq, bx_e, al_e, fa_e, ld_e, ad_e, su_e, mu_e, lt_e, le_e, gt_e, ge_e, eqi_e, nei_e, qu_e, re_e, cv_e, nt_e, pk_t, pk_f, pk_e, eqb_e, neb_e, nc_e, ex_e, lnl_e, lns_e, idv_e, cl_e, cnd_e, gd_e, gd_u, gdu_e, rt_e, jn_e, dr_q, kp_e, mnm_e, mxm_e, mif_e, asrt_e, eqs_e, nes_e, cond_true, cond_false, Bool.true_and, Bool.and_true, Bool.false_and, Bool.and_false, decide_not]
      refine f11_s Eb Ab _ _ fun w7 hb => ?_
      have b7 := bt b6 hb
      have h3 := stay hb h3
      have h4 := stay hb h4
      have h7 := stay hb h7
      cases hS : rrB Eb Ab with
      | false =>
        simp only [↓bx_e, ↓al_e, ↓fa_e, ↓ld_e, ↓ad_e, ↓su_e, ↓mu_e, ↓lt_e, ↓le_e, ↓gt_e, ↓ge_e, ↓eqi_e, ↓nei_e, ↓qu_e, ↓re_e, ↓cv_e, ↓nt_e, ↓pk_t, ↓pk_f, ↓pk_e, ↓eqb_e, ↓neb_e, ↓nc_e, ↓ex_e, ↓lnl_e, ↓lns_e, ↓idv_e, ↓cl_e, ↓cnd_e, ↓gd_e, ↓gd_u, ↓gdu_e, ↓rt_e, ↓jn_e, ↓dr_q, ↓kp_e, ↓mnm_e, ↓mxm_e, ↓mif_e, ↓asrt_e, ↓eqs_e, ↓nes_e, Value.cells, add_lit, cell_psh_new, cell_drw, Nat.zero_add, Nat.reduceAdd, get4_0, get4_1, get4_2, get4_3, get3_0, get3_1, get3_2, get2_0, get2_1, get1_0, Option.some.injEq, exists_eq_left', decide_true, decide_false, decide_eq_true_eq, if_true, if_false, Bool.not_true, Bool.not_false, Bool.false_eq_true, Bool.true_eq_false, Bool.not_eq_true', decide_eq_false_iff_not, not_false_eq_true, not_true_eq_false, reduceCtorEq, bx_e, al_e, fa_e, ld_e, ad_e, su_e, mu_e, lt_e, le_e, gt_e, ge_e, eqi_e, nei_e, qu_e, re_e, cv_e, nt_e, pk_t, pk_f, pk_e, eqb_e, neb_e, nc_e, ex_e, lnl_e, lns_e, idv_e, cl_e, cnd_e, gd_e, gd_u, gdu_e, rt_e, jn_e, dr_q, kp_e, mnm_e, mxm_e, mif_e, asrt_e, eqs_e, nes_e, cond_true, cond_false, Bool.true_and, Bool.and_true, Bool.false_and, Bool.and_false, decide_not]
        refine ⟨fun h => by simp [gdB] at h, fun h => by simp [gdB] at h, ?_⟩
        refine fin w7 false ?_ b7 h7
        intro hbo
        have := nomeet_is hn (hboth ▸ hbo)
        rw [hS] at this
        exact this.2.1
      | true =>
        obtain ⟨a1, a2, a3, a4⟩ := rrB_t.1 hR
        obtain ⟨d1, d2, d3, d4⟩ := rrB_t.1 hS
        have c30 := cell_of_blk (n := 0) h3
        have c40 := cell_of_blk (n := 0) h4
        have n2 : ¬ Eb = 0 := by omega
        obtain ⟨a, ha⟩ : ∃ a : Nat, Ea = a := ⟨Ea.toNat, by omega⟩
        obtain ⟨b, hb⟩ : ∃ b : Nat, Eb = b := ⟨Eb.toNat, by omega⟩
        subst ha hb
        obtain ⟨g, p, q, hg, hg1, hp1, hq1, hp, hq, hco⟩ := gcd_parts (a := a) (b := b) (by omega) (by omega)
        have e2 : IntKind.i64.wrap ((1099511627776 : Int).tdiv b) = 1099511627776 / (b : Int) := by
          rw [Int.tdiv_eq_ediv_of_nonneg (by omega)]
          have := Int.ediv_nonneg (show (0 : Int) ≤ 1099511627776 by omega) (show (0 : Int) ≤ b by omega)
          have := Int.ediv_le_self (a := 1099511627776) b (by omega)
          exact w64' (by omega) (by omega)
        simp only [↓bx_e, ↓al_e, ↓fa_e, ↓ld_e, ↓ad_e, ↓su_e, ↓mu_e, ↓lt_e, ↓le_e, ↓gt_e, ↓ge_e, ↓eqi_e, ↓nei_e, ↓qu_e, ↓re_e, ↓cv_e, ↓nt_e, ↓pk_t, ↓pk_f, ↓pk_e, ↓eqb_e, ↓neb_e, ↓nc_e, ↓ex_e, ↓lnl_e, ↓lns_e, ↓idv_e, ↓cl_e, ↓cnd_e, ↓gd_e, ↓gd_u, ↓gdu_e, ↓rt_e, ↓jn_e, ↓dr_q, ↓kp_e, ↓mnm_e, ↓mxm_e, ↓mif_e, ↓asrt_e, ↓eqs_e, ↓nes_e, Value.cells, add_lit, cell_psh_new, cell_drw, Nat.zero_add, Nat.reduceAdd, get4_0, get4_1, get4_2, get4_3, get3_0, get3_1, get3_2, get2_0, get2_1, get1_0, Option.some.injEq, exists_eq_left', decide_true, decide_false, decide_eq_true_eq, if_true, if_false, Bool.not_true, Bool.not_false, Bool.false_eq_true, Bool.true_eq_false, Bool.not_eq_true', decide_eq_false_iff_not, not_false_eq_true, not_true_eq_false, reduceCtorEq, bx_e, al_e, fa_e, ld_e, ad_e, su_e, mu_e, lt_e, le_e, gt_e, ge_e, eqi_e, nei_e, qu_e, re_e, cv_e, nt_e, pk_t, pk_f, pk_e, eqb_e, neb_e, nc_e, ex_e, lnl_e, lns_e, idv_e, cl_e, cnd_e, gd_e, gd_u, gdu_e, rt_e, jn_e, dr_q, kp_e, mnm_e, mxm_e, mif_e, asrt_e, eqs_e, nes_e, cond_true, cond_false, Bool.true_and, Bool.and_true, Bool.false_and, Bool.and_false, decide_not, c30, c40, rdC, ne_eq, n2, not_false_eq_true, true_and, e2]
        refine f18_s a b (by omega) (by omega) _ _ fun w8 hb => ?_
        have b8 := bt b7 hb
        have h3 := stay hb h3
        have h4 := stay hb h4
        have h7 := stay hb h7
        have c30 := cell_of_blk (n := 0) h3
        have c40 := cell_of_blk (n := 0) h4
        rw [hg]
        have n3 : ¬ g = 0 := by omega
        have e3 : IntKind.i64.wrap ((a : Int).tdiv g) = p := by
          rw [hp, Int.mul_tdiv_cancel_left _ (by omega)]; refine w64' (by omega) ?_
          have : 1 * p ≤ g * p := Int.mul_le_mul_of_nonneg_right hg1 (by omega)
          omega
        simp only [↓bx_e, ↓al_e, ↓fa_e, ↓ld_e, ↓ad_e, ↓su_e, ↓mu_e, ↓lt_e, ↓le_e, ↓gt_e, ↓ge_e, ↓eqi_e, ↓nei_e, ↓qu_e, ↓re_e, ↓cv_e, ↓nt_e, ↓pk_t, ↓pk_f, ↓pk_e, ↓eqb_e, ↓neb_e, ↓nc_e, ↓ex_e, ↓lnl_e, ↓lns_e, ↓idv_e, ↓cl_e, ↓cnd_e, ↓gd_e, ↓gd_u, ↓gdu_e, ↓rt_e, ↓jn_e, ↓dr_q, ↓kp_e, ↓mnm_e, ↓mxm_e, ↓mif_e, ↓asrt_e, ↓eqs_e, ↓nes_e, Value.cells, add_lit, cell_psh_new, cell_drw, Nat.zero_add, Nat.reduceAdd, get4_0, get4_1, get4_2, get4_3, get3_0, get3_1, get3_2, get2_0, get2_1, get1_0, Option.some.injEq, exists_eq_left', decide_true, decide_false, decide_eq_true_eq, if_true, if_false, Bool.not_true, Bool.not_false, Bool.false_eq_true, Bool.true_eq_false, Bool.not_eq_true', decide_eq_false_iff_not, not_false_eq_true, not_true_eq_false, reduceCtorEq, bx_e, al_e, fa_e, ld_e, ad_e, su_e, mu_e, lt_e, le_e, gt_e, ge_e, eqi_e, nei_e, qu_e, re_e, cv_e, nt_e, pk_t, pk_f, pk_e, eqb_e, neb_e, nc_e, ex_e, lnl_e, lns_e, idv_e, cl_e, cnd_e, gd_e, gd_u, gdu_e, rt_e, jn_e, dr_q, kp_e, mnm_e, mxm_e, mif_e, asrt_e, eqs_e, nes_e, cond_true, cond_false, Bool.true_and, Bool.and_true, Bool.false_and, Bool.and_false, decide_not, Kld_e, c30, c40, rdC, ne_eq, n3, not_false_eq_true, true_and, e3]
        refine ⟨fun _ => trivial, fun _ => trivial, ?_⟩
        refine fin w8 _ ?_ b8 h7
        intro hbo
        have := (nomeet_is hn (hboth ▸ hbo)).2.2
        rw [Int.toNat_natCast, Int.toNat_natCast, hg] at this
        have e4 : (a : Int) / g = p := by rw [hp, Int.mul_ediv_cancel_left _ (by omega)]
        rw [e4] at this
        simpa using this

theorem f4_s (Ea Aa Eb Ab t : Int) (w : World) (Q : Value → World → Prop) (h : ∀ w', Below w.heap.size w w' → Q (.bool true) w') : f4 (rdV Ea Aa) (rdV Eb Ab) (.int .i64 t) w Q := by
  unfold f4
  simp only [↓bx_e, ↓cl_e]
  rw [show (rdV Ea Aa).cells = rdC Ea Aa from rfl, show (rdV Eb Ab).cells = rdC Eb Ab from rfl]
  have q0 := blk_psh_new (w := w) (o := .cells (rdC Ea Aa) 23)
  have b0 := b_psh w (.cells (rdC Ea Aa) 23)
  generalize psh w (.cells (rdC Ea Aa) 23) = w1 at *
  have r1 := blk_psh_new (w := w1) (o := .cells (rdC Eb Ab) 23)
  have hb := b_psh w1 (.cells (rdC Eb Ab) 23)
  have b1 := bt b0 hb
  have q1 := stay hb q0
  generalize psh w1 (.cells (rdC Eb Ab) 23) = w2 at *
  refine f7_s _ _ fun w3 hb => ?_
  have b3 : Below w.heap.size w (drw w3) := Below_drw (bt b1 hb)
  have q3 : (drw w3).heap[w.heap.size]? = some (.cells (rdC Ea Aa) 23) := (stay hb q1 :)
  have r3 : (drw w3).heap[w1.heap.size]? = some (.cells (rdC Eb Ab) 23) := (stay hb r1 :)
  simp only [↓bx_e, ↓al_e, ↓fa_e, ↓ld_e, ↓ad_e, ↓su_e, ↓mu_e, ↓lt_e, ↓le_e, ↓gt_e, ↓ge_e, ↓eqi_e, ↓nei_e, ↓qu_e, ↓re_e, ↓cv_e, ↓nt_e, ↓pk_t, ↓pk_f, ↓pk_e, ↓eqb_e, ↓neb_e, ↓nc_e, ↓ex_e, ↓lnl_e, ↓lns_e, ↓idv_e, ↓cl_e, ↓cnd_e, ↓gd_e, ↓gd_u, ↓gdu_e, ↓rt_e, ↓jn_e, ↓dr_q, ↓kp_e, ↓mnm_e, ↓mxm_e, ↓mif_e, ↓asrt_e, ↓eqs_e, ↓nes_e, Value.cells, add_lit, cell_psh_new, cell_drw, Nat.zero_add, Nat.reduceAdd, get4_0, get4_1, get4_2, get4_3, get3_0, get3_1, get3_2, get2_0, get2_1, get1_0, Option.some.injEq, exists_eq_left', decide_true, decide_false, decide_eq_true_eq, if_true, if_false, Bool.not_true, Bool.not_false, Bool.false_eq_true, Bool.true_eq_false, Bool.not_eq_true', decide_eq_false_iff_not, not_false_eq_true, not_true_eq_false, reduceCtorEq, bx_e, al_e, fa_e, ld_e, ad_e, su_e, mu_e, lt_e, le_e, gt_e, ge_e, eqi_e, nei_e, qu_e, re_e, cv_e, nt_e, pk_t, pk_f, pk_e, eqb_e, neb_e, nc_e, ex_e, lnl_e, lns_e, idv_e, cl_e, cnd_e, gd_e, gd_u, gdu_e, rt_e, jn_e, dr_q, kp_e, mnm_e, mxm_e, mif_e, asrt_e, eqs_e, nes_e, cond_true, cond_false, Bool.true_and, Bool.and_true, Bool.false_and, Bool.and_false, decide_not]
  generalize drw w3 = w3' at *
  have l1 : w.heap.size ≤ w1.heap.size := b0.size
  refine ldn_box q3 rfl ?_
  refine ldn_box r3 rfl ?_
  -- the end of each order
  have leaf : ∀ (w4 : World) (z : Array Value) (E A : Int) (ok : Bool) (p7 : Nat), z.size = 2 → ((ok = true ∧ rrB Ea Aa = true ∧ rrB Eb Ab = true ∧ Met Ea Aa Eb Ab E A) ∨ (ok = false ∧ E = 0 ∧ A = 0 ∧ NoMeet Ea Aa Eb Ab)) →
      Below w.heap.size w w4 → w4.heap[w.heap.size]? = some (.cells (rdC Ea Aa) 23) → w4.heap[w1.heap.size]? = some (.cells (rdC Eb Ab) 23) → w4.heap[p7]? = some (.cells z 27) → w1.heap.size < p7 →
      (stn 2 (.pointer (some ⟨p7, 0, none⟩)) (rdV E A) <| f4_j1 (.int .i64 t) (.pointer (some ⟨w.heap.size, 0, none⟩)) (.pointer (some ⟨w1.heap.size, 0, none⟩)) (.pointer (some ⟨p7, 0, none⟩)) (.bool ok)) w4 Q := by
    intro w4 z E A ok p7 hz hk b4 q4 r4 s4 hp
    refine stn_box (cs := rdC E A) s4 hz rfl (one_rd _ _) fun w5 hw5 hu5 => ?_
    have b5 := b4.trans (hu5.below (by omega))
    have q5 : w5.heap[w.heap.size]? = some (.cells (rdC Ea Aa) 23) := by rw [hu5.block _ (by omega)]; exact q4
    have r5 : w5.heap[w1.heap.size]? = some (.cells (rdC Eb Ab) 23) := by rw [hu5.block _ (by omega)]; exact r4
    exact f4_tail Ea Aa Eb Ab t E A ok hk q5 r5 hw5 fun w' hb => h _ (bt b5 hb)
  have hal : ∀ w4, Below w.heap.size w w4 → w4.heap[w.heap.size]? = some (.cells (rdC Ea Aa) 23) → w4.heap[w1.heap.size]? = some (.cells (rdC Eb Ab) 23) →
      Below w.heap.size w (psh w4 (.cells #[.int .i64 0, .int .i64 0] 27)) ∧ (psh w4 (.cells #[.int .i64 0, .int .i64 0] 27)).heap[w.heap.size]? = some (.cells (rdC Ea Aa) 23) ∧ (psh w4 (.cells #[.int .i64 0, .int .i64 0] 27)).heap[w1.heap.size]? = some (.cells (rdC Eb Ab) 23) ∧
      (psh w4 (.cells #[.int .i64 0, .int .i64 0] 27)).heap[w4.heap.size]? = some (.cells #[.int .i64 0, .int .i64 0] 27) ∧ w1.heap.size < w4.heap.size := by
    intro w4 b4 q4 r4
    have hb := b_psh w4 (.cells #[.int .i64 0, .int .i64 0] 27)
    exact ⟨bt b4 hb, stay hb q4, stay hb r4, blk_psh_new, blk_lt r4⟩
  rw [amb_e]
  constructor
  · rw [cl_e]
    refine f9_s Ea Aa _ _ fun w4 hb => ?_
    have b4 := bt b3 hb
    have q4 := stay hb q3
    have r4 := stay hb r3
    rw [kp_e, Kldn_e, amb_e]
    refine ⟨⟨rfl, rds2 r4⟩, ?_, ?_⟩
    · rw [cl_e]
      refine f9_s Eb Ab _ _ fun w5 hb => ?_
      have b5 := bt b4 hb
      have q5 := stay hb q4
      have r5 := stay hb r4
      rw [amb_e]
      constructor
      · rw [cl_e]
        refine f17_s Ea Aa Eb Ab _ _ ?_ ?_
        · intro w6 E A ha hb' hm hb
          have b6 := bt b5 hb
          have q6 := stay hb q5
          have r6 := stay hb r5
          obtain ⟨b7, q7, r7, s7, l7⟩ := hal w6 b6 q6 r6
          simp only [↓bx_e, ↓al_e, ↓fa_e, ↓ld_e, ↓ad_e, ↓su_e, ↓mu_e, ↓lt_e, ↓le_e, ↓gt_e, ↓ge_e, ↓eqi_e, ↓nei_e, ↓qu_e, ↓re_e, ↓cv_e, ↓nt_e, ↓pk_t, ↓pk_f, ↓pk_e, ↓eqb_e, ↓neb_e, ↓nc_e, ↓ex_e, ↓lnl_e, ↓lns_e, ↓idv_e, ↓cl_e, ↓cnd_e, ↓gd_e, ↓gd_u, ↓gdu_e, ↓rt_e, ↓jn_e, ↓dr_q, ↓kp_e, ↓mnm_e, ↓mxm_e, ↓mif_e, ↓asrt_e, ↓eqs_e, ↓nes_e, Value.cells, add_lit, cell_psh_new, cell_drw, Nat.zero_add, Nat.reduceAdd, get4_0, get4_1, get4_2, get4_3, get3_0, get3_1, get3_2, get2_0, get2_1, get1_0, Option.some.injEq, exists_eq_left', decide_true, decide_false, decide_eq_true_eq, if_true, if_false, Bool.not_true, Bool.not_false, Bool.false_eq_true, Bool.true_eq_false, Bool.not_eq_true', decide_eq_false_iff_not, not_false_eq_true, not_true_eq_false, reduceCtorEq, bx_e, al_e, fa_e, ld_e, ad_e, su_e, mu_e, lt_e, le_e, gt_e, ge_e, eqi_e, nei_e, qu_e, re_e, cv_e, nt_e, pk_t, pk_f, pk_e, eqb_e, neb_e, nc_e, ex_e, lnl_e, lns_e, idv_e, cl_e, cnd_e, gd_e, gd_u, gdu_e, rt_e, jn_e, dr_q, kp_e, mnm_e, mxm_e, mif_e, asrt_e, eqs_e, nes_e, cond_true, cond_false, Bool.true_and, Bool.and_true, Bool.false_and, Bool.and_false, decide_not, Kldn_e]
          exact ⟨⟨rfl, rds2 r7⟩, ⟨rfl, rds2 q7⟩, leaf _ _ E A true _ rfl (.inl ⟨rfl, ha, hb', hm⟩) b7 q7 r7 s7 l7⟩
        · intro w6 hn hb
          have b6 := bt b5 hb
          have q6 := stay hb q5
          have r6 := stay hb r5
          obtain ⟨b7, q7, r7, s7, l7⟩ := hal w6 b6 q6 r6
          simp only [↓bx_e, ↓al_e, ↓fa_e, ↓ld_e, ↓ad_e, ↓su_e, ↓mu_e, ↓lt_e, ↓le_e, ↓gt_e, ↓ge_e, ↓eqi_e, ↓nei_e, ↓qu_e, ↓re_e, ↓cv_e, ↓nt_e, ↓pk_t, ↓pk_f, ↓pk_e, ↓eqb_e, ↓neb_e, ↓nc_e, ↓ex_e, ↓lnl_e, ↓lns_e, ↓idv_e, ↓cl_e, ↓cnd_e, ↓gd_e, ↓gd_u, ↓gdu_e, ↓rt_e, ↓jn_e, ↓dr_q, ↓kp_e, ↓mnm_e, ↓mxm_e, ↓mif_e, ↓asrt_e, ↓eqs_e, ↓nes_e, Value.cells, add_lit, cell_psh_new, cell_drw, Nat.zero_add, Nat.reduceAdd, get4_0, get4_1, get4_2, get4_3, get3_0, get3_1, get3_2, get2_0, get2_1, get1_0, Option.some.injEq, exists_eq_left', decide_true, decide_false, decide_eq_true_eq, if_true, if_false, Bool.not_true, Bool.not_false, Bool.false_eq_true, Bool.true_eq_false, Bool.not_eq_true', decide_eq_false_iff_not, not_false_eq_true, not_true_eq_false, reduceCtorEq, bx_e, al_e, fa_e, ld_e, ad_e, su_e, mu_e, lt_e, le_e, gt_e, ge_e, eqi_e, nei_e, qu_e, re_e, cv_e, nt_e, pk_t, pk_f, pk_e, eqb_e, neb_e, nc_e, ex_e, lnl_e, lns_e, idv_e, cl_e, cnd_e, gd_e, gd_u, gdu_e, rt_e, jn_e, dr_q, kp_e, mnm_e, mxm_e, mif_e, asrt_e, eqs_e, nes_e, cond_true, cond_false, Bool.true_and, Bool.and_true, Bool.false_and, Bool.and_false, decide_not, Kldn_e]
          exact ⟨⟨rfl, rds2 r7⟩, ⟨rfl, rds2 q7⟩, leaf _ _ 0 0 false _ rfl (.inr ⟨rfl, rfl, rfl, hn⟩) b7 q7 r7 s7 l7⟩
      · obtain ⟨b7, q7, r7, s7, l7⟩ := hal w5 b5 q5 r5
        simp only [↓al_e, ↓kp_e, Kldn_e, ↓cl_e]
        refine ⟨⟨rfl, rds2 r7⟩, ⟨rfl, rds2 q7⟩, ?_⟩
        refine f17_s Ea Aa Eb Ab _ _ ?_ ?_
        · intro w6 E A ha hb' hm hb
          simp only [↓bx_e, ↓al_e, ↓fa_e, ↓ld_e, ↓ad_e, ↓su_e, ↓mu_e, ↓lt_e, ↓le_e, ↓gt_e, ↓ge_e, ↓eqi_e, ↓nei_e, ↓qu_e, ↓re_e, ↓cv_e, ↓nt_e, ↓pk_t, ↓pk_f, ↓pk_e, ↓eqb_e, ↓neb_e, ↓nc_e, ↓ex_e, ↓lnl_e, ↓lns_e, ↓idv_e, ↓cl_e, ↓cnd_e, ↓gd_e, ↓gd_u, ↓gdu_e, ↓rt_e, ↓jn_e, ↓dr_q, ↓kp_e, ↓mnm_e, ↓mxm_e, ↓mif_e, ↓asrt_e, ↓eqs_e, ↓nes_e, Value.cells, add_lit, cell_psh_new, cell_drw, Nat.zero_add, Nat.reduceAdd, get4_0, get4_1, get4_2, get4_3, get3_0, get3_1, get3_2, get2_0, get2_1, get1_0, Option.some.injEq, exists_eq_left', decide_true, decide_false, decide_eq_true_eq, if_true, if_false, Bool.not_true, Bool.not_false, Bool.false_eq_true, Bool.true_eq_false, Bool.not_eq_true', decide_eq_false_iff_not, not_false_eq_true, not_true_eq_false, reduceCtorEq, bx_e, al_e, fa_e, ld_e, ad_e, su_e, mu_e, lt_e, le_e, gt_e, ge_e, eqi_e, nei_e, qu_e, re_e, cv_e, nt_e, pk_t, pk_f, pk_e, eqb_e, neb_e, nc_e, ex_e, lnl_e, lns_e, idv_e, cl_e, cnd_e, gd_e, gd_u, gdu_e, rt_e, jn_e, dr_q, kp_e, mnm_e, mxm_e, mif_e, asrt_e, eqs_e, nes_e, cond_true, cond_false, Bool.true_and, Bool.and_true, Bool.false_and, Bool.and_false, decide_not]
          exact leaf _ _ E A true _ rfl (.inl ⟨rfl, ha, hb', hm⟩) (bt b7 hb) (stay hb q7) (stay hb r7) (stay hb s7) l7
        · intro w6 hn hb
          simp only [↓bx_e, ↓al_e, ↓fa_e, ↓ld_e, ↓ad_e, ↓su_e, ↓mu_e, ↓lt_e, ↓le_e, ↓gt_e, ↓ge_e, ↓eqi_e, ↓nei_e, ↓qu_e, ↓re_e, ↓cv_e, ↓nt_e, ↓pk_t, ↓pk_f, ↓pk_e, ↓eqb_e, ↓neb_e, ↓nc_e, ↓ex_e, ↓lnl_e, ↓lns_e, ↓idv_e, ↓cl_e, ↓cnd_e, ↓gd_e, ↓gd_u, ↓gdu_e, ↓rt_e, ↓jn_e, ↓dr_q, ↓kp_e, ↓mnm_e, ↓mxm_e, ↓mif_e, ↓asrt_e, ↓eqs_e, ↓nes_e, Value.cells, add_lit, cell_psh_new, cell_drw, Nat.zero_add, Nat.reduceAdd, get4_0, get4_1, get4_2, get4_3, get3_0, get3_1, get3_2, get2_0, get2_1, get1_0, Option.some.injEq, exists_eq_left', decide_true, decide_false, decide_eq_true_eq, if_true, if_false, Bool.not_true, Bool.not_false, Bool.false_eq_true, Bool.true_eq_false, Bool.not_eq_true', decide_eq_false_iff_not, not_false_eq_true, not_true_eq_false, reduceCtorEq, bx_e, al_e, fa_e, ld_e, ad_e, su_e, mu_e, lt_e, le_e, gt_e, ge_e, eqi_e, nei_e, qu_e, re_e, cv_e, nt_e, pk_t, pk_f, pk_e, eqb_e, neb_e, nc_e, ex_e, lnl_e, lns_e, idv_e, cl_e, cnd_e, gd_e, gd_u, gdu_e, rt_e, jn_e, dr_q, kp_e, mnm_e, mxm_e, mif_e, asrt_e, eqs_e, nes_e, cond_true, cond_false, Bool.true_and, Bool.and_true, Bool.false_and, Bool.and_false, decide_not]
          exact leaf _ _ 0 0 false _ rfl (.inr ⟨rfl, rfl, rfl, hn⟩) (bt b7 hb) (stay hb q7) (stay hb r7) (stay hb s7) l7
    · obtain ⟨b7, q7, r7, s7, l7⟩ := hal w4 b4 q4 r4
      simp only [↓al_e, ↓kp_e, Kldn_e, ↓cl_e]
      refine ⟨⟨rfl, rds2 r7⟩, ⟨rfl, rds2 q7⟩, ?_⟩
      refine f9_s Eb Ab _ _ fun w8 hb => ?_
      have b8 := bt b7 hb
      have q8 := stay hb q7
      have r8 := stay hb r7
      have s8 := stay hb s7
      refine f17_s Ea Aa Eb Ab _ _ ?_ ?_
      · intro w6 E A ha hb' hm hb
        simp only [↓bx_e, ↓al_e, ↓fa_e, ↓ld_e, ↓ad_e, ↓su_e, ↓mu_e, ↓lt_e, ↓le_e, ↓gt_e, ↓ge_e, ↓eqi_e, ↓nei_e, ↓qu_e, ↓re_e, ↓cv_e, ↓nt_e, ↓pk_t, ↓pk_f, ↓pk_e, ↓eqb_e, ↓neb_e, ↓nc_e, ↓ex_e, ↓lnl_e, ↓lns_e, ↓idv_e, ↓cl_e, ↓cnd_e, ↓gd_e, ↓gd_u, ↓gdu_e, ↓rt_e, ↓jn_e, ↓dr_q, ↓kp_e, ↓mnm_e, ↓mxm_e, ↓mif_e, ↓asrt_e, ↓eqs_e, ↓nes_e, Value.cells, add_lit, cell_psh_new, cell_drw, Nat.zero_add, Nat.reduceAdd, get4_0, get4_1, get4_2, get4_3, get3_0, get3_1, get3_2, get2_0, get2_1, get1_0, Option.some.injEq, exists_eq_left', decide_true, decide_false, decide_eq_true_eq, if_true, if_false, Bool.not_true, Bool.not_false, Bool.false_eq_true, Bool.true_eq_false, Bool.not_eq_true', decide_eq_false_iff_not, not_false_eq_true, not_true_eq_false, reduceCtorEq, bx_e, al_e, fa_e, ld_e, ad_e, su_e, mu_e, lt_e, le_e, gt_e, ge_e, eqi_e, nei_e, qu_e, re_e, cv_e, nt_e, pk_t, pk_f, pk_e, eqb_e, neb_e, nc_e, ex_e, lnl_e, lns_e, idv_e, cl_e, cnd_e, gd_e, gd_u, gdu_e, rt_e, jn_e, dr_q, kp_e, mnm_e, mxm_e, mif_e, asrt_e, eqs_e, nes_e, cond_true, cond_false, Bool.true_and, Bool.and_true, Bool.false_and, Bool.and_false, decide_not]
        exact leaf _ _ E A true _ rfl (.inl ⟨rfl, ha, hb', hm⟩) (bt b8 hb) (stay hb q8) (stay hb r8) (stay hb s8) l7
      · intro w6 hn hb
        simp only [↓bx_e, ↓al_e, ↓fa_e, ↓ld_e, ↓ad_e, ↓su_e, ↓mu_e, ↓lt_e, ↓le_e, ↓gt_e, ↓ge_e, ↓eqi_e, ↓nei_e, ↓qu_e, ↓re_e, ↓cv_e, ↓nt_e, ↓pk_t, ↓pk_f, ↓pk_e, ↓eqb_e, ↓neb_e, ↓nc_e, ↓ex_e, ↓lnl_e, ↓lns_e, ↓idv_e, ↓cl_e, ↓cnd_e, ↓gd_e, ↓gd_u, ↓gdu_e, ↓rt_e, ↓jn_e, ↓dr_q, ↓kp_e, ↓mnm_e, ↓mxm_e, ↓mif_e, ↓asrt_e, ↓eqs_e, ↓nes_e, Value.cells, add_lit, cell_psh_new, cell_drw, Nat.zero_add, Nat.reduceAdd, get4_0, get4_1, get4_2, get4_3, get3_0, get3_1, get3_2, get2_0, get2_1, get1_0, Option.some.injEq, exists_eq_left', decide_true, decide_false, decide_eq_true_eq, if_true, if_false, Bool.not_true, Bool.not_false, Bool.false_eq_true, Bool.true_eq_false, Bool.not_eq_true', decide_eq_false_iff_not, not_false_eq_true, not_true_eq_false, reduceCtorEq, bx_e, al_e, fa_e, ld_e, ad_e, su_e, mu_e, lt_e, le_e, gt_e, ge_e, eqi_e, nei_e, qu_e, re_e, cv_e, nt_e, pk_t, pk_f, pk_e, eqb_e, neb_e, nc_e, ex_e, lnl_e, lns_e, idv_e, cl_e, cnd_e, gd_e, gd_u, gdu_e, rt_e, jn_e, dr_q, kp_e, mnm_e, mxm_e, mif_e, asrt_e, eqs_e, nes_e, cond_true, cond_false, Bool.true_and, Bool.and_true, Bool.false_and, Bool.and_false, decide_not]
        exact leaf _ _ 0 0 false _ rfl (.inr ⟨rfl, rfl, rfl, hn⟩) (bt b8 hb) (stay hb q8) (stay hb r8) (stay hb s8) l7
  · obtain ⟨b7, q7, r7, s7, l7⟩ := hal w3' b3 q3 r3
    simp only [↓al_e, ↓kp_e, Kldn_e, ↓cl_e]
    refine ⟨⟨rfl, rds2 r7⟩, ⟨rfl, rds2 q7⟩, ?_⟩
    refine f9_s Ea Aa _ _ fun w8 hb => ?_
    have b8 := bt b7 hb
    have q8 := stay hb q7
    have r8 := stay hb r7
    have s8 := stay hb s7
    refine ⟨⟨rfl, rds2 r8⟩, ?_⟩
    refine f9_s Eb Ab _ _ fun w9 hb => ?_
    have b9 := bt b8 hb
    have q9 := stay hb q8
    have r9 := stay hb r8
    have s9 := stay hb s8
    refine f17_s Ea Aa Eb Ab _ _ ?_ ?_
    · intro w6 E A ha hb' hm hb
      simp only [↓bx_e, ↓al_e, ↓fa_e, ↓ld_e, ↓ad_e, ↓su_e, ↓mu_e, ↓lt_e, ↓le_e, ↓gt_e, ↓ge_e, ↓eqi_e, ↓nei_e, ↓qu_e, ↓re_e, ↓cv_e, ↓nt_e, ↓pk_t, ↓pk_f, ↓pk_e, ↓eqb_e, ↓neb_e, ↓nc_e, ↓ex_e, ↓lnl_e, ↓lns_e, ↓idv_e, ↓cl_e, ↓cnd_e, ↓gd_e, ↓gd_u, ↓gdu_e, ↓rt_e, ↓jn_e, ↓dr_q, ↓kp_e, ↓mnm_e, ↓mxm_e, ↓mif_e, ↓asrt_e, ↓eqs_e, ↓nes_e, Value.cells, add_lit, cell_psh_new, cell_drw, Nat.zero_add, Nat.reduceAdd, get4_0, get4_1, get4_2, get4_3, get3_0, get3_1, get3_2, get2_0, get2_1, get1_0, Option.some.injEq, exists_eq_left', decide_true, decide_false, decide_eq_true_eq, if_true, if_false, Bool.not_true, Bool.not_false, Bool.false_eq_true, Bool.true_eq_false, Bool.not_eq_true', decide_eq_false_iff_not, not_false_eq_true, not_true_eq_false, reduceCtorEq, bx_e, al_e, fa_e, ld_e, ad_e, su_e, mu_e, lt_e, le_e, gt_e, ge_e, eqi_e, nei_e, qu_e, re_e, cv_e, nt_e, pk_t, pk_f, pk_e, eqb_e, neb_e, nc_e, ex_e, lnl_e, lns_e, idv_e, cl_e, cnd_e, gd_e, gd_u, gdu_e, rt_e, jn_e, dr_q, kp_e, mnm_e, mxm_e, mif_e, asrt_e, eqs_e, nes_e, cond_true, cond_false, Bool.true_and, Bool.and_true, Bool.false_and, Bool.and_false, decide_not]
      exact leaf _ _ E A true _ rfl (.inl ⟨rfl, ha, hb', hm⟩) (bt b9 hb) (stay hb q9) (stay hb r9) (stay hb s9) l7
    · intro w6 hn hb
      simp only [↓bx_e, ↓al_e, ↓fa_e, ↓ld_e, ↓ad_e, ↓su_e, ↓mu_e, ↓lt_e, ↓le_e, ↓gt_e, ↓ge_e, ↓eqi_e, ↓nei_e, ↓qu_e, ↓re_e, ↓cv_e, ↓nt_e, ↓pk_t, ↓pk_f, ↓pk_e, ↓eqb_e, ↓neb_e, ↓nc_e, ↓ex_e, ↓lnl_e, ↓lns_e, ↓idv_e, ↓cl_e, ↓cnd_e, ↓gd_e, ↓gd_u, ↓gdu_e, ↓rt_e, ↓jn_e, ↓dr_q, ↓kp_e, ↓mnm_e, ↓mxm_e, ↓mif_e, ↓asrt_e, ↓eqs_e, ↓nes_e, Value.cells, add_lit, cell_psh_new, cell_drw, Nat.zero_add, Nat.reduceAdd, get4_0, get4_1, get4_2, get4_3, get3_0, get3_1, get3_2, get2_0, get2_1, get1_0, Option.some.injEq, exists_eq_left', decide_true, decide_false, decide_eq_true_eq, if_true, if_false, Bool.not_true, Bool.not_false, Bool.false_eq_true, Bool.true_eq_false, Bool.not_eq_true', decide_eq_false_iff_not, not_false_eq_true, not_true_eq_false, reduceCtorEq, bx_e, al_e, fa_e, ld_e, ad_e, su_e, mu_e, lt_e, le_e, gt_e, ge_e, eqi_e, nei_e, qu_e, re_e, cv_e, nt_e, pk_t, pk_f, pk_e, eqb_e, neb_e, nc_e, ex_e, lnl_e, lns_e, idv_e, cl_e, cnd_e, gd_e, gd_u, gdu_e, rt_e, jn_e, dr_q, kp_e, mnm_e, mxm_e, mif_e, asrt_e, eqs_e, nes_e, cond_true, cond_false, Bool.true_and, Bool.and_true, Bool.false_and, Bool.and_false, decide_not]
      exact leaf _ _ 0 0 false _ rfl (.inr ⟨rfl, rfl, rfl, hn⟩) (bt b9 hb) (stay hb q9) (stay hb r9) (stay hb s9) l7
end Go.Proofs.Ytnckcgpmidgggaa
