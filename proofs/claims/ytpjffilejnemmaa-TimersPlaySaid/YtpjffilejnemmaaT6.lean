/- What is dropped and what is due; lists of numbers held against each other; that the layer lives. -/
import Derived.Test.YtpjffilejnemmaaT5
set_option linter.unusedVariables false
set_option linter.unusedSimpArgs false
set_option linter.unusedSectionVars false
namespace Go.Proofs.Ytpjffilejnemmaa
open Sh RowKit Go.MapKept

/-- an object of timers -/
def kindQ : Obj → Prop
  | .map _ _ => True
  | .cells _ t _ => t = 54 ∨ t = 55 ∨ t = 58
  | _ => False
theorem QR.kind {B : Nat} {w : World} {p : Nat} {mv qv : Value} {l : List Tm} (hq : QR B w p mv qv l) : ∀ k, fpQ p qv l k → ∃ o, w.heap[k]? = some o ∧ kindQ o := by
  rintro k (rfl | h | h)
  · exact ⟨_, hq.hp, .inl rfl⟩
  · obtain ⟨_, _, cur, hc⟩ := ownV_lt hq.own k h
    exact ⟨_, hc, .inr (.inl rfl)⟩
  · obtain ⟨t, ht, rfl⟩ := List.mem_map.1 h
    obtain ⟨i, hi, e⟩ := List.mem_iff_getElem.1 ht
    have := hq.tm i hi
    rw [e] at this
    exact ⟨_, this, .inr (.inr rfl)⟩
theorem TS.kind {B : Nat} {w : World} {p : Nat} {R : List Pr} {F : Nat → Prop} (h : TS B w p R F) : ∀ k, F k → ∃ o, w.heap[k]? = some o ∧ kindQ o := by
  obtain ⟨m, qv, l, L, hq, hh, hp, hs, hm, hL, hB, hF⟩ := h.ex
  intro k hk
  rcases (hF k).1 hk with h | rfl
  · exact hq.kind k h
  · obtain ⟨es, clock, h1, _⟩ := hm
    exact ⟨_, h1, trivial⟩
section
variable {B : Nat} {p : Nat} {mv qv : Value} {Q : Value → World → Prop} {w : World} {l : List Tm} {R : List Pr} {F : Nat → Prop}
/-- heap.Pop, and what the popped timer reads -/
theorem hpop2_s (hq : QR B w p mv qv l) (hh : Hp.HP ltT l l.length) (hne : 0 < l.length) (hl : l.length ≤ 1000000)
    (kk : ∀ w' qv' l2, QR B w' p mv qv' l2 → Hp.HP ltT l2 l2.length → l.Perm (l[0] :: l2) → ChgS (fpQ p qv l) w w' → qv'.ownBlock = qv.ownBlock → (∃ x, w'.heap[l[0].blk]? = some (.cells (tC l[0] x) 58 (0, 0))) → Q (.iface 55 (pv l[0].blk)) w') :
    f24 (hv p) w Q := by
  unfold f24
  refine ci_len hq ?_
  have e1 : IntKind.i64.wrap ((l.length : Int) - 1) = ((l.length - 1 : Nat) : Int) := by rw [w64 (by omega) (by omega)]; omega
  simp only [↓bx_e, ↓al_e, ↓fa_e, ↓ld_e, ↓ad_e, ↓su_e, ↓mu_e, ↓lt_e, ↓le_e, ↓gt_e, ↓ge_e, ↓eqi_e, ↓nei_e, ↓qu_e, ↓re_e, ↓cv_e, ↓nt_e, ↓pk_t, ↓pk_f, ↓pk_e, ↓eqb_e, ↓neb_e, ↓nc_e, ↓ex_e, ↓lnl_e, ↓lns_e, ↓idv_e, ↓cl_e, ↓cnd_e, ↓gd_e, ↓gd_u, ↓gdu_e, ↓rt_e, ↓jn_e, ↓dr_q, ↓kp_e, ↓mnm_e, ↓mxm_e, ↓mif_e, ↓asrt_e, ↓eqs_e, ↓nes_e, Value.cells, add_lit, cell_psh_new, cell_drw, Nat.zero_add, Nat.reduceAdd, get4_0, get4_1, get4_2, get4_3, get3_0, get3_1, get3_2, get2_0, get2_1, get1_0, Option.some.injEq, exists_eq_left', decide_true, decide_false, decide_eq_true_eq, if_true, if_false, Bool.not_true, Bool.not_false, Bool.false_eq_true, Bool.true_eq_false, Bool.not_eq_true', decide_eq_false_iff_not, not_false_eq_true, not_true_eq_false, reduceCtorEq, bx_e, al_e, fa_e, ld_e, ad_e, su_e, mu_e, lt_e, le_e, gt_e, ge_e, eqi_e, nei_e, qu_e, re_e, cv_e, nt_e, pk_t, pk_f, pk_e, eqb_e, neb_e, nc_e, ex_e, lnl_e, lns_e, idv_e, cl_e, cnd_e, gd_e, gd_u, gdu_e, rt_e, jn_e, dr_q, kp_e, mnm_e, mxm_e, mif_e, asrt_e, eqs_e, nes_e, cond_true, cond_false, Bool.true_and, Bool.and_true, Bool.false_and, Bool.and_false, decide_not, e1]
  refine ci_swap (i := 0) hq hne (by omega) fun w1 hq1 hc1 => ?_
  have hsl := Hp.swap_len l 0 (l.length - 1)
  refine down_s (i := 0) hq1 (Nat.zero_le _) (by omega) (by omega) fun w2 hq2 hc2 => ?_
  rw [Nat.sub_zero] at hq2
  have hll : (Hp.down ltT (l.length - 1) (Hp.swap l 0 (l.length - 1)) 0 (l.length - 1)).1.length = l.length := by rw [down_len]; omega
  obtain ⟨l1, hl1⟩ : ∃ l1, l1 = (Hp.down ltT (l.length - 1) (Hp.swap l 0 (l.length - 1)) 0 (l.length - 1)).1 := ⟨_, rfl⟩
  rw [← hl1] at hq2 hll
  obtain ⟨h1, h2, h3⟩ := pop_heap hh hne l1 hl1 hll
  try simp only [↓bx_e, ↓al_e, ↓fa_e, ↓ld_e, ↓ad_e, ↓su_e, ↓mu_e, ↓lt_e, ↓le_e, ↓gt_e, ↓ge_e, ↓eqi_e, ↓nei_e, ↓qu_e, ↓re_e, ↓cv_e, ↓nt_e, ↓pk_t, ↓pk_f, ↓pk_e, ↓eqb_e, ↓neb_e, ↓nc_e, ↓ex_e, ↓lnl_e, ↓lns_e, ↓idv_e, ↓cl_e, ↓cnd_e, ↓gd_e, ↓gd_u, ↓gdu_e, ↓rt_e, ↓jn_e, ↓dr_q, ↓kp_e, ↓mnm_e, ↓mxm_e, ↓mif_e, ↓asrt_e, ↓eqs_e, ↓nes_e, Value.cells, add_lit, cell_psh_new, cell_drw, Nat.zero_add, Nat.reduceAdd, get4_0, get4_1, get4_2, get4_3, get3_0, get3_1, get3_2, get2_0, get2_1, get1_0, Option.some.injEq, exists_eq_left', decide_true, decide_false, decide_eq_true_eq, if_true, if_false, Bool.not_true, Bool.not_false, Bool.false_eq_true, Bool.true_eq_false, Bool.not_eq_true', decide_eq_false_iff_not, not_false_eq_true, not_true_eq_false, reduceCtorEq, bx_e, al_e, fa_e, ld_e, ad_e, su_e, mu_e, lt_e, le_e, gt_e, ge_e, eqi_e, nei_e, qu_e, re_e, cv_e, nt_e, pk_t, pk_f, pk_e, eqb_e, neb_e, nc_e, ex_e, lnl_e, lns_e, idv_e, cl_e, cnd_e, gd_e, gd_u, gdu_e, rt_e, jn_e, dr_q, kp_e, mnm_e, mxm_e, mif_e, asrt_e, eqs_e, nes_e, cond_true, cond_false, Bool.true_and, Bool.and_true, Bool.false_and, Bool.and_false, decide_not]
  refine ci_pop hq2 (by omega) (by omega) fun w3 qv3 hq3 hc3 ho3 => ?_
  try simp only [↓bx_e, ↓al_e, ↓fa_e, ↓ld_e, ↓ad_e, ↓su_e, ↓mu_e, ↓lt_e, ↓le_e, ↓gt_e, ↓ge_e, ↓eqi_e, ↓nei_e, ↓qu_e, ↓re_e, ↓cv_e, ↓nt_e, ↓pk_t, ↓pk_f, ↓pk_e, ↓eqb_e, ↓neb_e, ↓nc_e, ↓ex_e, ↓lnl_e, ↓lns_e, ↓idv_e, ↓cl_e, ↓cnd_e, ↓gd_e, ↓gd_u, ↓gdu_e, ↓rt_e, ↓jn_e, ↓dr_q, ↓kp_e, ↓mnm_e, ↓mxm_e, ↓mif_e, ↓asrt_e, ↓eqs_e, ↓nes_e, Value.cells, add_lit, cell_psh_new, cell_drw, Nat.zero_add, Nat.reduceAdd, get4_0, get4_1, get4_2, get4_3, get3_0, get3_1, get3_2, get2_0, get2_1, get1_0, Option.some.injEq, exists_eq_left', decide_true, decide_false, decide_eq_true_eq, if_true, if_false, Bool.not_true, Bool.not_false, Bool.false_eq_true, Bool.true_eq_false, Bool.not_eq_true', decide_eq_false_iff_not, not_false_eq_true, not_true_eq_false, reduceCtorEq, bx_e, al_e, fa_e, ld_e, ad_e, su_e, mu_e, lt_e, le_e, gt_e, ge_e, eqi_e, nei_e, qu_e, re_e, cv_e, nt_e, pk_t, pk_f, pk_e, eqb_e, neb_e, nc_e, ex_e, lnl_e, lns_e, idv_e, cl_e, cnd_e, gd_e, gd_u, gdu_e, rt_e, jn_e, dr_q, kp_e, mnm_e, mxm_e, mif_e, asrt_e, eqs_e, nes_e, cond_true, cond_false, Bool.true_and, Bool.and_true, Bool.false_and, Bool.and_false, decide_not]
  have hlast : l1[l1.length - 1] = l[0] := by
    rw [← h2]; congr 1; omega
  rw [hlast]
  have htm := hq2.tm (l1.length - 1) (by omega)
  rw [hlast] at htm
  refine kk w3 qv3 l1.dropLast hq3 h1 h3 ((hc1.trans hc2 (fun k _ hk => (fpQ_swap hne (by omega)).1 hk)).trans (.of_chg (S := fpQ p qv l) hc3 (.inl rfl)) (fun _ _ h => h)) ho3 ⟨_, hc3.keep htm ?_⟩
  intro e
  have := hq2.hp
  rw [← e, htm] at this; cases this
/-- heap.Remove -/
theorem hrem_s {i : Nat} (hq : QR B w p mv qv l) (hh : Hp.HP ltT l l.length) (hi : i < l.length) (hl : l.length ≤ 1000000)
    (kk : ∀ w' qv' l2, QR B w' p mv qv' l2 → Hp.HP ltT l2 l2.length → l.Perm (l[i] :: l2) → ChgS (fpQ p qv l) w w' → qv'.ownBlock = qv.ownBlock → Q (.iface 55 (pv l[i].blk)) w') :
    f25 (hv p) (.int .i64 (i : Int)) w Q := by
  unfold f25
  refine ci_len hq ?_
  have e1 : IntKind.i64.wrap ((l.length : Int) - 1) = ((l.length - 1 : Nat) : Int) := by rw [w64 (by omega) (by omega)]; omega
  have fin : ∀ (w1 : World) (l1 : List Tm) (hl1 : l1.length = l.length), QR B w1 p mv qv l1 → Hp.HP ltT l1.dropLast l1.dropLast.length → l.Perm (l[i] :: l1.dropLast) → (l1[l1.length - 1]'(by omega)) = l[i] → ChgS (fpQ p qv l) w w1 → f25_j1 (hv p) w1 Q := by
    intro w1 l1 hl1 hq1 h1 h2 h3 hc1
    unfold f25_j1
    refine ci_pop hq1 (by omega) (by omega) fun w3 qv3 hq3 hc3 ho3 => ?_
    rw [h3]
    try simp only [↓bx_e, ↓al_e, ↓fa_e, ↓ld_e, ↓ad_e, ↓su_e, ↓mu_e, ↓lt_e, ↓le_e, ↓gt_e, ↓ge_e, ↓eqi_e, ↓nei_e, ↓qu_e, ↓re_e, ↓cv_e, ↓nt_e, ↓pk_t, ↓pk_f, ↓pk_e, ↓eqb_e, ↓neb_e, ↓nc_e, ↓ex_e, ↓lnl_e, ↓lns_e, ↓idv_e, ↓cl_e, ↓cnd_e, ↓gd_e, ↓gd_u, ↓gdu_e, ↓rt_e, ↓jn_e, ↓dr_q, ↓kp_e, ↓mnm_e, ↓mxm_e, ↓mif_e, ↓asrt_e, ↓eqs_e, ↓nes_e, Value.cells, add_lit, cell_psh_new, cell_drw, Nat.zero_add, Nat.reduceAdd, get4_0, get4_1, get4_2, get4_3, get3_0, get3_1, get3_2, get2_0, get2_1, get1_0, Option.some.injEq, exists_eq_left', decide_true, decide_false, decide_eq_true_eq, if_true, if_false, Bool.not_true, Bool.not_false, Bool.false_eq_true, Bool.true_eq_false, Bool.not_eq_true', decide_eq_false_iff_not, not_false_eq_true, not_true_eq_false, reduceCtorEq, bx_e, al_e, fa_e, ld_e, ad_e, su_e, mu_e, lt_e, le_e, gt_e, ge_e, eqi_e, nei_e, qu_e, re_e, cv_e, nt_e, pk_t, pk_f, pk_e, eqb_e, neb_e, nc_e, ex_e, lnl_e, lns_e, idv_e, cl_e, cnd_e, gd_e, gd_u, gdu_e, rt_e, jn_e, dr_q, kp_e, mnm_e, mxm_e, mif_e, asrt_e, eqs_e, nes_e, cond_true, cond_false, Bool.true_and, Bool.and_true, Bool.false_and, Bool.and_false, decide_not]
    exact kk w3 qv3 l1.dropLast hq3 h1 h2 (hc1.trans (.of_chg (S := fpQ p qv l) hc3 (.inl rfl)) (fun _ _ h => h)) ho3
  by_cases c : l.length - 1 = i
  · have c' : ¬ ((l.length - 1 : Nat) : Int) ≠ (i : Int) := by omega
    simp only [↓bx_e, ↓al_e, ↓fa_e, ↓ld_e, ↓ad_e, ↓su_e, ↓mu_e, ↓lt_e, ↓le_e, ↓gt_e, ↓ge_e, ↓eqi_e, ↓nei_e, ↓qu_e, ↓re_e, ↓cv_e, ↓nt_e, ↓pk_t, ↓pk_f, ↓pk_e, ↓eqb_e, ↓neb_e, ↓nc_e, ↓ex_e, ↓lnl_e, ↓lns_e, ↓idv_e, ↓cl_e, ↓cnd_e, ↓gd_e, ↓gd_u, ↓gdu_e, ↓rt_e, ↓jn_e, ↓dr_q, ↓kp_e, ↓mnm_e, ↓mxm_e, ↓mif_e, ↓asrt_e, ↓eqs_e, ↓nes_e, Value.cells, add_lit, cell_psh_new, cell_drw, Nat.zero_add, Nat.reduceAdd, get4_0, get4_1, get4_2, get4_3, get3_0, get3_1, get3_2, get2_0, get2_1, get1_0, Option.some.injEq, exists_eq_left', decide_true, decide_false, decide_eq_true_eq, if_true, if_false, Bool.not_true, Bool.not_false, Bool.false_eq_true, Bool.true_eq_false, Bool.not_eq_true', decide_eq_false_iff_not, not_false_eq_true, not_true_eq_false, reduceCtorEq, bx_e, al_e, fa_e, ld_e, ad_e, su_e, mu_e, lt_e, le_e, gt_e, ge_e, eqi_e, nei_e, qu_e, re_e, cv_e, nt_e, pk_t, pk_f, pk_e, eqb_e, neb_e, nc_e, ex_e, lnl_e, lns_e, idv_e, cl_e, cnd_e, gd_e, gd_u, gdu_e, rt_e, jn_e, dr_q, kp_e, mnm_e, mxm_e, mif_e, asrt_e, eqs_e, nes_e, cond_true, cond_false, Bool.true_and, Bool.and_true, Bool.false_and, Bool.and_false, decide_not, e1, c', ne_eq]
    have hlast : l[l.length - 1] = l[i] := by congr 1
    refine fin w l rfl hq ?_ ?_ hlast (ChgS.refl _ _)
    · intro k a b
      rw [List.length_dropLast] at b
      have := hh k a (by omega)
      have hpk : Hp.par k < k := by unfold Hp.par; omega
      unfold Hp.le at this ⊢
      rw [Hp.g_get (by omega), Hp.g_get (by omega)] at this
      rw [Hp.g_get (by rw [List.length_dropLast]; omega), Hp.g_get (by rw [List.length_dropLast]; omega)]
      simpa using this
    · have hne : l ≠ [] := by intro e; rw [e] at hi; simp at hi
      have e : l = l.dropLast ++ [l[i]] := by
        conv => lhs; rw [← List.dropLast_concat_getLast hne]
        rw [List.getLast_eq_getElem]
        congr 2
      conv => lhs; rw [e]
      exact List.perm_append_comm
  · have c' : ((l.length - 1 : Nat) : Int) ≠ (i : Int) := by omega
    have hi2 : i < l.length - 1 := by omega
    simp only [↓bx_e, ↓al_e, ↓fa_e, ↓ld_e, ↓ad_e, ↓su_e, ↓mu_e, ↓lt_e, ↓le_e, ↓gt_e, ↓ge_e, ↓eqi_e, ↓nei_e, ↓qu_e, ↓re_e, ↓cv_e, ↓nt_e, ↓pk_t, ↓pk_f, ↓pk_e, ↓eqb_e, ↓neb_e, ↓nc_e, ↓ex_e, ↓lnl_e, ↓lns_e, ↓idv_e, ↓cl_e, ↓cnd_e, ↓gd_e, ↓gd_u, ↓gdu_e, ↓rt_e, ↓jn_e, ↓dr_q, ↓kp_e, ↓mnm_e, ↓mxm_e, ↓mif_e, ↓asrt_e, ↓eqs_e, ↓nes_e, Value.cells, add_lit, cell_psh_new, cell_drw, Nat.zero_add, Nat.reduceAdd, get4_0, get4_1, get4_2, get4_3, get3_0, get3_1, get3_2, get2_0, get2_1, get1_0, Option.some.injEq, exists_eq_left', decide_true, decide_false, decide_eq_true_eq, if_true, if_false, Bool.not_true, Bool.not_false, Bool.false_eq_true, Bool.true_eq_false, Bool.not_eq_true', decide_eq_false_iff_not, not_false_eq_true, not_true_eq_false, reduceCtorEq, bx_e, al_e, fa_e, ld_e, ad_e, su_e, mu_e, lt_e, le_e, gt_e, ge_e, eqi_e, nei_e, qu_e, re_e, cv_e, nt_e, pk_t, pk_f, pk_e, eqb_e, neb_e, nc_e, ex_e, lnl_e, lns_e, idv_e, cl_e, cnd_e, gd_e, gd_u, gdu_e, rt_e, jn_e, dr_q, kp_e, mnm_e, mxm_e, mif_e, asrt_e, eqs_e, nes_e, cond_true, cond_false, Bool.true_and, Bool.and_true, Bool.false_and, Bool.and_false, decide_not, e1, c', ne_eq, not_false_eq_true]
    refine ci_swap (j := l.length - 1) hq hi (by omega) fun w1 hq1 hc1 => ?_
    have hsl := Hp.swap_len l i (l.length - 1)
    refine down_s (n := l.length - 1) hq1 (by omega) (by omega) (by omega) fun w2 hq2 hc2 => ?_
    have hle := down_le ltT (l.length - 1 - i) (Hp.swap l i (l.length - 1)) i (l.length - 1)
    have hln := down_len ltT (l.length - 1 - i) (Hp.swap l i (l.length - 1)) i (l.length - 1)
    have hpm := down_perm ltT (l.length - 1 - i) (Hp.swap l i (l.length - 1)) i (l.length - 1) (by omega) (.inl hi2)
    have hc12 := hc1.trans hc2 (fun k _ hk => (fpQ_swap hi (by omega)).1 hk)
    have fin2 : ∀ w3, QR B w3 p mv qv (fixL (Hp.swap l i (l.length - 1)) i (l.length - 1)) → ChgS (fpQ p qv l) w w3 → f25_j1 (hv p) w3 Q := by
      intro w3 hq3 hc3
      obtain ⟨r1, r2, r3, r4⟩ := rem_heap hh hi2 _ rfl
      refine fin w3 _ r1 hq3 r2 r3 ?_ hc3
      rw [← r4, Hp.g_get (by omega)]
      congr 1; omega
    unfold fixL at fin2
    by_cases cm : (Hp.down ltT (l.length - 1 - i) (Hp.swap l i (l.length - 1)) i (l.length - 1)).2 = i
    · rw [if_pos cm] at fin2
      have : ¬ i < (Hp.down ltT (l.length - 1 - i) (Hp.swap l i (l.length - 1)) i (l.length - 1)).2 := by omega
      simp only [↓bx_e, ↓al_e, ↓fa_e, ↓ld_e, ↓ad_e, ↓su_e, ↓mu_e, ↓lt_e, ↓le_e, ↓gt_e, ↓ge_e, ↓eqi_e, ↓nei_e, ↓qu_e, ↓re_e, ↓cv_e, ↓nt_e, ↓pk_t, ↓pk_f, ↓pk_e, ↓eqb_e, ↓neb_e, ↓nc_e, ↓ex_e, ↓lnl_e, ↓lns_e, ↓idv_e, ↓cl_e, ↓cnd_e, ↓gd_e, ↓gd_u, ↓gdu_e, ↓rt_e, ↓jn_e, ↓dr_q, ↓kp_e, ↓mnm_e, ↓mxm_e, ↓mif_e, ↓asrt_e, ↓eqs_e, ↓nes_e, Value.cells, add_lit, cell_psh_new, cell_drw, Nat.zero_add, Nat.reduceAdd, get4_0, get4_1, get4_2, get4_3, get3_0, get3_1, get3_2, get2_0, get2_1, get1_0, Option.some.injEq, exists_eq_left', decide_true, decide_false, decide_eq_true_eq, if_true, if_false, Bool.not_true, Bool.not_false, Bool.false_eq_true, Bool.true_eq_false, Bool.not_eq_true', decide_eq_false_iff_not, not_false_eq_true, not_true_eq_false, reduceCtorEq, bx_e, al_e, fa_e, ld_e, ad_e, su_e, mu_e, lt_e, le_e, gt_e, ge_e, eqi_e, nei_e, qu_e, re_e, cv_e, nt_e, pk_t, pk_f, pk_e, eqb_e, neb_e, nc_e, ex_e, lnl_e, lns_e, idv_e, cl_e, cnd_e, gd_e, gd_u, gdu_e, rt_e, jn_e, dr_q, kp_e, mnm_e, mxm_e, mif_e, asrt_e, eqs_e, nes_e, cond_true, cond_false, Bool.true_and, Bool.and_true, Bool.false_and, Bool.and_false, decide_not, this]
      refine up_s hq2 (by omega) (by omega) fun w3 hq3 hc3 => ?_
      try simp only [↓bx_e, ↓al_e, ↓fa_e, ↓ld_e, ↓ad_e, ↓su_e, ↓mu_e, ↓lt_e, ↓le_e, ↓gt_e, ↓ge_e, ↓eqi_e, ↓nei_e, ↓qu_e, ↓re_e, ↓cv_e, ↓nt_e, ↓pk_t, ↓pk_f, ↓pk_e, ↓eqb_e, ↓neb_e, ↓nc_e, ↓ex_e, ↓lnl_e, ↓lns_e, ↓idv_e, ↓cl_e, ↓cnd_e, ↓gd_e, ↓gd_u, ↓gdu_e, ↓rt_e, ↓jn_e, ↓dr_q, ↓kp_e, ↓mnm_e, ↓mxm_e, ↓mif_e, ↓asrt_e, ↓eqs_e, ↓nes_e, Value.cells, add_lit, cell_psh_new, cell_drw, Nat.zero_add, Nat.reduceAdd, get4_0, get4_1, get4_2, get4_3, get3_0, get3_1, get3_2, get2_0, get2_1, get1_0, Option.some.injEq, exists_eq_left', decide_true, decide_false, decide_eq_true_eq, if_true, if_false, Bool.not_true, Bool.not_false, Bool.false_eq_true, Bool.true_eq_false, Bool.not_eq_true', decide_eq_false_iff_not, not_false_eq_true, not_true_eq_false, reduceCtorEq, bx_e, al_e, fa_e, ld_e, ad_e, su_e, mu_e, lt_e, le_e, gt_e, ge_e, eqi_e, nei_e, qu_e, re_e, cv_e, nt_e, pk_t, pk_f, pk_e, eqb_e, neb_e, nc_e, ex_e, lnl_e, lns_e, idv_e, cl_e, cnd_e, gd_e, gd_u, gdu_e, rt_e, jn_e, dr_q, kp_e, mnm_e, mxm_e, mif_e, asrt_e, eqs_e, nes_e, cond_true, cond_false, Bool.true_and, Bool.and_true, Bool.false_and, Bool.and_false, decide_not]
      exact fin2 w3 hq3 (hc12.trans hc3 (fun k _ hk => (fpQ_swap hi (by omega)).1 ((fpQ_perm hpm).1 hk)))
    · rw [if_neg cm] at fin2
      have : i < (Hp.down ltT (l.length - 1 - i) (Hp.swap l i (l.length - 1)) i (l.length - 1)).2 := by omega
      simp only [↓bx_e, ↓al_e, ↓fa_e, ↓ld_e, ↓ad_e, ↓su_e, ↓mu_e, ↓lt_e, ↓le_e, ↓gt_e, ↓ge_e, ↓eqi_e, ↓nei_e, ↓qu_e, ↓re_e, ↓cv_e, ↓nt_e, ↓pk_t, ↓pk_f, ↓pk_e, ↓eqb_e, ↓neb_e, ↓nc_e, ↓ex_e, ↓lnl_e, ↓lns_e, ↓idv_e, ↓cl_e, ↓cnd_e, ↓gd_e, ↓gd_u, ↓gdu_e, ↓rt_e, ↓jn_e, ↓dr_q, ↓kp_e, ↓mnm_e, ↓mxm_e, ↓mif_e, ↓asrt_e, ↓eqs_e, ↓nes_e, Value.cells, add_lit, cell_psh_new, cell_drw, Nat.zero_add, Nat.reduceAdd, get4_0, get4_1, get4_2, get4_3, get3_0, get3_1, get3_2, get2_0, get2_1, get1_0, Option.some.injEq, exists_eq_left', decide_true, decide_false, decide_eq_true_eq, if_true, if_false, Bool.not_true, Bool.not_false, Bool.false_eq_true, Bool.true_eq_false, Bool.not_eq_true', decide_eq_false_iff_not, not_false_eq_true, not_true_eq_false, reduceCtorEq, bx_e, al_e, fa_e, ld_e, ad_e, su_e, mu_e, lt_e, le_e, gt_e, ge_e, eqi_e, nei_e, qu_e, re_e, cv_e, nt_e, pk_t, pk_f, pk_e, eqb_e, neb_e, nc_e, ex_e, lnl_e, lns_e, idv_e, cl_e, cnd_e, gd_e, gd_u, gdu_e, rt_e, jn_e, dr_q, kp_e, mnm_e, mxm_e, mif_e, asrt_e, eqs_e, nes_e, cond_true, cond_false, Bool.true_and, Bool.and_true, Bool.false_and, Bool.and_false, decide_not, this]
      exact fin2 w2 hq2 hc12
/-- a number's pair gone from the map -/
theorem del_perm {L : List (Int × Value)} {l l2 : List Tm} {t : Tm} (hL : L.Perm (l.map fun t => (t.id, pv t.blk))) (hn : (l.map (·.id)).Nodup) (hl : l.Perm (t :: l2)) : (del L t.id).Perm (l2.map fun t => (t.id, pv t.blk)) := by
  have h1 : L.Perm ((t.id, pv t.blk) :: l2.map fun t => (t.id, pv t.blk)) := hL.trans (hl.map _)
  have h2 := (hl.map (·.id)).nodup_iff.1 hn
  rw [List.map_cons, List.nodup_cons] at h2
  refine (h1.filter _).trans ?_
  rw [List.filter_cons]
  simp only [ne_eq, not_true_eq_false, decide_false, Bool.false_eq_true, if_false]
  rw [List.filter_eq_self.2]
  intro q hq
  obtain ⟨t', ht', e⟩ := List.mem_map.1 hq
  have : q.1 ≠ t.id := fun e2 => h2.1 (e2 ▸ by rw [← e]; exact List.mem_map.2 ⟨t', ht', rfl⟩)
  simpa using this
theorem tdrop_s (ht : TS B w p R F) (id : Int) (hR : R.length ≤ 999999)
    (kk : ∀ w' F', TS B w' p (rm R id) F' → ChgS F w w' → (∀ k, F' k → F k ∨ w.heap.size ≤ k) → Q (.bool (decide (id ∈ R.map (·.2)))) w') : f15 (pv p) (.int .i64 id) w Q := by
  have ht0 := ht
  obtain ⟨m, qv, l, L, hq, hh, hp, hs, hm, hL, hB, hF⟩ := ht.ex
  have hlen : l.length = R.length := by have := hp.length_eq; simpa using this
  unfold f15 pv
  rw [pn_eq u25]
  have c1 := cell_of_blk (n := 1) hq.hp
  simp only [↓bx_e, ↓al_e, ↓fa_e, ↓ld_e, ↓ad_e, ↓su_e, ↓mu_e, ↓lt_e, ↓le_e, ↓gt_e, ↓ge_e, ↓eqi_e, ↓nei_e, ↓qu_e, ↓re_e, ↓cv_e, ↓nt_e, ↓pk_t, ↓pk_f, ↓pk_e, ↓eqb_e, ↓neb_e, ↓nc_e, ↓ex_e, ↓lnl_e, ↓lns_e, ↓idv_e, ↓cl_e, ↓cnd_e, ↓gd_e, ↓gd_u, ↓gdu_e, ↓rt_e, ↓jn_e, ↓dr_q, ↓kp_e, ↓mnm_e, ↓mxm_e, ↓mif_e, ↓asrt_e, ↓eqs_e, ↓nes_e, Value.cells, add_lit, cell_psh_new, cell_drw, Nat.zero_add, Nat.reduceAdd, get4_0, get4_1, get4_2, get4_3, get3_0, get3_1, get3_2, get2_0, get2_1, get1_0, Option.some.injEq, exists_eq_left', decide_true, decide_false, decide_eq_true_eq, if_true, if_false, Bool.not_true, Bool.not_false, Bool.false_eq_true, Bool.true_eq_false, Bool.not_eq_true', decide_eq_false_iff_not, not_false_eq_true, not_true_eq_false, reduceCtorEq, bx_e, al_e, fa_e, ld_e, ad_e, su_e, mu_e, lt_e, le_e, gt_e, ge_e, eqi_e, nei_e, qu_e, re_e, cv_e, nt_e, pk_t, pk_f, pk_e, eqb_e, neb_e, nc_e, ex_e, lnl_e, lns_e, idv_e, cl_e, cnd_e, gd_e, gd_u, gdu_e, rt_e, jn_e, dr_q, kp_e, mnm_e, mxm_e, mif_e, asrt_e, eqs_e, nes_e, cond_true, cond_false, Bool.true_and, Bool.and_true, Bool.false_and, Bool.and_false, decide_not, Option.isNone_some, c1]
  rw [look_v kk50 hm zz55]
  by_cases c : id ∈ l.map (·.id)
  · obtain ⟨t, ht', e⟩ := List.mem_map.1 c
    obtain ⟨i, hi, e2⟩ := List.mem_iff_getElem.1 ht'
    subst e2
    subst e
    rw [lk_l hL hm.nodup hi]
    simp only [↓bx_e, ↓al_e, ↓fa_e, ↓ld_e, ↓ad_e, ↓su_e, ↓mu_e, ↓lt_e, ↓le_e, ↓gt_e, ↓ge_e, ↓eqi_e, ↓nei_e, ↓qu_e, ↓re_e, ↓cv_e, ↓nt_e, ↓pk_t, ↓pk_f, ↓pk_e, ↓eqb_e, ↓neb_e, ↓nc_e, ↓ex_e, ↓lnl_e, ↓lns_e, ↓idv_e, ↓cl_e, ↓cnd_e, ↓gd_e, ↓gd_u, ↓gdu_e, ↓rt_e, ↓jn_e, ↓dr_q, ↓kp_e, ↓mnm_e, ↓mxm_e, ↓mif_e, ↓asrt_e, ↓eqs_e, ↓nes_e, Value.cells, add_lit, cell_psh_new, cell_drw, Nat.zero_add, Nat.reduceAdd, get4_0, get4_1, get4_2, get4_3, get3_0, get3_1, get3_2, get2_0, get2_1, get1_0, Option.some.injEq, exists_eq_left', decide_true, decide_false, decide_eq_true_eq, if_true, if_false, Bool.not_true, Bool.not_false, Bool.false_eq_true, Bool.true_eq_false, Bool.not_eq_true', decide_eq_false_iff_not, not_false_eq_true, not_true_eq_false, reduceCtorEq, bx_e, al_e, fa_e, ld_e, ad_e, su_e, mu_e, lt_e, le_e, gt_e, ge_e, eqi_e, nei_e, qu_e, re_e, cv_e, nt_e, pk_t, pk_f, pk_e, eqb_e, neb_e, nc_e, ex_e, lnl_e, lns_e, idv_e, cl_e, cnd_e, gd_e, gd_u, gdu_e, rt_e, jn_e, dr_q, kp_e, mnm_e, mxm_e, mif_e, asrt_e, eqs_e, nes_e, cond_true, cond_false, Bool.true_and, Bool.and_true, Bool.false_and, Bool.and_false, decide_not, Option.getD_some, pv]
    rw [pn_eq u55]
    have hq1 := hq.drw
    have hm1 : MapAt kvI (drw w) m L := hm.stay rfl
    have d1 : (drw w).cell? ⟨p, 1, none⟩ = _ := cell_of_blk (n := 1) hq.hp
    simp only [↓bx_e, ↓al_e, ↓fa_e, ↓ld_e, ↓ad_e, ↓su_e, ↓mu_e, ↓lt_e, ↓le_e, ↓gt_e, ↓ge_e, ↓eqi_e, ↓nei_e, ↓qu_e, ↓re_e, ↓cv_e, ↓nt_e, ↓pk_t, ↓pk_f, ↓pk_e, ↓eqb_e, ↓neb_e, ↓nc_e, ↓ex_e, ↓lnl_e, ↓lns_e, ↓idv_e, ↓cl_e, ↓cnd_e, ↓gd_e, ↓gd_u, ↓gdu_e, ↓rt_e, ↓jn_e, ↓dr_q, ↓kp_e, ↓mnm_e, ↓mxm_e, ↓mif_e, ↓asrt_e, ↓eqs_e, ↓nes_e, Value.cells, add_lit, cell_psh_new, cell_drw, Nat.zero_add, Nat.reduceAdd, get4_0, get4_1, get4_2, get4_3, get3_0, get3_1, get3_2, get2_0, get2_1, get1_0, Option.some.injEq, exists_eq_left', decide_true, decide_false, decide_eq_true_eq, if_true, if_false, Bool.not_true, Bool.not_false, Bool.false_eq_true, Bool.true_eq_false, Bool.not_eq_true', decide_eq_false_iff_not, not_false_eq_true, not_true_eq_false, reduceCtorEq, bx_e, al_e, fa_e, ld_e, ad_e, su_e, mu_e, lt_e, le_e, gt_e, ge_e, eqi_e, nei_e, qu_e, re_e, cv_e, nt_e, pk_t, pk_f, pk_e, eqb_e, neb_e, nc_e, ex_e, lnl_e, lns_e, idv_e, cl_e, cnd_e, gd_e, gd_u, gdu_e, rt_e, jn_e, dr_q, kp_e, mnm_e, mxm_e, mif_e, asrt_e, eqs_e, nes_e, cond_true, cond_false, Bool.true_and, Bool.and_true, Bool.false_and, Bool.and_false, decide_not, Option.isNone_some, d1]
    rw [look_v kk50 hm1 zz55, lk_l hL hm1.nodup hi]
    have t2 := cell_of_blk (n := 2) (hq1.tm i hi)
    simp only [↓bx_e, ↓al_e, ↓fa_e, ↓ld_e, ↓ad_e, ↓su_e, ↓mu_e, ↓lt_e, ↓le_e, ↓gt_e, ↓ge_e, ↓eqi_e, ↓nei_e, ↓qu_e, ↓re_e, ↓cv_e, ↓nt_e, ↓pk_t, ↓pk_f, ↓pk_e, ↓eqb_e, ↓neb_e, ↓nc_e, ↓ex_e, ↓lnl_e, ↓lns_e, ↓idv_e, ↓cl_e, ↓cnd_e, ↓gd_e, ↓gd_u, ↓gdu_e, ↓rt_e, ↓jn_e, ↓dr_q, ↓kp_e, ↓mnm_e, ↓mxm_e, ↓mif_e, ↓asrt_e, ↓eqs_e, ↓nes_e, Value.cells, add_lit, cell_psh_new, cell_drw, Nat.zero_add, Nat.reduceAdd, get4_0, get4_1, get4_2, get4_3, get3_0, get3_1, get3_2, get2_0, get2_1, get1_0, Option.some.injEq, exists_eq_left', decide_true, decide_false, decide_eq_true_eq, if_true, if_false, Bool.not_true, Bool.not_false, Bool.false_eq_true, Bool.true_eq_false, Bool.not_eq_true', decide_eq_false_iff_not, not_false_eq_true, not_true_eq_false, reduceCtorEq, bx_e, al_e, fa_e, ld_e, ad_e, su_e, mu_e, lt_e, le_e, gt_e, ge_e, eqi_e, nei_e, qu_e, re_e, cv_e, nt_e, pk_t, pk_f, pk_e, eqb_e, neb_e, nc_e, ex_e, lnl_e, lns_e, idv_e, cl_e, cnd_e, gd_e, gd_u, gdu_e, rt_e, jn_e, dr_q, kp_e, mnm_e, mxm_e, mif_e, asrt_e, eqs_e, nes_e, cond_true, cond_false, Bool.true_and, Bool.and_true, Bool.false_and, Bool.and_false, decide_not, Option.getD_some, pv, t2, tC]
    refine hrem_s (p := p) hq1 hh hi (by omega) fun w1 qv1 l2 hq2 hh2 hp2 hc2 ho2 => ?_
    have hoff := map_off hq hm
    have hm2 : MapAt kvI w1 m L := hm.stay (hc2.of_drw.block m hm.lt hoff)
    have f1 := cell_of_blk (n := 1) hq2.hp
    simp only [↓bx_e, ↓al_e, ↓fa_e, ↓ld_e, ↓ad_e, ↓su_e, ↓mu_e, ↓lt_e, ↓le_e, ↓gt_e, ↓ge_e, ↓eqi_e, ↓nei_e, ↓qu_e, ↓re_e, ↓cv_e, ↓nt_e, ↓pk_t, ↓pk_f, ↓pk_e, ↓eqb_e, ↓neb_e, ↓nc_e, ↓ex_e, ↓lnl_e, ↓lns_e, ↓idv_e, ↓cl_e, ↓cnd_e, ↓gd_e, ↓gd_u, ↓gdu_e, ↓rt_e, ↓jn_e, ↓dr_q, ↓kp_e, ↓mnm_e, ↓mxm_e, ↓mif_e, ↓asrt_e, ↓eqs_e, ↓nes_e, Value.cells, add_lit, cell_psh_new, cell_drw, Nat.zero_add, Nat.reduceAdd, get4_0, get4_1, get4_2, get4_3, get3_0, get3_1, get3_2, get2_0, get2_1, get1_0, Option.some.injEq, exists_eq_left', decide_true, decide_false, decide_eq_true_eq, if_true, if_false, Bool.not_true, Bool.not_false, Bool.false_eq_true, Bool.true_eq_false, Bool.not_eq_true', decide_eq_false_iff_not, not_false_eq_true, not_true_eq_false, reduceCtorEq, bx_e, al_e, fa_e, ld_e, ad_e, su_e, mu_e, lt_e, le_e, gt_e, ge_e, eqi_e, nei_e, qu_e, re_e, cv_e, nt_e, pk_t, pk_f, pk_e, eqb_e, neb_e, nc_e, ex_e, lnl_e, lns_e, idv_e, cl_e, cnd_e, gd_e, gd_u, gdu_e, rt_e, jn_e, dr_q, kp_e, mnm_e, mxm_e, mif_e, asrt_e, eqs_e, nes_e, cond_true, cond_false, Bool.true_and, Bool.and_true, Bool.false_and, Bool.and_false, decide_not, f1]
    refine del_map kk50 hm2 _ fun w3 hm3 hu3 => ?_
    have hoff2 := map_off hq2 hm2
    have hq3 : QR B w3 p (.map (some m)) qv1 l2 := hq2.stay fun k hk => hu3.block k (fun e => hoff2 (e ▸ hk))
    have hid : l[i].id ∈ R.map (·.2) := (kp_mem hp).1 c
    simp only [↓bx_e, ↓al_e, ↓fa_e, ↓ld_e, ↓ad_e, ↓su_e, ↓mu_e, ↓lt_e, ↓le_e, ↓gt_e, ↓ge_e, ↓eqi_e, ↓nei_e, ↓qu_e, ↓re_e, ↓cv_e, ↓nt_e, ↓pk_t, ↓pk_f, ↓pk_e, ↓eqb_e, ↓neb_e, ↓nc_e, ↓ex_e, ↓lnl_e, ↓lns_e, ↓idv_e, ↓cl_e, ↓cnd_e, ↓gd_e, ↓gd_u, ↓gdu_e, ↓rt_e, ↓jn_e, ↓dr_q, ↓kp_e, ↓mnm_e, ↓mxm_e, ↓mif_e, ↓asrt_e, ↓eqs_e, ↓nes_e, Value.cells, add_lit, cell_psh_new, cell_drw, Nat.zero_add, Nat.reduceAdd, get4_0, get4_1, get4_2, get4_3, get3_0, get3_1, get3_2, get2_0, get2_1, get1_0, Option.some.injEq, exists_eq_left', decide_true, decide_false, decide_eq_true_eq, if_true, if_false, Bool.not_true, Bool.not_false, Bool.false_eq_true, Bool.true_eq_false, Bool.not_eq_true', decide_eq_false_iff_not, not_false_eq_true, not_true_eq_false, reduceCtorEq, bx_e, al_e, fa_e, ld_e, ad_e, su_e, mu_e, lt_e, le_e, gt_e, ge_e, eqi_e, nei_e, qu_e, re_e, cv_e, nt_e, pk_t, pk_f, pk_e, eqb_e, neb_e, nc_e, ex_e, lnl_e, lns_e, idv_e, cl_e, cnd_e, gd_e, gd_u, gdu_e, rt_e, jn_e, dr_q, kp_e, mnm_e, mxm_e, mif_e, asrt_e, eqs_e, nes_e, cond_true, cond_false, Bool.true_and, Bool.and_true, Bool.false_and, Bool.and_false, decide_not]
    have hfl : ∀ k, fpQ p qv1 l2 k → fpQ p qv l k := by
      rintro k (rfl | h | h)
      · exact .inl rfl
      · rw [ho2] at h; exact .inr (.inl h)
      · exact .inr (.inr ((hp2.map (·.blk)).mem_iff.2 (List.mem_cons_of_mem _ h)))
    have := kk w3 (fun k => fpQ p qv1 l2 k ∨ k = m) ⟨m, qv1, l2, _, hq3, hh2, rm_perm hp hs hp2, rm_sorted hs _, hm3, del_perm hL (id_unique hp hs) hp2, hB, fun k => Iff.rfl⟩
      ((hc2.of_drw.mono (fun k hk => (hF k).2 (.inl hk))).trans (.of_upd (S := F) hu3 ((hF m).2 (.inr rfl))) (fun _ _ h => h)) (fun k hk => .inl ((hF k).2 (hk.imp (hfl k) id)))
    simpa [hid] using this
  · have hid : id ∉ R.map (·.2) := fun h => c ((kp_mem hp).2 h)
    rw [lk_no hL c]
    simp only [↓bx_e, ↓al_e, ↓fa_e, ↓ld_e, ↓ad_e, ↓su_e, ↓mu_e, ↓lt_e, ↓le_e, ↓gt_e, ↓ge_e, ↓eqi_e, ↓nei_e, ↓qu_e, ↓re_e, ↓cv_e, ↓nt_e, ↓pk_t, ↓pk_f, ↓pk_e, ↓eqb_e, ↓neb_e, ↓nc_e, ↓ex_e, ↓lnl_e, ↓lns_e, ↓idv_e, ↓cl_e, ↓cnd_e, ↓gd_e, ↓gd_u, ↓gdu_e, ↓rt_e, ↓jn_e, ↓dr_q, ↓kp_e, ↓mnm_e, ↓mxm_e, ↓mif_e, ↓asrt_e, ↓eqs_e, ↓nes_e, Value.cells, add_lit, cell_psh_new, cell_drw, Nat.zero_add, Nat.reduceAdd, get4_0, get4_1, get4_2, get4_3, get3_0, get3_1, get3_2, get2_0, get2_1, get1_0, Option.some.injEq, exists_eq_left', decide_true, decide_false, decide_eq_true_eq, if_true, if_false, Bool.not_true, Bool.not_false, Bool.false_eq_true, Bool.true_eq_false, Bool.not_eq_true', decide_eq_false_iff_not, not_false_eq_true, not_true_eq_false, reduceCtorEq, bx_e, al_e, fa_e, ld_e, ad_e, su_e, mu_e, lt_e, le_e, gt_e, ge_e, eqi_e, nei_e, qu_e, re_e, cv_e, nt_e, pk_t, pk_f, pk_e, eqb_e, neb_e, nc_e, ex_e, lnl_e, lns_e, idv_e, cl_e, cnd_e, gd_e, gd_u, gdu_e, rt_e, jn_e, dr_q, kp_e, mnm_e, mxm_e, mif_e, asrt_e, eqs_e, nes_e, cond_true, cond_false, Bool.true_and, Bool.and_true, Bool.false_and, Bool.and_false, decide_not, Option.getD_none]
    rw [pn_eq u55]
    simp only [↓bx_e, ↓al_e, ↓fa_e, ↓ld_e, ↓ad_e, ↓su_e, ↓mu_e, ↓lt_e, ↓le_e, ↓gt_e, ↓ge_e, ↓eqi_e, ↓nei_e, ↓qu_e, ↓re_e, ↓cv_e, ↓nt_e, ↓pk_t, ↓pk_f, ↓pk_e, ↓eqb_e, ↓neb_e, ↓nc_e, ↓ex_e, ↓lnl_e, ↓lns_e, ↓idv_e, ↓cl_e, ↓cnd_e, ↓gd_e, ↓gd_u, ↓gdu_e, ↓rt_e, ↓jn_e, ↓dr_q, ↓kp_e, ↓mnm_e, ↓mxm_e, ↓mif_e, ↓asrt_e, ↓eqs_e, ↓nes_e, Value.cells, add_lit, cell_psh_new, cell_drw, Nat.zero_add, Nat.reduceAdd, get4_0, get4_1, get4_2, get4_3, get3_0, get3_1, get3_2, get2_0, get2_1, get1_0, Option.some.injEq, exists_eq_left', decide_true, decide_false, decide_eq_true_eq, if_true, if_false, Bool.not_true, Bool.not_false, Bool.false_eq_true, Bool.true_eq_false, Bool.not_eq_true', decide_eq_false_iff_not, not_false_eq_true, not_true_eq_false, reduceCtorEq, bx_e, al_e, fa_e, ld_e, ad_e, su_e, mu_e, lt_e, le_e, gt_e, ge_e, eqi_e, nei_e, qu_e, re_e, cv_e, nt_e, pk_t, pk_f, pk_e, eqb_e, neb_e, nc_e, ex_e, lnl_e, lns_e, idv_e, cl_e, cnd_e, gd_e, gd_u, gdu_e, rt_e, jn_e, dr_q, kp_e, mnm_e, mxm_e, mif_e, asrt_e, eqs_e, nes_e, cond_true, cond_false, Bool.true_and, Bool.and_true, Bool.false_and, Bool.and_false, decide_not, Option.isNone_none]
    have hrm : rm R id = R := List.filter_eq_self.2 (fun y hy => by simpa using fun e : y.2 = id => hid (List.mem_map.2 ⟨y, hy, e⟩))
    have := kk w F (by rw [hrm]; exact ht0) (ChgS.refl _ _) (fun k hk => .inl hk)
    rw [decide_eq_false hid] at this
    exact this
/-! what is due -/
def dueL (R : List Pr) (now : Int) : List Int := (R.takeWhile (fun x => decide (x.1 ≤ now))).map (·.2)
def restL (R : List Pr) (now : Int) : List Pr := R.dropWhile (fun x => decide (x.1 ≤ now))
theorem ownI_off {e : TypeId} {k : IntKind} {v : Value} {xs : List Int} {B0 : Nat} (ho : ownI B0 e k w v xs) (ht : TS B w p R F) (he : e ≠ 54 ∧ e ≠ 55 ∧ e ≠ 58) : ∀ g, v.ownBlock = some g → ¬ F g := by
  intro g hg hF
  obtain ⟨o, h1, h2⟩ := ht.kind g hF
  obtain ⟨_, h3⟩ := ho
  rcases h3 with ⟨rfl, _⟩ | ⟨g', cap, cur, rfl, _, hb, _⟩
  · cases hg
  · cases hg
    rw [hb] at h1
    cases h1
    rcases h2 with h | h | h
    · exact he.1 h
    · exact he.2.1 h
    · exact he.2.2 h
theorem ownI_chgS {e : TypeId} {k : IntKind} {v : Value} {xs : List Int} {B0 : Nat} {w' : World} {S : Nat → Prop} (ho : ownI B0 e k w v xs) (hc : ChgS S w w') (hd : ∀ g, v.ownBlock = some g → ¬ S g) : ownI B0 e k w' v xs := by
  obtain ⟨h1, h2⟩ := ho
  refine ⟨h1, ?_⟩
  rcases h2 with h2 | ⟨g, cap, cur, rfl, hg, hb, rest⟩
  · exact .inl h2
  · exact .inr ⟨g, cap, cur, rfl, hg, hc.keep hb (hd g rfl), rest⟩
theorem due_loop (j1 : Value → M) {now : Int} {w0 : World} (hB0 : B ≤ w0.heap.size) : ∀ (n m : Nat) (R : List Pr) (F : Nat → Prop) (w : World) (v : Value) (xs : List Int), R.length = n → n < m → R.length + xs.length ≤ 999999 → TS B w p R F → ownI w0.heap.size 3 .i64 w v xs → w0.heap.size ≤ w.heap.size →
    (∀ w' F' v', TS B w' p (restL R now) F' → ChgS (fun k => F k ∨ w0.heap.size ≤ k) w w' → (∀ k, F' k → F k) → ownI w0.heap.size 3 .i64 w' v' (xs ++ dueL R now) → j1 v' w' Q) →
    itr (fun _ _ _ => bot) (f12_b2 j1) m (pv p) (.int .i64 now) v w Q := by
  intro n
  induction n with
  | zero =>
    intro m R F w v xs hn hm hR ht ho hw0 kk
    obtain ⟨m, rfl⟩ : ∃ x, m = x + 1 := ⟨m - 1, by omega⟩
    show f12_b2 j1 _ _ _ _ w Q
    have : R = [] := List.length_eq_zero_iff.1 hn
    subst this
    unfold f12_b2
    rw [cl_e]
    refine tlen_s ht ?_
    simp only [↓bx_e, ↓al_e, ↓fa_e, ↓ld_e, ↓ad_e, ↓su_e, ↓mu_e, ↓lt_e, ↓le_e, ↓gt_e, ↓ge_e, ↓eqi_e, ↓nei_e, ↓qu_e, ↓re_e, ↓cv_e, ↓nt_e, ↓pk_t, ↓pk_f, ↓pk_e, ↓eqb_e, ↓neb_e, ↓nc_e, ↓ex_e, ↓lnl_e, ↓lns_e, ↓idv_e, ↓cl_e, ↓cnd_e, ↓gd_e, ↓gd_u, ↓gdu_e, ↓rt_e, ↓jn_e, ↓dr_q, ↓kp_e, ↓mnm_e, ↓mxm_e, ↓mif_e, ↓asrt_e, ↓eqs_e, ↓nes_e, Value.cells, add_lit, cell_psh_new, cell_drw, Nat.zero_add, Nat.reduceAdd, get4_0, get4_1, get4_2, get4_3, get3_0, get3_1, get3_2, get2_0, get2_1, get1_0, Option.some.injEq, exists_eq_left', decide_true, decide_false, decide_eq_true_eq, if_true, if_false, Bool.not_true, Bool.not_false, Bool.false_eq_true, Bool.true_eq_false, Bool.not_eq_true', decide_eq_false_iff_not, not_false_eq_true, not_true_eq_false, reduceCtorEq, bx_e, al_e, fa_e, ld_e, ad_e, su_e, mu_e, lt_e, le_e, gt_e, ge_e, eqi_e, nei_e, qu_e, re_e, cv_e, nt_e, pk_t, pk_f, pk_e, eqb_e, neb_e, nc_e, ex_e, lnl_e, lns_e, idv_e, cl_e, cnd_e, gd_e, gd_u, gdu_e, rt_e, jn_e, dr_q, kp_e, mnm_e, mxm_e, mif_e, asrt_e, eqs_e, nes_e, cond_true, cond_false, Bool.true_and, Bool.and_true, Bool.false_and, Bool.and_false, decide_not, List.length_nil, Int.natCast_zero, show ¬ (0 : Int) < 0 from by decide]
    exact kk w F v ht (ChgS.refl _ _) (fun _ h => h) (by simpa [dueL] using ho)
  | succ n ih =>
    intro m R F w v xs hn hm hR ht ho hw0 kk
    obtain ⟨m, rfl⟩ : ∃ x, m = x + 1 := ⟨m - 1, by omega⟩
    show f12_b2 j1 _ _ _ _ w Q
    unfold f12_b2
    rw [cl_e]
    refine tlen_s ht ?_
    have ht0 := ht
    obtain ⟨mm, qv, l, L, hq, hh, hp, hs, hmp, hL, hB, hF⟩ := ht.ex
    have hlen : l.length = R.length := by have := hp.length_eq; simpa using this
    have h0 : 0 < l.length := by omega
    obtain ⟨R', hR'⟩ := head_is hh hp hs h0
    obtain ⟨g, cap, hqv, hob, hgB, ⟨cur, hcur⟩, hcell⟩ := hq.slice h0
    have c0 := cell_of_blk (n := 0) hq.hp
    have t1 : w.cell? ⟨l[0].blk, 1, none⟩ = some (.int .i64 l[0].till) := cell_of_blk (n := 1) (hq.tm 0 h0)
    have i0 : ∀ {K : Value → M} {w Q}, ia 1 qv (.int .i64 0) K w Q = K (.pointer (some ⟨g, 0, none⟩)) w Q := fun {K w Q} => by rw [hqv]; exact ia_at (i := 0) h0
    have cR : (0 : Int) < ((R.length : Nat) : Int) := by omega
    simp only [↓bx_e, ↓al_e, ↓fa_e, ↓ld_e, ↓ad_e, ↓su_e, ↓mu_e, ↓lt_e, ↓le_e, ↓gt_e, ↓ge_e, ↓eqi_e, ↓nei_e, ↓qu_e, ↓re_e, ↓cv_e, ↓nt_e, ↓pk_t, ↓pk_f, ↓pk_e, ↓eqb_e, ↓neb_e, ↓nc_e, ↓ex_e, ↓lnl_e, ↓lns_e, ↓idv_e, ↓cl_e, ↓cnd_e, ↓gd_e, ↓gd_u, ↓gdu_e, ↓rt_e, ↓jn_e, ↓dr_q, ↓kp_e, ↓mnm_e, ↓mxm_e, ↓mif_e, ↓asrt_e, ↓eqs_e, ↓nes_e, Value.cells, add_lit, cell_psh_new, cell_drw, Nat.zero_add, Nat.reduceAdd, get4_0, get4_1, get4_2, get4_3, get3_0, get3_1, get3_2, get2_0, get2_1, get1_0, Option.some.injEq, exists_eq_left', decide_true, decide_false, decide_eq_true_eq, if_true, if_false, Bool.not_true, Bool.not_false, Bool.false_eq_true, Bool.true_eq_false, Bool.not_eq_true', decide_eq_false_iff_not, not_false_eq_true, not_true_eq_false, reduceCtorEq, bx_e, al_e, fa_e, ld_e, ad_e, su_e, mu_e, lt_e, le_e, gt_e, ge_e, eqi_e, nei_e, qu_e, re_e, cv_e, nt_e, pk_t, pk_f, pk_e, eqb_e, neb_e, nc_e, ex_e, lnl_e, lns_e, idv_e, cl_e, cnd_e, gd_e, gd_u, gdu_e, rt_e, jn_e, dr_q, kp_e, mnm_e, mxm_e, mif_e, asrt_e, eqs_e, nes_e, cond_true, cond_false, Bool.true_and, Bool.and_true, Bool.false_and, Bool.and_false, decide_not, cR, pv, c0, i0, hcell 0 h0, t1]
    by_cases c : l[0].till ≤ now
    · simp only [↓bx_e, ↓al_e, ↓fa_e, ↓ld_e, ↓ad_e, ↓su_e, ↓mu_e, ↓lt_e, ↓le_e, ↓gt_e, ↓ge_e, ↓eqi_e, ↓nei_e, ↓qu_e, ↓re_e, ↓cv_e, ↓nt_e, ↓pk_t, ↓pk_f, ↓pk_e, ↓eqb_e, ↓neb_e, ↓nc_e, ↓ex_e, ↓lnl_e, ↓lns_e, ↓idv_e, ↓cl_e, ↓cnd_e, ↓gd_e, ↓gd_u, ↓gdu_e, ↓rt_e, ↓jn_e, ↓dr_q, ↓kp_e, ↓mnm_e, ↓mxm_e, ↓mif_e, ↓asrt_e, ↓eqs_e, ↓nes_e, Value.cells, add_lit, cell_psh_new, cell_drw, Nat.zero_add, Nat.reduceAdd, get4_0, get4_1, get4_2, get4_3, get3_0, get3_1, get3_2, get2_0, get2_1, get1_0, Option.some.injEq, exists_eq_left', decide_true, decide_false, decide_eq_true_eq, if_true, if_false, Bool.not_true, Bool.not_false, Bool.false_eq_true, Bool.true_eq_false, Bool.not_eq_true', decide_eq_false_iff_not, not_false_eq_true, not_true_eq_false, reduceCtorEq, bx_e, al_e, fa_e, ld_e, ad_e, su_e, mu_e, lt_e, le_e, gt_e, ge_e, eqi_e, nei_e, qu_e, re_e, cv_e, nt_e, pk_t, pk_f, pk_e, eqb_e, neb_e, nc_e, ex_e, lnl_e, lns_e, idv_e, cl_e, cnd_e, gd_e, gd_u, gdu_e, rt_e, jn_e, dr_q, kp_e, mnm_e, mxm_e, mif_e, asrt_e, eqs_e, nes_e, cond_true, cond_false, Bool.true_and, Bool.and_true, Bool.false_and, Bool.and_false, decide_not, c]
      refine hpop2_s (p := p) hq hh h0 (by omega) fun w1 qv1 l2 hq1 hh1 hp1 hc1 ho1 hx => ?_
      obtain ⟨x, hx⟩ := hx
      have hoff := map_off hq hmp
      have hm1 : MapAt kvI w1 mm L := hmp.stay (hc1.block mm hmp.lt hoff)
      have hq1' := hq1.drw
      have hm1' : MapAt kvI (drw w1) mm L := hm1.stay rfl
      have d1 : (drw w1).cell? ⟨p, 1, none⟩ = _ := cell_of_blk (n := 1) hq1.hp
      have dx : (drw w1).cell? ⟨l[0].blk, 0, none⟩ = _ := cell_of_blk (n := 0) hx
      have hx' : (drw w1).heap[l[0].blk]? = _ := hx
      have hc1' : ChgS (fpQ p qv l) w (drw w1) := hc1.drw
      simp only [↓bx_e, ↓al_e, ↓fa_e, ↓ld_e, ↓ad_e, ↓su_e, ↓mu_e, ↓lt_e, ↓le_e, ↓gt_e, ↓ge_e, ↓eqi_e, ↓nei_e, ↓qu_e, ↓re_e, ↓cv_e, ↓nt_e, ↓pk_t, ↓pk_f, ↓pk_e, ↓eqb_e, ↓neb_e, ↓nc_e, ↓ex_e, ↓lnl_e, ↓lns_e, ↓idv_e, ↓cl_e, ↓cnd_e, ↓gd_e, ↓gd_u, ↓gdu_e, ↓rt_e, ↓jn_e, ↓dr_q, ↓kp_e, ↓mnm_e, ↓mxm_e, ↓mif_e, ↓asrt_e, ↓eqs_e, ↓nes_e, Value.cells, add_lit, cell_psh_new, cell_drw, Nat.zero_add, Nat.reduceAdd, get4_0, get4_1, get4_2, get4_3, get3_0, get3_1, get3_2, get2_0, get2_1, get1_0, Option.some.injEq, exists_eq_left', decide_true, decide_false, decide_eq_true_eq, if_true, if_false, Bool.not_true, Bool.not_false, Bool.false_eq_true, Bool.true_eq_false, Bool.not_eq_true', decide_eq_false_iff_not, not_false_eq_true, not_true_eq_false, reduceCtorEq, bx_e, al_e, fa_e, ld_e, ad_e, su_e, mu_e, lt_e, le_e, gt_e, ge_e, eqi_e, nei_e, qu_e, re_e, cv_e, nt_e, pk_t, pk_f, pk_e, eqb_e, neb_e, nc_e, ex_e, lnl_e, lns_e, idv_e, cl_e, cnd_e, gd_e, gd_u, gdu_e, rt_e, jn_e, dr_q, kp_e, mnm_e, mxm_e, mif_e, asrt_e, eqs_e, nes_e, cond_true, cond_false, Bool.true_and, Bool.and_true, Bool.false_and, Bool.and_false, decide_not, pv, d1, dx, tC]
      generalize drw w1 = w2 at *
      refine del_map kk50 hm1' _ fun w3 hm3 hu3 => ?_
      have hoff2 := map_off hq1' hm1'
      have hq3 : QR B w3 p (.map (some mm)) qv1 l2 := hq1'.stay fun k hk => hu3.block k (fun e => hoff2 (e ▸ hk))
      have hx3 : w3.heap[l[0].blk]? = _ := (hu3.block _ (by intro e; obtain ⟨es, ck, hmb, _⟩ := hm1'; rw [← e, hx'] at hmb; cases hmb)).trans hx'
      have hfl : ∀ k, fpQ p qv1 l2 k → fpQ p qv l k := by
        rintro k (rfl | h | h)
        · exact .inl rfl
        · rw [ho1] at h; exact .inr (.inl h)
        · exact .inr (.inr ((hp1.map (·.blk)).mem_iff.2 (List.mem_cons_of_mem _ h)))
      have hRR : rm R l[0].id = R' := by
        rw [hR']
        have hs2 := hs.2
        rw [hR', List.map_cons, List.nodup_cons] at hs2
        unfold rm
        rw [List.filter_cons]
        simp only [kp, ne_eq, not_true_eq_false, decide_false, Bool.false_eq_true, if_false]
        rw [List.filter_eq_self.2]
        intro y hy
        have : y.2 ≠ l[0].id := fun e => hs2.1 (by rw [show (kp l[0]).2 = y.2 from e.symm]; exact List.mem_map.2 ⟨y, hy, rfl⟩)
        simpa using this
      have hts : TS B w3 p R' (fun k => fpQ p qv1 l2 k ∨ k = mm) := by
        refine ⟨mm, qv1, l2, _, hq3, hh1, ?_, ?_, hm3, del_perm hL (id_unique hp hs) hp1, hB, fun k => Iff.rfl⟩
        · rw [← hRR]; exact rm_perm hp hs hp1
        · rw [← hRR]; exact rm_sorted hs _
      have hc3 : ChgS F w w3 := (hc1'.mono (fun k hk => (hF k).2 (.inl hk))).trans (.of_upd (S := F) hu3 ((hF mm).2 (.inr rfl))) (fun _ _ h => h)
      have ho3 := ownI_chgS ho hc3 (ownI_off ho ht0 (by decide))
      have f0 := cell_of_blk (n := 0) hx3
      have hw3 : w0.heap.size ≤ w3.heap.size := Nat.le_trans hw0 hc3.size
      simp only [↓bx_e, ↓al_e, ↓fa_e, ↓ld_e, ↓ad_e, ↓su_e, ↓mu_e, ↓lt_e, ↓le_e, ↓gt_e, ↓ge_e, ↓eqi_e, ↓nei_e, ↓qu_e, ↓re_e, ↓cv_e, ↓nt_e, ↓pk_t, ↓pk_f, ↓pk_e, ↓eqb_e, ↓neb_e, ↓nc_e, ↓ex_e, ↓lnl_e, ↓lns_e, ↓idv_e, ↓cl_e, ↓cnd_e, ↓gd_e, ↓gd_u, ↓gdu_e, ↓rt_e, ↓jn_e, ↓dr_q, ↓kp_e, ↓mnm_e, ↓mxm_e, ↓mif_e, ↓asrt_e, ↓eqs_e, ↓nes_e, Value.cells, add_lit, cell_psh_new, cell_drw, Nat.zero_add, Nat.reduceAdd, get4_0, get4_1, get4_2, get4_3, get3_0, get3_1, get3_2, get2_0, get2_1, get1_0, Option.some.injEq, exists_eq_left', decide_true, decide_false, decide_eq_true_eq, if_true, if_false, Bool.not_true, Bool.not_false, Bool.false_eq_true, Bool.true_eq_false, Bool.not_eq_true', decide_eq_false_iff_not, not_false_eq_true, not_true_eq_false, reduceCtorEq, bx_e, al_e, fa_e, ld_e, ad_e, su_e, mu_e, lt_e, le_e, gt_e, ge_e, eqi_e, nei_e, qu_e, re_e, cv_e, nt_e, pk_t, pk_f, pk_e, eqb_e, neb_e, nc_e, ex_e, lnl_e, lns_e, idv_e, cl_e, cnd_e, gd_e, gd_u, gdu_e, rt_e, jn_e, dr_q, kp_e, mnm_e, mxm_e, mif_e, asrt_e, eqs_e, nes_e, cond_true, cond_false, Bool.true_and, Bool.and_true, Bool.false_and, Bool.and_false, decide_not, f0, tC]
      refine bsl1 slt32 rfl rfl ?_
      have ho4 := ownI_psh ho3 (.cells #[.int .i64 l[0].id] 3)
      have hb4 := b_psh w3 (.cells #[.int .i64 l[0].id] 3)
      have hts4 := hts.below hb4
      refine ap_rd (b := 8) (m := [l[0].id]) slt32 ho4 (.inr ⟨⟨w3.heap.size, 0, none⟩, 1, rfl, fun i hi => ?_⟩) (by simp; omega) (by simp; omega) (by rw [size_psh]; omega) ?_
      · have : i = 0 := by simpa using hi
        subst this
        rw [add_lit, cell_psh_new]; rfl
      · intro v' w5 ho5 hg5
        have hc5 : ChgS (fun k => v.ownBlock = some k) (psh w3 (.cells #[.int .i64 l[0].id] 3)) w5 := ChgS.grown hg5 (fun k hk => hk)
        have hts5 := hts4.chg hc5 (fun k hk hv => ownI_off ho4 hts4 (by decide) k hv hk)
        have hlt := blk_lt hq.hp
        have hbp := hq.bp
        have hsz5 := hc5.size
        rw [size_psh] at hsz5
        rw [hR'] at hn hR
        simp only [List.length_cons] at hn hR
        refine ih m R' _ w5 v' (xs ++ [l[0].id]) (by omega) (by omega) (by rw [List.length_append]; simp only [List.length_cons, List.length_nil]; omega) hts5 ho5 (by omega) ?_
        intro w' F' v'' k1 k2 k3 k4
        have e1 : dueL R now = l[0].id :: dueL R' now := by rw [hR']; simp [dueL, kp, c]
        have e2 : restL R now = restL R' now := by rw [hR']; simp [restL, kp, c]
        refine kk w' F' v'' (by rw [e2]; exact k1) ?_ (fun k hk => (hF k).2 ((k3 k hk).imp (hfl k) id)) (by rw [e1]; simpa using k4)
        have hown5 : ∀ k, v.ownBlock = some k → w0.heap.size ≤ k := by
          intro k hk
          obtain ⟨_, h3⟩ := ho
          rcases h3 with ⟨rfl, _⟩ | ⟨g', cap, cur, rfl, hg', _⟩
          · cases hk
          · cases hk; exact hg'
        have s1 : ChgS (fun k => F k ∨ w0.heap.size ≤ k) w w3 := hc3.mono (fun k h => .inl h)
        have s2 : ChgS (fun k => F k ∨ w0.heap.size ≤ k) w3 (psh w3 (.cells #[.int .i64 l[0].id] 3)) := .of_below hb4
        have s3 := (s1.trans s2 (fun _ _ h => h)).trans hc5 (fun k _ hk => .inr (hown5 k hk))
        exact s3.trans k2 (fun k _ hk => hk.imp (fun h => (hF k).2 (h.imp (hfl k) id)) id)
    · simp only [↓bx_e, ↓al_e, ↓fa_e, ↓ld_e, ↓ad_e, ↓su_e, ↓mu_e, ↓lt_e, ↓le_e, ↓gt_e, ↓ge_e, ↓eqi_e, ↓nei_e, ↓qu_e, ↓re_e, ↓cv_e, ↓nt_e, ↓pk_t, ↓pk_f, ↓pk_e, ↓eqb_e, ↓neb_e, ↓nc_e, ↓ex_e, ↓lnl_e, ↓lns_e, ↓idv_e, ↓cl_e, ↓cnd_e, ↓gd_e, ↓gd_u, ↓gdu_e, ↓rt_e, ↓jn_e, ↓dr_q, ↓kp_e, ↓mnm_e, ↓mxm_e, ↓mif_e, ↓asrt_e, ↓eqs_e, ↓nes_e, Value.cells, add_lit, cell_psh_new, cell_drw, Nat.zero_add, Nat.reduceAdd, get4_0, get4_1, get4_2, get4_3, get3_0, get3_1, get3_2, get2_0, get2_1, get1_0, Option.some.injEq, exists_eq_left', decide_true, decide_false, decide_eq_true_eq, if_true, if_false, Bool.not_true, Bool.not_false, Bool.false_eq_true, Bool.true_eq_false, Bool.not_eq_true', decide_eq_false_iff_not, not_false_eq_true, not_true_eq_false, reduceCtorEq, bx_e, al_e, fa_e, ld_e, ad_e, su_e, mu_e, lt_e, le_e, gt_e, ge_e, eqi_e, nei_e, qu_e, re_e, cv_e, nt_e, pk_t, pk_f, pk_e, eqb_e, neb_e, nc_e, ex_e, lnl_e, lns_e, idv_e, cl_e, cnd_e, gd_e, gd_u, gdu_e, rt_e, jn_e, dr_q, kp_e, mnm_e, mxm_e, mif_e, asrt_e, eqs_e, nes_e, cond_true, cond_false, Bool.true_and, Bool.and_true, Bool.false_and, Bool.and_false, decide_not, c]
      have e1 : dueL R now = [] := by rw [hR']; simp [dueL, kp, c]
      have e2 : restL R now = R := by rw [hR']; simp [restL, kp, c]
      refine kk w F v (by rw [e2]; exact ht0) (ChgS.refl _ _) (fun _ h => h) (by rw [e1, List.append_nil]; exact ho)
theorem due_s (ht : TS B w p R F) (now : Int) (hR : R.length ≤ 999999) (hB : B ≤ w.heap.size)
    (kk : ∀ w' F' v', TS B w' p (restL R now) F' → ChgS F w w' → (∀ k, F' k → F k) → ownI w.heap.size 3 .i64 w' v' (dueL R now) → Q v' w') : f12 (pv p) (.int .i64 now) w Q := by
  unfold f12
  rw [jn_e]
  refine ⟨_, due_loop _ hB R.length _ R F w _ [] rfl (Nat.lt_succ_self _) (by simpa using hR) ht ownI_nil (Nat.le_refl _) ?_⟩
  intro w' F' v' h1 h2 h3 h4
  unfold f12_j1
  rw [rt_e]
  exact kk w' F' v' h1 (h2.mono' (fun k hk h => h.elim id (fun h => by omega))) h3 (by simpa using h4)
theorem due_nil (now : Int) (h : Q (.slice none 0 0) w) : f12 (.pointer none) (.int .i64 now) w Q := by
  unfold f12
  rw [jn_e]
  refine ⟨1, ?_⟩
  show f12_b2 f12_j1 _ _ _ _ w Q
  unfold f12_b2
  rw [cl_e]
  refine len_nil ?_
  simp only [↓bx_e, ↓al_e, ↓fa_e, ↓ld_e, ↓ad_e, ↓su_e, ↓mu_e, ↓lt_e, ↓le_e, ↓gt_e, ↓ge_e, ↓eqi_e, ↓nei_e, ↓qu_e, ↓re_e, ↓cv_e, ↓nt_e, ↓pk_t, ↓pk_f, ↓pk_e, ↓eqb_e, ↓neb_e, ↓nc_e, ↓ex_e, ↓lnl_e, ↓lns_e, ↓idv_e, ↓cl_e, ↓cnd_e, ↓gd_e, ↓gd_u, ↓gdu_e, ↓rt_e, ↓jn_e, ↓dr_q, ↓kp_e, ↓mnm_e, ↓mxm_e, ↓mif_e, ↓asrt_e, ↓eqs_e, ↓nes_e, Value.cells, add_lit, cell_psh_new, cell_drw, Nat.zero_add, Nat.reduceAdd, get4_0, get4_1, get4_2, get4_3, get3_0, get3_1, get3_2, get2_0, get2_1, get1_0, Option.some.injEq, exists_eq_left', decide_true, decide_false, decide_eq_true_eq, if_true, if_false, Bool.not_true, Bool.not_false, Bool.false_eq_true, Bool.true_eq_false, Bool.not_eq_true', decide_eq_false_iff_not, not_false_eq_true, not_true_eq_false, reduceCtorEq, bx_e, al_e, fa_e, ld_e, ad_e, su_e, mu_e, lt_e, le_e, gt_e, ge_e, eqi_e, nei_e, qu_e, re_e, cv_e, nt_e, pk_t, pk_f, pk_e, eqb_e, neb_e, nc_e, ex_e, lnl_e, lns_e, idv_e, cl_e, cnd_e, gd_e, gd_u, gdu_e, rt_e, jn_e, dr_q, kp_e, mnm_e, mxm_e, mif_e, asrt_e, eqs_e, nes_e, cond_true, cond_false, Bool.true_and, Bool.and_true, Bool.false_and, Bool.and_false, decide_not, show ¬ (0 : Int) < 0 from by decide]
  unfold f12_j1
  rw [rt_e]
  exact h
end
end Go.Proofs.Ytpjffilejnemmaa
