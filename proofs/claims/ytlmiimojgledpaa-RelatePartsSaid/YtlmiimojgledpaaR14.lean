/- RelateParts. -/
import Derived.Test.YtlmiimojgledpaaR13
set_option maxRecDepth 20000
set_option linter.unusedVariables false
set_option linter.unusedSimpArgs false
set_option linter.unusedSectionVars false
namespace Go.Proofs.Ytlmiimojgledpaa
open Sh RowKit Go.MapKept
theorem filt_at {α : Type} {p : α → Bool} {l : List α} {n : Nat} (hn : n < l.length) (hp : p l[n] = true) : ∃ h : ((l.take n).filter p).length < (l.filter p).length, (l.filter p)[((l.take n).filter p).length] = l[n] := by
  have e : l.filter p = (l.take n).filter p ++ (l[n] :: (l.drop (n + 1)).filter p) := by
    have e0 : l = l.take n ++ l[n] :: l.drop (n + 1) := by rw [List.getElem_cons_drop, List.take_append_drop]
    conv => lhs; rw [e0]
    rw [List.filter_append, List.filter_cons, if_pos hp]
  have hlt : ((l.take n).filter p).length < (l.filter p).length := by rw [e, List.length_append, List.length_cons]; omega
  refine ⟨hlt, ?_⟩
  have h1 : (l.filter p)[((l.take n).filter p).length]? = some l[n] := by
    rw [e, List.getElem?_append_right (Nat.le_refl _), Nat.sub_self]; rfl
  rw [List.getElem?_eq_getElem hlt] at h1
  exact Option.some.inj h1
theorem filt_len {α : Type} {p : α → Bool} {l : List α} {n : Nat} (hn : n < l.length) : ((l.take (n + 1)).filter p).length = ((l.take n).filter p).length + (if p l[n] = true then 1 else 0) := by
  rw [List.take_succ_eq_append_getElem hn, List.filter_append, List.length_append, List.filter_cons, List.filter_nil]
  split <;> rfl
theorem filt_two {α : Type} {p : α → Bool} : ∀ l : List α, (l.filter p).length + (l.filter (fun x => !p x)).length = l.length
  | [] => rfl
  | x :: l => by
    have := filt_two (p := p) l
    rw [List.filter_cons, List.filter_cons, List.length_cons]
    cases p x <;> simp <;> omega
def bel (v : Val) (c : Nat) (r : Row) : Bool := decide (cmpV (colV c r) v < 0)
theorem whB_lo (v : Val) (c : Nat) : whB [] [v] c = bel v c := by
  funext r; unfold whB bel; rw [loB_nil, hiB_cons, Bool.true_and]
theorem whB_hi (v : Val) (c : Nat) : whB [v] [] c = fun r => !bel v c r := by
  funext r; unfold whB bel; rw [loB_cons, hiB_nil, Bool.and_true]
  by_cases h : cmpV (colV c r) v < 0
  · rw [decide_eq_true h, decide_eq_false (by omega)]; rfl
  · rw [decide_eq_false h, decide_eq_true (by omega)]; rfl
theorem left_self (l : List Row) : l.filter (left l) = [] := by
  rw [List.filter_eq_nil_iff]
  intro r hr h
  unfold left at h
  have : (l.any fun s => decide (r = s)) = true := List.any_eq_true.2 ⟨r, hr, by simp⟩
  rw [this] at h; cases h
theorem once_has : ∀ (l out : List Row) (r : Row), r ∈ out ∨ r ∈ l → r ∈ once out l
  | [], out, r, h => by simpa [once] using h
  | x :: l, out, r, h => by
    unfold once
    by_cases c : (out.any fun s => decide (x = s)) = true
    · rw [if_pos c]
      refine once_has l out r ?_
      rcases h with h | h
      · exact .inl h
      · rcases List.mem_cons.1 h with rfl | h
        · left
          obtain ⟨s, hs, e⟩ := List.any_eq_true.1 c
          rw [of_decide_eq_true e]; exact hs
        · exact .inr h
    · rw [if_neg c]
      refine once_has l _ r ?_
      rcases h with h | h
      · exact .inl (List.mem_append.2 (.inl h))
      · rcases List.mem_cons.1 h with rfl | h
        · exact .inl (List.mem_append.2 (.inr (by simp)))
        · exact .inr h
theorem left_once (l : List Row) : l.filter (left (once [] l)) = [] := by
  rw [List.filter_eq_nil_iff]
  intro r hr h
  unfold left at h
  have : ((once [] l).any fun s => decide (r = s)) = true := List.any_eq_true.2 ⟨r, once_has l [] r (.inr hr), by simp⟩
  rw [this] at h; cases h
theorem once_nodup : ∀ (l out : List Row), out.Nodup → (once out l).Nodup
  | [], out, h => by simpa [once] using h
  | x :: l, out, h => by
    unfold once
    by_cases c : (out.any fun s => decide (x = s)) = true
    · rw [if_pos c]; exact once_nodup l out h
    · rw [if_neg c]
      refine once_nodup l _ ?_
      rw [List.nodup_append]
      refine ⟨h, by simp, fun a ha b hb e => ?_⟩
      rw [List.mem_singleton] at hb
      subst hb; subst e
      exact c (List.any_eq_true.2 ⟨_, ha, by simp⟩)
theorem once_of_nodup : ∀ (l out : List Row), (out ++ l).Nodup → once out l = out ++ l
  | [], out, h => by simp [once]
  | x :: l, out, h => by
    unfold once
    have c : ¬ (out.any fun s => decide (x = s)) = true := by
      intro c
      obtain ⟨s, hs, e⟩ := List.any_eq_true.1 c
      have e := of_decide_eq_true e
      subst e
      rw [List.nodup_append] at h
      exact h.2.2 _ hs _ (by simp) rfl
    rw [if_neg c, once_of_nodup l _ (by simpa using h), List.append_assoc]; rfl
theorem once_once (l : List Row) : once [] (once [] l) = once [] l := by
  rw [once_of_nodup _ [] (by simpa using once_nodup l [] List.nodup_nil)]; rfl
section
variable {W w w' : World} {Q : Value → World → Prop}
theorem gdB_ff : gdB (.bool false) true = false := rfl
/-- a step's end -/
theorem f5_j3s {V : World} {vl va vb : Value} {l : List Row} {v : Val} {c g : Value} {cn : Nat} (hl : rdL V vl l) (ha : rdL V va (l.filter (bel v cn))) (hb : rdL V vb (l.filter (fun r => !bel v cn r))) (hll : l.length ≤ 100000) (hsz : ∀ r ∈ l, r.length ≤ 9223372036854775806)
    {n : Nat} (hn : n < l.length) {self2 : Value → Value → Value → Value → Value → Value → Value → Value → M} (hbw : Below V.heap.size V w)
    (kk : ∀ w', Below V.heap.size V w' → self2 vl c g va vb (.int .i64 (((l.take (n + 1)).filter (bel v cn)).length : Nat)) (.int .i64 (((l.take (n + 1)).filter (fun r => !bel v cn r)).length : Nat)) (.int .i64 ((n + 1 : Nat) : Int)) w' Q) :
    f5_j3 self2 vl c g va vb (.int .i64 (((l.take n).filter (bel v cn)).length : Nat)) (.int .i64 (((l.take n).filter (fun r => !bel v cn r)).length : Nat)) (.int .i64 (n : Int)) (.bool (bel v cn l[n])) w Q := by
  unfold f5_j3
  have hbd : Below V.heap.size V (drw w) := hbw.trans ⟨rfl, rfl, rfl, Nat.le_refl _, fun _ _ => rfl⟩
  obtain ⟨adl, rl, hrl, hcl, hil⟩ := row_at hl hn
  have qc := hcl _ hbd
  have h3 : IntKind.i64.wrap ((n : Int) + 1) = ((n + 1 : Nat) : Int) := by rw [w64 (by omega) (by omega)]; rfl
  have f1 : ((l.take n).filter (bel v cn)).length ≤ n := Nat.le_trans (List.length_filter_le _ _) (by rw [List.length_take]; omega)
  have f2 : ((l.take n).filter (fun r => !bel v cn r)).length ≤ n := Nat.le_trans (List.length_filter_le _ _) (by rw [List.length_take]; omega)
  have l1 := filt_len (p := bel v cn) hn
  have l2 := filt_len (p := fun r => !bel v cn r) hn
  cases hc : bel v cn l[n] with
  | true =>
    rw [hc] at l1 l2
    simp only [if_true, Bool.not_true, Bool.false_eq_true, if_false, Nat.add_zero] at l1 l2
    obtain ⟨hlt, hat⟩ := filt_at (p := bel v cn) hn hc
    obtain ⟨ada, ra, hra, hca, hia⟩ := row_at ha hlt
    rw [hat] at hra
    have qa := hca _ hbd
    have h4 : IntKind.i64.wrap ((((l.take n).filter (bel v cn)).length : Int) + 1) = ((((l.take n).filter (bel v cn)).length + 1 : Nat) : Int) := by rw [w64 (by omega) (by omega)]; rfl
    simp only [↓reduceIte, ↓bx_e, ↓al_e, ↓fa_e, ↓ld_e, ↓ad_e, ↓su_e, ↓mu_e, ↓lt_e, ↓le_e, ↓gt_e, ↓ge_e, ↓eqi_e, ↓nei_e, ↓qu_e, ↓re_e, ↓cv_e, ↓nt_e, ↓pk_t, ↓pk_f, ↓pk_e, ↓eqb_e, ↓neb_e, ↓nc_e, ↓ex_e, ↓lnl_e, ↓lns_e, ↓idv_e, ↓cl_e, ↓cnd_e, ↓gd_e, ↓gd_u, ↓gdu_e, ↓rt_e, ↓jn_e, ↓dr_q, ↓kp_e, ↓mnm_e, ↓mxm_e, ↓mif_e, ↓asrt_e, ↓eqs_e, ↓nes_e, Value.cells, add_lit, cell_psh_new, cell_drw, Nat.zero_add, Nat.reduceAdd, get4_0, get4_1, get4_2, get4_3, get3_0, get3_1, get3_2, get2_0, get2_1, get1_0, Option.some.injEq, exists_eq_left', decide_true, decide_false, decide_eq_true_eq, if_true, if_false, Bool.not_true, Bool.not_false, Bool.false_eq_true, Bool.true_eq_false, Bool.not_eq_true', decide_eq_false_iff_not, not_false_eq_true, not_true_eq_false, reduceCtorEq, bx_e, al_e, fa_e, ld_e, ad_e, su_e, mu_e, lt_e, le_e, gt_e, ge_e, eqi_e, nei_e, qu_e, re_e, cv_e, nt_e, pk_t, pk_f, pk_e, eqb_e, neb_e, nc_e, ex_e, lnl_e, lns_e, idv_e, cl_e, cnd_e, gd_e, gd_u, gdu_e, rt_e, jn_e, dr_q, kp_e, mnm_e, mxm_e, mif_e, asrt_e, eqs_e, nes_e, cond_true, cond_false, Bool.true_and, Bool.and_true, Bool.false_and, Bool.and_false, decide_not, hia, qa, hil, qc]
    refine f11_s (rdR_b hbd hra) (rdR_b hbd hrl) (hsz _ (List.getElem_mem hn)) fun w1 b1 => ?_
    simp only [↓reduceIte, ↓bx_e, ↓al_e, ↓fa_e, ↓ld_e, ↓ad_e, ↓su_e, ↓mu_e, ↓lt_e, ↓le_e, ↓gt_e, ↓ge_e, ↓eqi_e, ↓nei_e, ↓qu_e, ↓re_e, ↓cv_e, ↓nt_e, ↓pk_t, ↓pk_f, ↓pk_e, ↓eqb_e, ↓neb_e, ↓nc_e, ↓ex_e, ↓lnl_e, ↓lns_e, ↓idv_e, ↓cl_e, ↓cnd_e, ↓gd_e, ↓gd_u, ↓gdu_e, ↓rt_e, ↓jn_e, ↓dr_q, ↓kp_e, ↓mnm_e, ↓mxm_e, ↓mif_e, ↓asrt_e, ↓eqs_e, ↓nes_e, Value.cells, add_lit, cell_psh_new, cell_drw, Nat.zero_add, Nat.reduceAdd, get4_0, get4_1, get4_2, get4_3, get3_0, get3_1, get3_2, get2_0, get2_1, get1_0, Option.some.injEq, exists_eq_left', decide_true, decide_false, decide_eq_true_eq, if_true, if_false, Bool.not_true, Bool.not_false, Bool.false_eq_true, Bool.true_eq_false, Bool.not_eq_true', decide_eq_false_iff_not, not_false_eq_true, not_true_eq_false, reduceCtorEq, bx_e, al_e, fa_e, ld_e, ad_e, su_e, mu_e, lt_e, le_e, gt_e, ge_e, eqi_e, nei_e, qu_e, re_e, cv_e, nt_e, pk_t, pk_f, pk_e, eqb_e, neb_e, nc_e, ex_e, lnl_e, lns_e, idv_e, cl_e, cnd_e, gd_e, gd_u, gdu_e, rt_e, jn_e, dr_q, kp_e, mnm_e, mxm_e, mif_e, asrt_e, eqs_e, nes_e, cond_true, cond_false, Bool.true_and, Bool.and_true, Bool.false_and, Bool.and_false, decide_not, h4]
    unfold f5_j4
    simp only [↓reduceIte, ↓bx_e, ↓al_e, ↓fa_e, ↓ld_e, ↓ad_e, ↓su_e, ↓mu_e, ↓lt_e, ↓le_e, ↓gt_e, ↓ge_e, ↓eqi_e, ↓nei_e, ↓qu_e, ↓re_e, ↓cv_e, ↓nt_e, ↓pk_t, ↓pk_f, ↓pk_e, ↓eqb_e, ↓neb_e, ↓nc_e, ↓ex_e, ↓lnl_e, ↓lns_e, ↓idv_e, ↓cl_e, ↓cnd_e, ↓gd_e, ↓gd_u, ↓gdu_e, ↓rt_e, ↓jn_e, ↓dr_q, ↓kp_e, ↓mnm_e, ↓mxm_e, ↓mif_e, ↓asrt_e, ↓eqs_e, ↓nes_e, Value.cells, add_lit, cell_psh_new, cell_drw, Nat.zero_add, Nat.reduceAdd, get4_0, get4_1, get4_2, get4_3, get3_0, get3_1, get3_2, get2_0, get2_1, get1_0, Option.some.injEq, exists_eq_left', decide_true, decide_false, decide_eq_true_eq, if_true, if_false, Bool.not_true, Bool.not_false, Bool.false_eq_true, Bool.true_eq_false, Bool.not_eq_true', decide_eq_false_iff_not, not_false_eq_true, not_true_eq_false, reduceCtorEq, bx_e, al_e, fa_e, ld_e, ad_e, su_e, mu_e, lt_e, le_e, gt_e, ge_e, eqi_e, nei_e, qu_e, re_e, cv_e, nt_e, pk_t, pk_f, pk_e, eqb_e, neb_e, nc_e, ex_e, lnl_e, lns_e, idv_e, cl_e, cnd_e, gd_e, gd_u, gdu_e, rt_e, jn_e, dr_q, kp_e, mnm_e, mxm_e, mif_e, asrt_e, eqs_e, nes_e, cond_true, cond_false, Bool.true_and, Bool.and_true, Bool.false_and, Bool.and_false, decide_not, h3]
    have := kk w1 (bt hbd b1)
    rw [l1, l2] at this
    exact this
  | false =>
    rw [hc] at l1 l2
    simp only [if_true, Bool.not_false, Bool.false_eq_true, if_false, Nat.add_zero] at l1 l2
    obtain ⟨hlt, hat⟩ := filt_at (p := fun r => !bel v cn r) hn (by rw [hc]; rfl)
    obtain ⟨ada, ra, hra, hca, hia⟩ := row_at hb hlt
    rw [hat] at hra
    have qa := hca _ hbd
    have hlt' : (((l.take n).filter (fun r => !bel v cn r)).length : Int) < ((l.filter (fun r => !bel v cn r)).length : Nat) := by omega
    have h4 : IntKind.i64.wrap ((((l.take n).filter (fun r => !bel v cn r)).length : Int) + 1) = ((((l.take n).filter (fun r => !bel v cn r)).length + 1 : Nat) : Int) := by rw [w64 (by omega) (by omega)]; rfl
    simp only [↓reduceIte, ↓bx_e, ↓al_e, ↓fa_e, ↓ld_e, ↓ad_e, ↓su_e, ↓mu_e, ↓lt_e, ↓le_e, ↓gt_e, ↓ge_e, ↓eqi_e, ↓nei_e, ↓qu_e, ↓re_e, ↓cv_e, ↓nt_e, ↓pk_t, ↓pk_f, ↓pk_e, ↓eqb_e, ↓neb_e, ↓nc_e, ↓ex_e, ↓lnl_e, ↓lns_e, ↓idv_e, ↓cl_e, ↓cnd_e, ↓gd_e, ↓gd_u, ↓gdu_e, ↓rt_e, ↓jn_e, ↓dr_q, ↓kp_e, ↓mnm_e, ↓mxm_e, ↓mif_e, ↓asrt_e, ↓eqs_e, ↓nes_e, Value.cells, add_lit, cell_psh_new, cell_drw, Nat.zero_add, Nat.reduceAdd, get4_0, get4_1, get4_2, get4_3, get3_0, get3_1, get3_2, get2_0, get2_1, get1_0, Option.some.injEq, exists_eq_left', decide_true, decide_false, decide_eq_true_eq, if_true, if_false, Bool.not_true, Bool.not_false, Bool.false_eq_true, Bool.true_eq_false, Bool.not_eq_true', decide_eq_false_iff_not, not_false_eq_true, not_true_eq_false, reduceCtorEq, bx_e, al_e, fa_e, ld_e, ad_e, su_e, mu_e, lt_e, le_e, gt_e, ge_e, eqi_e, nei_e, qu_e, re_e, cv_e, nt_e, pk_t, pk_f, pk_e, eqb_e, neb_e, nc_e, ex_e, lnl_e, lns_e, idv_e, cl_e, cnd_e, gd_e, gd_u, gdu_e, rt_e, jn_e, dr_q, kp_e, mnm_e, mxm_e, mif_e, asrt_e, eqs_e, nes_e, cond_true, cond_false, Bool.true_and, Bool.and_true, Bool.false_and, Bool.and_false, decide_not, lnl_L hb, hlt', hia, qa, hil, qc]
    refine f11_s (rdR_b hbd hra) (rdR_b hbd hrl) (hsz _ (List.getElem_mem hn)) fun w1 b1 => ?_
    simp only [↓reduceIte, ↓bx_e, ↓al_e, ↓fa_e, ↓ld_e, ↓ad_e, ↓su_e, ↓mu_e, ↓lt_e, ↓le_e, ↓gt_e, ↓ge_e, ↓eqi_e, ↓nei_e, ↓qu_e, ↓re_e, ↓cv_e, ↓nt_e, ↓pk_t, ↓pk_f, ↓pk_e, ↓eqb_e, ↓neb_e, ↓nc_e, ↓ex_e, ↓lnl_e, ↓lns_e, ↓idv_e, ↓cl_e, ↓cnd_e, ↓gd_e, ↓gd_u, ↓gdu_e, ↓rt_e, ↓jn_e, ↓dr_q, ↓kp_e, ↓mnm_e, ↓mxm_e, ↓mif_e, ↓asrt_e, ↓eqs_e, ↓nes_e, Value.cells, add_lit, cell_psh_new, cell_drw, Nat.zero_add, Nat.reduceAdd, get4_0, get4_1, get4_2, get4_3, get3_0, get3_1, get3_2, get2_0, get2_1, get1_0, Option.some.injEq, exists_eq_left', decide_true, decide_false, decide_eq_true_eq, if_true, if_false, Bool.not_true, Bool.not_false, Bool.false_eq_true, Bool.true_eq_false, Bool.not_eq_true', decide_eq_false_iff_not, not_false_eq_true, not_true_eq_false, reduceCtorEq, bx_e, al_e, fa_e, ld_e, ad_e, su_e, mu_e, lt_e, le_e, gt_e, ge_e, eqi_e, nei_e, qu_e, re_e, cv_e, nt_e, pk_t, pk_f, pk_e, eqb_e, neb_e, nc_e, ex_e, lnl_e, lns_e, idv_e, cl_e, cnd_e, gd_e, gd_u, gdu_e, rt_e, jn_e, dr_q, kp_e, mnm_e, mxm_e, mif_e, asrt_e, eqs_e, nes_e, cond_true, cond_false, Bool.true_and, Bool.and_true, Bool.false_and, Bool.and_false, decide_not, h4]
    unfold f5_j4
    simp only [↓reduceIte, ↓bx_e, ↓al_e, ↓fa_e, ↓ld_e, ↓ad_e, ↓su_e, ↓mu_e, ↓lt_e, ↓le_e, ↓gt_e, ↓ge_e, ↓eqi_e, ↓nei_e, ↓qu_e, ↓re_e, ↓cv_e, ↓nt_e, ↓pk_t, ↓pk_f, ↓pk_e, ↓eqb_e, ↓neb_e, ↓nc_e, ↓ex_e, ↓lnl_e, ↓lns_e, ↓idv_e, ↓cl_e, ↓cnd_e, ↓gd_e, ↓gd_u, ↓gdu_e, ↓rt_e, ↓jn_e, ↓dr_q, ↓kp_e, ↓mnm_e, ↓mxm_e, ↓mif_e, ↓asrt_e, ↓eqs_e, ↓nes_e, Value.cells, add_lit, cell_psh_new, cell_drw, Nat.zero_add, Nat.reduceAdd, get4_0, get4_1, get4_2, get4_3, get3_0, get3_1, get3_2, get2_0, get2_1, get1_0, Option.some.injEq, exists_eq_left', decide_true, decide_false, decide_eq_true_eq, if_true, if_false, Bool.not_true, Bool.not_false, Bool.false_eq_true, Bool.true_eq_false, Bool.not_eq_true', decide_eq_false_iff_not, not_false_eq_true, not_true_eq_false, reduceCtorEq, bx_e, al_e, fa_e, ld_e, ad_e, su_e, mu_e, lt_e, le_e, gt_e, ge_e, eqi_e, nei_e, qu_e, re_e, cv_e, nt_e, pk_t, pk_f, pk_e, eqb_e, neb_e, nc_e, ex_e, lnl_e, lns_e, idv_e, cl_e, cnd_e, gd_e, gd_u, gdu_e, rt_e, jn_e, dr_q, kp_e, mnm_e, mxm_e, mif_e, asrt_e, eqs_e, nes_e, cond_true, cond_false, Bool.true_and, Bool.and_true, Bool.false_and, Bool.and_false, decide_not, h3]
    have := kk w1 (bt hbd b1)
    rw [l1, l2] at this
    exact this
end
end Go.Proofs.Ytlmiimojgledpaa
