/- TimersOrder, its end. -/
import Derived.Test.YtpjffilejnemmaaT8
set_option linter.unusedVariables false
set_option linter.unusedSimpArgs false
set_option linter.unusedSectionVars false
namespace Go.Proofs.Ytpjffilejnemmaa
open Sh RowKit Go.MapKept

theorem dueL_len (R : List Pr) (now : Int) : (dueL R now).length + (restL R now).length = R.length := by
  unfold dueL restL
  rw [List.length_map, ← List.length_append, List.takeWhile_append_dropWhile]
/-- all that are due are ahead of one that isn't -/
theorem rest_all {T A : List Pr} {now : Int} (hT : ∀ x ∈ T, x.1 ≤ now) (hA : ∀ x, A.head? = some x → now < x.1) : restL (T ++ A) now = A := by
  unfold restL
  rw [List.dropWhile_append_of_pos (by intro x hx; simpa using hT x hx)]
  cases A with
  | nil => rfl
  | cons x r =>
    have := hA x rfl
    rw [List.dropWhile_cons_of_neg]
    simp; omega
theorem tw_mem {t : Int} : ∀ {R : List Pr} {x : Pr}, x ∈ R.takeWhile (fun x => decide (x.1 ≤ t)) → x.1 ≤ t
  | [], x, h => by cases h
  | y :: R, x, h => by
    rw [List.takeWhile_cons] at h
    split at h
    · rename_i c
      rcases List.mem_cons.1 h with rfl | h
      · simpa using c
      · exact tw_mem h
    · cases h
theorem split_due (R : List Pr) (t : Int) : ∃ T, R = T ++ restL R t ∧ (∀ x ∈ T, x.1 ≤ t) ∧ T.length = (dueL R t).length := by
  refine ⟨R.takeWhile (fun x => decide (x.1 ≤ t)), (List.takeWhile_append_dropWhile ..).symm, fun x hx => ?_, by simp [dueL]⟩
  exact tw_mem hx
theorem rest_gt {R : List Pr} (hs : Srt R) (t : Int) : ∀ x ∈ restL R t, t < x.1 := by
  intro x hx
  unfold restL at hx
  have hsub : (R.dropWhile (fun x => decide (x.1 ≤ t))).Pairwise ltP := hs.1.sublist (List.dropWhile_sublist _)
  cases hd : R.dropWhile (fun x => decide (x.1 ≤ t)) with
  | nil => rw [hd] at hx; cases hx
  | cons y r =>
    have hy : t < y.1 := by
      have := List.head?_dropWhile_not (fun x : Pr => decide (x.1 ≤ t)) R
      rw [hd] at this
      simp at this
      exact this
    rw [hd] at hx hsub
    rcases List.mem_cons.1 hx with rfl | hx
    · exact hy
    · have := (List.pairwise_cons.1 hsub).1 x hx
      unfold ltP at this
      omega
section
variable {Q : Value → World → Prop} {W : World} {v : Value} {l : List Op3}
theorem drain_loop (j7 : Value → Value → Value → Value → M) (hr : rdS 3 oR W v l) (hl : l.length ≤ 300) {now : Int} {p q : Nat} {R0 : List Pr} : ∀ (d m i : Nat) (last : Int) (w : World) (A T : List Pr) (F G : Nat → Prop), i + d = l.length → d < m → Below W.heap.size W w →
    Two W w p q A R0 F G → R0 = T ++ A → (∀ x ∈ T, x.1 ≤ now) → (0 < i → ∀ x ∈ A, last < x.1) → A.length + i ≤ l.length → (0 < l.length → A ≠ []) →
    (∀ w' A F G, Below W.heap.size W w' → Two W w' p q A R0 F G → restL R0 now = A → j7 v (.int .i64 now) (pv p) (pv q) w' Q) →
    itr (fun _ _ _ _ _ _ => bot) (f3_b8 j7) m v (.int .i64 now) (pv p) (pv q) (.int .i64 last) (.int .i64 (i : Int)) w Q := by
  intro d
  induction d with
  | zero =>
    intro m i last w A T F G hi hm hb ht hR hT hlast hA hne kk
    obtain ⟨m, rfl⟩ : ∃ x, m = x + 1 := ⟨m - 1, by omega⟩
    show f3_b8 j7 _ _ _ _ _ _ _ w Q
    unfold f3_b8
    refine lnl_S hr ?_
    have : ¬ (i : Int) < l.length := by omega
    simp only [↓bx_e, ↓al_e, ↓fa_e, ↓ld_e, ↓ad_e, ↓su_e, ↓mu_e, ↓lt_e, ↓le_e, ↓gt_e, ↓ge_e, ↓eqi_e, ↓nei_e, ↓qu_e, ↓re_e, ↓cv_e, ↓nt_e, ↓pk_t, ↓pk_f, ↓pk_e, ↓eqb_e, ↓neb_e, ↓nc_e, ↓ex_e, ↓lnl_e, ↓lns_e, ↓idv_e, ↓cl_e, ↓cnd_e, ↓gd_e, ↓gd_u, ↓gdu_e, ↓rt_e, ↓jn_e, ↓dr_q, ↓kp_e, ↓mnm_e, ↓mxm_e, ↓mif_e, ↓asrt_e, ↓eqs_e, ↓nes_e, Value.cells, add_lit, cell_psh_new, cell_drw, Nat.zero_add, Nat.reduceAdd, get4_0, get4_1, get4_2, get4_3, get3_0, get3_1, get3_2, get2_0, get2_1, get1_0, Option.some.injEq, exists_eq_left', decide_true, decide_false, decide_eq_true_eq, if_true, if_false, Bool.not_true, Bool.not_false, Bool.false_eq_true, Bool.true_eq_false, Bool.not_eq_true', decide_eq_false_iff_not, not_false_eq_true, not_true_eq_false, reduceCtorEq, bx_e, al_e, fa_e, ld_e, ad_e, su_e, mu_e, lt_e, le_e, gt_e, ge_e, eqi_e, nei_e, qu_e, re_e, cv_e, nt_e, pk_t, pk_f, pk_e, eqb_e, neb_e, nc_e, ex_e, lnl_e, lns_e, idv_e, cl_e, cnd_e, gd_e, gd_u, gdu_e, rt_e, jn_e, dr_q, kp_e, mnm_e, mxm_e, mif_e, asrt_e, eqs_e, nes_e, cond_true, cond_false, Bool.true_and, Bool.and_true, Bool.false_and, Bool.and_false, decide_not, this]
    have hA0 : A = [] := List.length_eq_zero_iff.1 (by omega)
    refine kk w A F G hb ht ?_
    rw [hR]
    exact rest_all hT (fun x hx => by rw [hA0] at hx; cases hx)
  | succ d ih =>
    intro m i last w A T F G hi hm hb ht hR hT hlast hA hne kk
    obtain ⟨m, rfl⟩ : ∃ x, m = x + 1 := ⟨m - 1, by omega⟩
    show f3_b8 j7 _ _ _ _ _ _ _ w Q
    unfold f3_b8
    refine lnl_S hr ?_
    have hlt : (i : Int) < l.length := by omega
    simp only [↓bx_e, ↓al_e, ↓fa_e, ↓ld_e, ↓ad_e, ↓su_e, ↓mu_e, ↓lt_e, ↓le_e, ↓gt_e, ↓ge_e, ↓eqi_e, ↓nei_e, ↓qu_e, ↓re_e, ↓cv_e, ↓nt_e, ↓pk_t, ↓pk_f, ↓pk_e, ↓eqb_e, ↓neb_e, ↓nc_e, ↓ex_e, ↓lnl_e, ↓lns_e, ↓idv_e, ↓cl_e, ↓cnd_e, ↓gd_e, ↓gd_u, ↓gdu_e, ↓rt_e, ↓jn_e, ↓dr_q, ↓kp_e, ↓mnm_e, ↓mxm_e, ↓mif_e, ↓asrt_e, ↓eqs_e, ↓nes_e, Value.cells, add_lit, cell_psh_new, cell_drw, Nat.zero_add, Nat.reduceAdd, get4_0, get4_1, get4_2, get4_3, get3_0, get3_1, get3_2, get2_0, get2_1, get1_0, Option.some.injEq, exists_eq_left', decide_true, decide_false, decide_eq_true_eq, if_true, if_false, Bool.not_true, Bool.not_false, Bool.false_eq_true, Bool.true_eq_false, Bool.not_eq_true', decide_eq_false_iff_not, not_false_eq_true, not_true_eq_false, reduceCtorEq, bx_e, al_e, fa_e, ld_e, ad_e, su_e, mu_e, lt_e, le_e, gt_e, ge_e, eqi_e, nei_e, qu_e, re_e, cv_e, nt_e, pk_t, pk_f, pk_e, eqb_e, neb_e, nc_e, ex_e, lnl_e, lns_e, idv_e, cl_e, cnd_e, gd_e, gd_u, gdu_e, rt_e, jn_e, dr_q, kp_e, mnm_e, mxm_e, mif_e, asrt_e, eqs_e, nes_e, cond_true, cond_false, Bool.true_and, Bool.and_true, Bool.false_and, Bool.and_false, decide_not, hlt]
    refine next_s ht.a fun w1 hw1 hb1 => ?_
    have b1 := bt hb hb1
    have ht1 := ht.below hb1
    obtain ⟨x, A', rfl⟩ : ∃ x A', A = x :: A' := by
      cases A with
      | nil => exact absurd rfl (hne (by omega))
      | cons x A' => exact ⟨x, A', rfl⟩
    have hRl : (x :: A').length ≤ 300 := by omega
    suffices next : (gt .i64 (.int .i64 x.1) (.int .i64 now) fun t104 =>
      cnd t104 (
        j7 v (.int .i64 now) (pv p) (pv q)
        ) (
        cl (f12 (pv p) (.int .i64 x.1)) fun t107 =>
        lnl t107 fun t108 =>
        eqi .i64 t108 (.int .i64 0) fun t109 =>
        cnd t109 (
          rt (.bool false)
          ) (
          cl (f13 (pv p)) fun t111 =>
          eqi .i64 t111 (.int .i64 0) fun t112 =>
          cnd t112 (
            j7 v (.int .i64 now) (pv p) (pv q)
            ) (
            ad .i64 (.int .i64 (i : Int)) (.int .i64 1) fun t83 =>
            itr (fun _ _ _ _ _ _ => bot) (f3_b8 j7) m v (.int .i64 now) (pv p) (pv q) (.int .i64 x.1) t83
            )
          )
        )) w1 Q by
      by_cases c : (0 : Int) < (i : Int)
      · have c2 : ¬ x.1 < last := by have := hlast (by omega) x (by simp); omega
        simp only [↓bx_e, ↓al_e, ↓fa_e, ↓ld_e, ↓ad_e, ↓su_e, ↓mu_e, ↓lt_e, ↓le_e, ↓gt_e, ↓ge_e, ↓eqi_e, ↓nei_e, ↓qu_e, ↓re_e, ↓cv_e, ↓nt_e, ↓pk_t, ↓pk_f, ↓pk_e, ↓eqb_e, ↓neb_e, ↓nc_e, ↓ex_e, ↓lnl_e, ↓lns_e, ↓idv_e, ↓cl_e, ↓cnd_e, ↓gd_e, ↓gd_u, ↓gdu_e, ↓rt_e, ↓jn_e, ↓dr_q, ↓kp_e, ↓mnm_e, ↓mxm_e, ↓mif_e, ↓asrt_e, ↓eqs_e, ↓nes_e, Value.cells, add_lit, cell_psh_new, cell_drw, Nat.zero_add, Nat.reduceAdd, get4_0, get4_1, get4_2, get4_3, get3_0, get3_1, get3_2, get2_0, get2_1, get1_0, Option.some.injEq, exists_eq_left', decide_true, decide_false, decide_eq_true_eq, if_true, if_false, Bool.not_true, Bool.not_false, Bool.false_eq_true, Bool.true_eq_false, Bool.not_eq_true', decide_eq_false_iff_not, not_false_eq_true, not_true_eq_false, reduceCtorEq, bx_e, al_e, fa_e, ld_e, ad_e, su_e, mu_e, lt_e, le_e, gt_e, ge_e, eqi_e, nei_e, qu_e, re_e, cv_e, nt_e, pk_t, pk_f, pk_e, eqb_e, neb_e, nc_e, ex_e, lnl_e, lns_e, idv_e, cl_e, cnd_e, gd_e, gd_u, gdu_e, rt_e, jn_e, dr_q, kp_e, mnm_e, mxm_e, mif_e, asrt_e, eqs_e, nes_e, cond_true, cond_false, Bool.true_and, Bool.and_true, Bool.false_and, Bool.and_false, decide_not, nextP, c, c2] at next ⊢
        exact next
      · simp only [↓bx_e, ↓al_e, ↓fa_e, ↓ld_e, ↓ad_e, ↓su_e, ↓mu_e, ↓lt_e, ↓le_e, ↓gt_e, ↓ge_e, ↓eqi_e, ↓nei_e, ↓qu_e, ↓re_e, ↓cv_e, ↓nt_e, ↓pk_t, ↓pk_f, ↓pk_e, ↓eqb_e, ↓neb_e, ↓nc_e, ↓ex_e, ↓lnl_e, ↓lns_e, ↓idv_e, ↓cl_e, ↓cnd_e, ↓gd_e, ↓gd_u, ↓gdu_e, ↓rt_e, ↓jn_e, ↓dr_q, ↓kp_e, ↓mnm_e, ↓mxm_e, ↓mif_e, ↓asrt_e, ↓eqs_e, ↓nes_e, Value.cells, add_lit, cell_psh_new, cell_drw, Nat.zero_add, Nat.reduceAdd, get4_0, get4_1, get4_2, get4_3, get3_0, get3_1, get3_2, get2_0, get2_1, get1_0, Option.some.injEq, exists_eq_left', decide_true, decide_false, decide_eq_true_eq, if_true, if_false, Bool.not_true, Bool.not_false, Bool.false_eq_true, Bool.true_eq_false, Bool.not_eq_true', decide_eq_false_iff_not, not_false_eq_true, not_true_eq_false, reduceCtorEq, bx_e, al_e, fa_e, ld_e, ad_e, su_e, mu_e, lt_e, le_e, gt_e, ge_e, eqi_e, nei_e, qu_e, re_e, cv_e, nt_e, pk_t, pk_f, pk_e, eqb_e, neb_e, nc_e, ex_e, lnl_e, lns_e, idv_e, cl_e, cnd_e, gd_e, gd_u, gdu_e, rt_e, jn_e, dr_q, kp_e, mnm_e, mxm_e, mif_e, asrt_e, eqs_e, nes_e, cond_true, cond_false, Bool.true_and, Bool.and_true, Bool.false_and, Bool.and_false, decide_not, nextP, c] at next ⊢
        exact next
    by_cases c : now < x.1
    · simp only [↓bx_e, ↓al_e, ↓fa_e, ↓ld_e, ↓ad_e, ↓su_e, ↓mu_e, ↓lt_e, ↓le_e, ↓gt_e, ↓ge_e, ↓eqi_e, ↓nei_e, ↓qu_e, ↓re_e, ↓cv_e, ↓nt_e, ↓pk_t, ↓pk_f, ↓pk_e, ↓eqb_e, ↓neb_e, ↓nc_e, ↓ex_e, ↓lnl_e, ↓lns_e, ↓idv_e, ↓cl_e, ↓cnd_e, ↓gd_e, ↓gd_u, ↓gdu_e, ↓rt_e, ↓jn_e, ↓dr_q, ↓kp_e, ↓mnm_e, ↓mxm_e, ↓mif_e, ↓asrt_e, ↓eqs_e, ↓nes_e, Value.cells, add_lit, cell_psh_new, cell_drw, Nat.zero_add, Nat.reduceAdd, get4_0, get4_1, get4_2, get4_3, get3_0, get3_1, get3_2, get2_0, get2_1, get1_0, Option.some.injEq, exists_eq_left', decide_true, decide_false, decide_eq_true_eq, if_true, if_false, Bool.not_true, Bool.not_false, Bool.false_eq_true, Bool.true_eq_false, Bool.not_eq_true', decide_eq_false_iff_not, not_false_eq_true, not_true_eq_false, reduceCtorEq, bx_e, al_e, fa_e, ld_e, ad_e, su_e, mu_e, lt_e, le_e, gt_e, ge_e, eqi_e, nei_e, qu_e, re_e, cv_e, nt_e, pk_t, pk_f, pk_e, eqb_e, neb_e, nc_e, ex_e, lnl_e, lns_e, idv_e, cl_e, cnd_e, gd_e, gd_u, gdu_e, rt_e, jn_e, dr_q, kp_e, mnm_e, mxm_e, mif_e, asrt_e, eqs_e, nes_e, cond_true, cond_false, Bool.true_and, Bool.and_true, Bool.false_and, Bool.and_false, decide_not, c]
      refine kk w1 _ F G b1 ht1 ?_
      rw [hR]
      exact rest_all hT (fun y hy => by simp at hy; subst hy; exact c)
    · simp only [↓bx_e, ↓al_e, ↓fa_e, ↓ld_e, ↓ad_e, ↓su_e, ↓mu_e, ↓lt_e, ↓le_e, ↓gt_e, ↓ge_e, ↓eqi_e, ↓nei_e, ↓qu_e, ↓re_e, ↓cv_e, ↓nt_e, ↓pk_t, ↓pk_f, ↓pk_e, ↓eqb_e, ↓neb_e, ↓nc_e, ↓ex_e, ↓lnl_e, ↓lns_e, ↓idv_e, ↓cl_e, ↓cnd_e, ↓gd_e, ↓gd_u, ↓gdu_e, ↓rt_e, ↓jn_e, ↓dr_q, ↓kp_e, ↓mnm_e, ↓mxm_e, ↓mif_e, ↓asrt_e, ↓eqs_e, ↓nes_e, Value.cells, add_lit, cell_psh_new, cell_drw, Nat.zero_add, Nat.reduceAdd, get4_0, get4_1, get4_2, get4_3, get3_0, get3_1, get3_2, get2_0, get2_1, get1_0, Option.some.injEq, exists_eq_left', decide_true, decide_false, decide_eq_true_eq, if_true, if_false, Bool.not_true, Bool.not_false, Bool.false_eq_true, Bool.true_eq_false, Bool.not_eq_true', decide_eq_false_iff_not, not_false_eq_true, not_true_eq_false, reduceCtorEq, bx_e, al_e, fa_e, ld_e, ad_e, su_e, mu_e, lt_e, le_e, gt_e, ge_e, eqi_e, nei_e, qu_e, re_e, cv_e, nt_e, pk_t, pk_f, pk_e, eqb_e, neb_e, nc_e, ex_e, lnl_e, lns_e, idv_e, cl_e, cnd_e, gd_e, gd_u, gdu_e, rt_e, jn_e, dr_q, kp_e, mnm_e, mxm_e, mif_e, asrt_e, eqs_e, nes_e, cond_true, cond_false, Bool.true_and, Bool.and_true, Bool.false_and, Bool.and_false, decide_not, c]
      refine due_s ht1.a x.1 (by omega) b1.size fun w2 F2 v2 h2 c2 f2 o2 => ?_
      have b2 := bs b1 (fun k hk => (ht1.a.ge k hk).1) b1.size c2
      have ht2 := ht1.setA h2 c2 (fun k hk => .inl (f2 k hk))
      refine lnl_rd (ownI_rd o2) ?_
      have hx1 : dueL (x :: A') x.1 = x.2 :: dueL A' x.1 := by simp [dueL]
      have hx2 : restL (x :: A') x.1 = restL A' x.1 := by simp [restL]
      have hne0 : ¬ (((dueL (x :: A') x.1).length : Nat) : Int) = 0 := by rw [hx1]; simp; omega
      simp only [↓bx_e, ↓al_e, ↓fa_e, ↓ld_e, ↓ad_e, ↓su_e, ↓mu_e, ↓lt_e, ↓le_e, ↓gt_e, ↓ge_e, ↓eqi_e, ↓nei_e, ↓qu_e, ↓re_e, ↓cv_e, ↓nt_e, ↓pk_t, ↓pk_f, ↓pk_e, ↓eqb_e, ↓neb_e, ↓nc_e, ↓ex_e, ↓lnl_e, ↓lns_e, ↓idv_e, ↓cl_e, ↓cnd_e, ↓gd_e, ↓gd_u, ↓gdu_e, ↓rt_e, ↓jn_e, ↓dr_q, ↓kp_e, ↓mnm_e, ↓mxm_e, ↓mif_e, ↓asrt_e, ↓eqs_e, ↓nes_e, Value.cells, add_lit, cell_psh_new, cell_drw, Nat.zero_add, Nat.reduceAdd, get4_0, get4_1, get4_2, get4_3, get3_0, get3_1, get3_2, get2_0, get2_1, get1_0, Option.some.injEq, exists_eq_left', decide_true, decide_false, decide_eq_true_eq, if_true, if_false, Bool.not_true, Bool.not_false, Bool.false_eq_true, Bool.true_eq_false, Bool.not_eq_true', decide_eq_false_iff_not, not_false_eq_true, not_true_eq_false, reduceCtorEq, bx_e, al_e, fa_e, ld_e, ad_e, su_e, mu_e, lt_e, le_e, gt_e, ge_e, eqi_e, nei_e, qu_e, re_e, cv_e, nt_e, pk_t, pk_f, pk_e, eqb_e, neb_e, nc_e, ex_e, lnl_e, lns_e, idv_e, cl_e, cnd_e, gd_e, gd_u, gdu_e, rt_e, jn_e, dr_q, kp_e, mnm_e, mxm_e, mif_e, asrt_e, eqs_e, nes_e, cond_true, cond_false, Bool.true_and, Bool.and_true, Bool.false_and, Bool.and_false, decide_not, hne0]
      refine tlen_s ht2.a ?_
      obtain ⟨T2, e1, e2, e3⟩ := split_due (x :: A') x.1
      have hs := ht1.a.srt
      have hgt := rest_gt hs x.1
      have hsum := dueL_len (x :: A') x.1
      rw [hx1] at hsum
      simp only [List.length_cons] at hsum hA
      have hR2 : R0 = (T ++ T2) ++ restL (x :: A') x.1 := by rw [hR, List.append_assoc, ← e1]
      have hT2 : ∀ y ∈ T ++ T2, y.1 ≤ now := fun y hy => (List.mem_append.1 hy).elim (hT y) (fun h => by have := e2 y h; omega)
      by_cases c3 : (restL (x :: A') x.1).length = 0
      · have c3' : (((restL (x :: A') x.1).length : Nat) : Int) = 0 := by omega
        simp only [↓bx_e, ↓al_e, ↓fa_e, ↓ld_e, ↓ad_e, ↓su_e, ↓mu_e, ↓lt_e, ↓le_e, ↓gt_e, ↓ge_e, ↓eqi_e, ↓nei_e, ↓qu_e, ↓re_e, ↓cv_e, ↓nt_e, ↓pk_t, ↓pk_f, ↓pk_e, ↓eqb_e, ↓neb_e, ↓nc_e, ↓ex_e, ↓lnl_e, ↓lns_e, ↓idv_e, ↓cl_e, ↓cnd_e, ↓gd_e, ↓gd_u, ↓gdu_e, ↓rt_e, ↓jn_e, ↓dr_q, ↓kp_e, ↓mnm_e, ↓mxm_e, ↓mif_e, ↓asrt_e, ↓eqs_e, ↓nes_e, Value.cells, add_lit, cell_psh_new, cell_drw, Nat.zero_add, Nat.reduceAdd, get4_0, get4_1, get4_2, get4_3, get3_0, get3_1, get3_2, get2_0, get2_1, get1_0, Option.some.injEq, exists_eq_left', decide_true, decide_false, decide_eq_true_eq, if_true, if_false, Bool.not_true, Bool.not_false, Bool.false_eq_true, Bool.true_eq_false, Bool.not_eq_true', decide_eq_false_iff_not, not_false_eq_true, not_true_eq_false, reduceCtorEq, bx_e, al_e, fa_e, ld_e, ad_e, su_e, mu_e, lt_e, le_e, gt_e, ge_e, eqi_e, nei_e, qu_e, re_e, cv_e, nt_e, pk_t, pk_f, pk_e, eqb_e, neb_e, nc_e, ex_e, lnl_e, lns_e, idv_e, cl_e, cnd_e, gd_e, gd_u, gdu_e, rt_e, jn_e, dr_q, kp_e, mnm_e, mxm_e, mif_e, asrt_e, eqs_e, nes_e, cond_true, cond_false, Bool.true_and, Bool.and_true, Bool.false_and, Bool.and_false, decide_not, c3']
        refine kk w2 _ F2 G b2 ht2 ?_
        have h0 := List.length_eq_zero_iff.1 c3
        rw [hR2]
        exact rest_all hT2 (fun y hy => by rw [h0] at hy; cases hy)
      · have c3' : ¬ (((restL (x :: A') x.1).length : Nat) : Int) = 0 := by omega
        have h3 : IntKind.i64.wrap ((i : Int) + 1) = ((i + 1 : Nat) : Int) := by rw [w64 (by omega) (by omega)]; rfl
        simp only [↓bx_e, ↓al_e, ↓fa_e, ↓ld_e, ↓ad_e, ↓su_e, ↓mu_e, ↓lt_e, ↓le_e, ↓gt_e, ↓ge_e, ↓eqi_e, ↓nei_e, ↓qu_e, ↓re_e, ↓cv_e, ↓nt_e, ↓pk_t, ↓pk_f, ↓pk_e, ↓eqb_e, ↓neb_e, ↓nc_e, ↓ex_e, ↓lnl_e, ↓lns_e, ↓idv_e, ↓cl_e, ↓cnd_e, ↓gd_e, ↓gd_u, ↓gdu_e, ↓rt_e, ↓jn_e, ↓dr_q, ↓kp_e, ↓mnm_e, ↓mxm_e, ↓mif_e, ↓asrt_e, ↓eqs_e, ↓nes_e, Value.cells, add_lit, cell_psh_new, cell_drw, Nat.zero_add, Nat.reduceAdd, get4_0, get4_1, get4_2, get4_3, get3_0, get3_1, get3_2, get2_0, get2_1, get1_0, Option.some.injEq, exists_eq_left', decide_true, decide_false, decide_eq_true_eq, if_true, if_false, Bool.not_true, Bool.not_false, Bool.false_eq_true, Bool.true_eq_false, Bool.not_eq_true', decide_eq_false_iff_not, not_false_eq_true, not_true_eq_false, reduceCtorEq, bx_e, al_e, fa_e, ld_e, ad_e, su_e, mu_e, lt_e, le_e, gt_e, ge_e, eqi_e, nei_e, qu_e, re_e, cv_e, nt_e, pk_t, pk_f, pk_e, eqb_e, neb_e, nc_e, ex_e, lnl_e, lns_e, idv_e, cl_e, cnd_e, gd_e, gd_u, gdu_e, rt_e, jn_e, dr_q, kp_e, mnm_e, mxm_e, mif_e, asrt_e, eqs_e, nes_e, cond_true, cond_false, Bool.true_and, Bool.and_true, Bool.false_and, Bool.and_false, decide_not, c3', h3]
        refine ih m (i + 1) x.1 w2 _ (T ++ T2) F2 G (by omega) (by omega) b2 ht2 hR2 hT2 (fun _ => hgt) (by omega) (fun _ e => c3 (by rw [e]; rfl)) kk
theorem f3_s (hr : rdS 3 oR W v l) (now : Int) (h : ∀ w', Below W.heap.size W w' → Q (.bool true) w') : f3 v (.int .i64 now) W Q := by
  unfold f3
  rw [cl_e]
  refine f7_s _ _ fun w1 b1 => ?_
  simp only [↓bx_e, ↓al_e, ↓fa_e, ↓ld_e, ↓ad_e, ↓su_e, ↓mu_e, ↓lt_e, ↓le_e, ↓gt_e, ↓ge_e, ↓eqi_e, ↓nei_e, ↓qu_e, ↓re_e, ↓cv_e, ↓nt_e, ↓pk_t, ↓pk_f, ↓pk_e, ↓eqb_e, ↓neb_e, ↓nc_e, ↓ex_e, ↓lnl_e, ↓lns_e, ↓idv_e, ↓cl_e, ↓cnd_e, ↓gd_e, ↓gd_u, ↓gdu_e, ↓rt_e, ↓jn_e, ↓dr_q, ↓kp_e, ↓mnm_e, ↓mxm_e, ↓mif_e, ↓asrt_e, ↓eqs_e, ↓nes_e, Value.cells, add_lit, cell_psh_new, cell_drw, Nat.zero_add, Nat.reduceAdd, get4_0, get4_1, get4_2, get4_3, get3_0, get3_1, get3_2, get2_0, get2_1, get1_0, Option.some.injEq, exists_eq_left', decide_true, decide_false, decide_eq_true_eq, if_true, if_false, Bool.not_true, Bool.not_false, Bool.false_eq_true, Bool.true_eq_false, Bool.not_eq_true', decide_eq_false_iff_not, not_false_eq_true, not_true_eq_false, reduceCtorEq, bx_e, al_e, fa_e, ld_e, ad_e, su_e, mu_e, lt_e, le_e, gt_e, ge_e, eqi_e, nei_e, qu_e, re_e, cv_e, nt_e, pk_t, pk_f, pk_e, eqb_e, neb_e, nc_e, ex_e, lnl_e, lns_e, idv_e, cl_e, cnd_e, gd_e, gd_u, gdu_e, rt_e, jn_e, dr_q, kp_e, mnm_e, mxm_e, mif_e, asrt_e, eqs_e, nes_e, cond_true, cond_false, Bool.true_and, Bool.and_true, Bool.false_and, Bool.and_false, decide_not]
  refine f8_s (rdS_below oR_st b1 hr) _ fun v' hr1 => ?_
  have hl : (l.take 300).length ≤ 300 := by simp; omega
  generalize l.take 300 = l' at *
  refine new_s b1.size fun p w2 F h2 f2 hb2 => ?_
  have b2 := bt b1 hb2
  have b12 := hb2
  refine new_s b2.size fun q w3 G h3 g3 hb3 => ?_
  have b3 := bt b2 hb3
  have b13 := bt b12 hb3
  -- the script's row lies below the two
  have hr3 : rdS 3 oR w1 v' l' := hr1
  have h2' := h2.below hb3
  -- all is asked from w1 on
  have up : ∀ w', Below w1.heap.size w1 w' → Below W.heap.size W w' := fun w' hb => bt b1 hb
  have lift : ∀ {w : World} {p : Nat} {R : List Pr} {F : Nat → Prop}, TS W.heap.size w p R F → (∀ k, F k → w1.heap.size ≤ k) → TS w1.heap.size w p R F := by
    intro w p R F ht hf
    obtain ⟨m, qv, ll, L, hq, hh, hp, hs, hm, hL, hB, hF⟩ := ht.ex
    refine ⟨m, qv, ll, L, ⟨hq.hp, ?_, hq.tm, hq.nd, hf _ ((hF _).2 (.inl (.inl rfl))), fun t ht => hf _ ((hF _).2 (.inl (.inr (.inr (List.mem_map.2 ⟨t, ht, rfl⟩)))))⟩, hh, hp, hs, hm, hL, hf _ ((hF _).2 (.inr rfl)), hF⟩
    rcases ownV_cases hq.own with ⟨e1, e2⟩ | ⟨g, cap, cur, e1, hg, hb, hn, hm', hs', ht'⟩
    · rw [e1, e2]; exact ownV_nil
    · rw [e1]
      exact ownV_mk (hf g ((hF g).2 (.inl (.inr (.inl (by rw [e1]; rfl)))))) hb hn hm' hs' ht'
  have tw : Two w1 w3 p q [] [] F G := ⟨lift h2' f2, lift h3 (fun k hk => by have := g3 k hk; have := b12.size; omega), fun k hk hg => by
    have := (h2.ge k hk).2
    have := g3 k hg
    omega⟩
  refine ⟨_, outer_uni _ hr3 hl l'.length _ 0 w3 (Nat.zero_add _) (Nat.lt_succ_self _) b13 (fun x y hx hy hy0 => by omega) (fun w' _ hb => h _ (up w' hb)) ?_⟩
  intro w4 hw4 hb4 hu
  have hn := ids_nodup hu
  have tw4 : Two w1 w4 p q [] [] F G := ⟨tw.a.stay (fun k _ => by rw [hw4]), tw.b.stay (fun k _ => by rw [hw4]), tw.d⟩
  unfold f3_j1
  rw [jn_e]
  refine ⟨_, sets_loop _ hr3 hl hn l'.length _ 0 w4 [] [] F G (Nat.zero_add _) (Nat.lt_succ_self _) hb4 tw4 (by simp) (by simp) ?_⟩
  intro w5 R S F5 G5 hb5 tw5 hR hS
  have hRS : R = S := srt_eq tw5.a.srt.1 tw5.b.srt.1 (hR.trans (((List.reverse_perm l').map _).symm.trans hS.symm))
  subst hRS
  unfold f3_j5
  rw [jn_e]
  have hRl : R.length = l'.length := by rw [hR.length_eq]; simp
  refine ⟨_, drain_loop _ hr3 hl (R0 := R) l'.length _ 0 0 w5 R [] F5 G5 (Nat.zero_add _) (Nat.lt_succ_self _) hb5 tw5 (by simp) (by simp) (by intro h; omega) (by omega) (fun h e => by rw [e] at hRl; simp at hRl; omega) ?_⟩
  intro w6 A F6 G6 hb6 tw6 hA
  unfold f3_j7
  rw [cl_e]
  refine due_s tw6.b now (by omega) hb6.size fun w7 G7 v7 h7 c7 g7 o7 => ?_
  have b7 := bs hb6 (fun k hk => (tw6.b.ge k hk).1) hb6.size c7
  have tw7 := tw6.setB h7 c7 (fun k hk => .inl (g7 k hk))
  rw [cl_e]
  refine tlen_s tw7.b ?_
  refine lnl_rd (ownI_rd o7) ?_
  have hsum := dueL_len R now
  have e1 : IntKind.i64.wrap (((dueL R now).length : Int) + ((restL R now).length : Int)) = (l'.length : Int) := by rw [w64 (by omega) (by omega)]; omega
  simp only [↓bx_e, ↓al_e, ↓fa_e, ↓ld_e, ↓ad_e, ↓su_e, ↓mu_e, ↓lt_e, ↓le_e, ↓gt_e, ↓ge_e, ↓eqi_e, ↓nei_e, ↓qu_e, ↓re_e, ↓cv_e, ↓nt_e, ↓pk_t, ↓pk_f, ↓pk_e, ↓eqb_e, ↓neb_e, ↓nc_e, ↓ex_e, ↓lnl_e, ↓lns_e, ↓idv_e, ↓cl_e, ↓cnd_e, ↓gd_e, ↓gd_u, ↓gdu_e, ↓rt_e, ↓jn_e, ↓dr_q, ↓kp_e, ↓mnm_e, ↓mxm_e, ↓mif_e, ↓asrt_e, ↓eqs_e, ↓nes_e, Value.cells, add_lit, cell_psh_new, cell_drw, Nat.zero_add, Nat.reduceAdd, get4_0, get4_1, get4_2, get4_3, get3_0, get3_1, get3_2, get2_0, get2_1, get1_0, Option.some.injEq, exists_eq_left', decide_true, decide_false, decide_eq_true_eq, if_true, if_false, Bool.not_true, Bool.not_false, Bool.false_eq_true, Bool.true_eq_false, Bool.not_eq_true', decide_eq_false_iff_not, not_false_eq_true, not_true_eq_false, reduceCtorEq, bx_e, al_e, fa_e, ld_e, ad_e, su_e, mu_e, lt_e, le_e, gt_e, ge_e, eqi_e, nei_e, qu_e, re_e, cv_e, nt_e, pk_t, pk_f, pk_e, eqb_e, neb_e, nc_e, ex_e, lnl_e, lns_e, idv_e, cl_e, cnd_e, gd_e, gd_u, gdu_e, rt_e, jn_e, dr_q, kp_e, mnm_e, mxm_e, mif_e, asrt_e, eqs_e, nes_e, cond_true, cond_false, Bool.true_and, Bool.and_true, Bool.false_and, Bool.and_false, decide_not, e1]
  refine lnl_S hr3 ?_
  simp only [↓bx_e, ↓al_e, ↓fa_e, ↓ld_e, ↓ad_e, ↓su_e, ↓mu_e, ↓lt_e, ↓le_e, ↓gt_e, ↓ge_e, ↓eqi_e, ↓nei_e, ↓qu_e, ↓re_e, ↓cv_e, ↓nt_e, ↓pk_t, ↓pk_f, ↓pk_e, ↓eqb_e, ↓neb_e, ↓nc_e, ↓ex_e, ↓lnl_e, ↓lns_e, ↓idv_e, ↓cl_e, ↓cnd_e, ↓gd_e, ↓gd_u, ↓gdu_e, ↓rt_e, ↓jn_e, ↓dr_q, ↓kp_e, ↓mnm_e, ↓mxm_e, ↓mif_e, ↓asrt_e, ↓eqs_e, ↓nes_e, Value.cells, add_lit, cell_psh_new, cell_drw, Nat.zero_add, Nat.reduceAdd, get4_0, get4_1, get4_2, get4_3, get3_0, get3_1, get3_2, get2_0, get2_1, get1_0, Option.some.injEq, exists_eq_left', decide_true, decide_false, decide_eq_true_eq, if_true, if_false, Bool.not_true, Bool.not_false, Bool.false_eq_true, Bool.true_eq_false, Bool.not_eq_true', decide_eq_false_iff_not, not_false_eq_true, not_true_eq_false, reduceCtorEq, bx_e, al_e, fa_e, ld_e, ad_e, su_e, mu_e, lt_e, le_e, gt_e, ge_e, eqi_e, nei_e, qu_e, re_e, cv_e, nt_e, pk_t, pk_f, pk_e, eqb_e, neb_e, nc_e, ex_e, lnl_e, lns_e, idv_e, cl_e, cnd_e, gd_e, gd_u, gdu_e, rt_e, jn_e, dr_q, kp_e, mnm_e, mxm_e, mif_e, asrt_e, eqs_e, nes_e, cond_true, cond_false, Bool.true_and, Bool.and_true, Bool.false_and, Bool.and_false, decide_not]
  refine tlen_s tw7.a ?_
  rw [hA]
  simp only [↓bx_e, ↓al_e, ↓fa_e, ↓ld_e, ↓ad_e, ↓su_e, ↓mu_e, ↓lt_e, ↓le_e, ↓gt_e, ↓ge_e, ↓eqi_e, ↓nei_e, ↓qu_e, ↓re_e, ↓cv_e, ↓nt_e, ↓pk_t, ↓pk_f, ↓pk_e, ↓eqb_e, ↓neb_e, ↓nc_e, ↓ex_e, ↓lnl_e, ↓lns_e, ↓idv_e, ↓cl_e, ↓cnd_e, ↓gd_e, ↓gd_u, ↓gdu_e, ↓rt_e, ↓jn_e, ↓dr_q, ↓kp_e, ↓mnm_e, ↓mxm_e, ↓mif_e, ↓asrt_e, ↓eqs_e, ↓nes_e, Value.cells, add_lit, cell_psh_new, cell_drw, Nat.zero_add, Nat.reduceAdd, get4_0, get4_1, get4_2, get4_3, get3_0, get3_1, get3_2, get2_0, get2_1, get1_0, Option.some.injEq, exists_eq_left', decide_true, decide_false, decide_eq_true_eq, if_true, if_false, Bool.not_true, Bool.not_false, Bool.false_eq_true, Bool.true_eq_false, Bool.not_eq_true', decide_eq_false_iff_not, not_false_eq_true, not_true_eq_false, reduceCtorEq, bx_e, al_e, fa_e, ld_e, ad_e, su_e, mu_e, lt_e, le_e, gt_e, ge_e, eqi_e, nei_e, qu_e, re_e, cv_e, nt_e, pk_t, pk_f, pk_e, eqb_e, neb_e, nc_e, ex_e, lnl_e, lns_e, idv_e, cl_e, cnd_e, gd_e, gd_u, gdu_e, rt_e, jn_e, dr_q, kp_e, mnm_e, mxm_e, mif_e, asrt_e, eqs_e, nes_e, cond_true, cond_false, Bool.true_and, Bool.and_true, Bool.false_and, Bool.and_false, decide_not]
  exact h _ (up _ b7)
end
end Go.Proofs.Ytpjffilejnemmaa
