/- TimersOrder at the level of predicate transformers. -/
import Derived.Test.YtpjffilejnemmaaT7
set_option linter.unusedVariables false
set_option linter.unusedSimpArgs false
set_option linter.unusedSectionVars false
namespace Go.Proofs.Ytpjffilejnemmaa
open Sh RowKit Go.MapKept

/-- a step of a script -/
structure Op3 where
  kind : Int
  id : Int
  till : Int
def Op3.cells (o : Op3) : List Value := [.int .i64 o.kind, .int .i64 o.id, .int .i64 o.till]
def oR : RepT Op3 := fun _ cs o => cs = o.cells
theorem oR_st : Stable oR := fun _ _ _ _ _ h => h
def op2 (o : Op3) : Pr := (o.till, o.id)
theorem f8_s {v : Value} {l : List Op3} {w : World} (hr : rdS 3 oR w v l) (Q : Value → World → Prop) (h : ∀ v', rdS 3 oR w v' (l.take 300) → Q v' w) : f8 v w Q := by
  unfold f8
  refine lnl_S hr ?_
  have e : (if (300 : Int) < (l.length : Int) then (300 : Int) else (l.length : Int)) = ((min l.length 300 : Nat) : Int) := by split <;> omega
  simp only [↓bx_e, ↓al_e, ↓fa_e, ↓ld_e, ↓ad_e, ↓su_e, ↓mu_e, ↓lt_e, ↓le_e, ↓gt_e, ↓ge_e, ↓eqi_e, ↓nei_e, ↓qu_e, ↓re_e, ↓cv_e, ↓nt_e, ↓pk_t, ↓pk_f, ↓pk_e, ↓eqb_e, ↓neb_e, ↓nc_e, ↓ex_e, ↓lnl_e, ↓lns_e, ↓idv_e, ↓cl_e, ↓cnd_e, ↓gd_e, ↓gd_u, ↓gdu_e, ↓rt_e, ↓jn_e, ↓dr_q, ↓kp_e, ↓mnm_e, ↓mxm_e, ↓mif_e, ↓asrt_e, ↓eqs_e, ↓nes_e, Value.cells, add_lit, cell_psh_new, cell_drw, Nat.zero_add, Nat.reduceAdd, get4_0, get4_1, get4_2, get4_3, get3_0, get3_1, get3_2, get2_0, get2_1, get1_0, Option.some.injEq, exists_eq_left', decide_true, decide_false, decide_eq_true_eq, if_true, if_false, Bool.not_true, Bool.not_false, Bool.false_eq_true, Bool.true_eq_false, Bool.not_eq_true', decide_eq_false_iff_not, not_false_eq_true, not_true_eq_false, reduceCtorEq, bx_e, al_e, fa_e, ld_e, ad_e, su_e, mu_e, lt_e, le_e, gt_e, ge_e, eqi_e, nei_e, qu_e, re_e, cv_e, nt_e, pk_t, pk_f, pk_e, eqb_e, neb_e, nc_e, ex_e, lnl_e, lns_e, idv_e, cl_e, cnd_e, gd_e, gd_u, gdu_e, rt_e, jn_e, dr_q, kp_e, mnm_e, mxm_e, mif_e, asrt_e, eqs_e, nes_e, cond_true, cond_false, Bool.true_and, Bool.and_true, Bool.false_and, Bool.and_false, decide_not, e]
  refine sll_S hr (by omega) fun v' h' => ?_
  try simp only [↓bx_e, ↓al_e, ↓fa_e, ↓ld_e, ↓ad_e, ↓su_e, ↓mu_e, ↓lt_e, ↓le_e, ↓gt_e, ↓ge_e, ↓eqi_e, ↓nei_e, ↓qu_e, ↓re_e, ↓cv_e, ↓nt_e, ↓pk_t, ↓pk_f, ↓pk_e, ↓eqb_e, ↓neb_e, ↓nc_e, ↓ex_e, ↓lnl_e, ↓lns_e, ↓idv_e, ↓cl_e, ↓cnd_e, ↓gd_e, ↓gd_u, ↓gdu_e, ↓rt_e, ↓jn_e, ↓dr_q, ↓kp_e, ↓mnm_e, ↓mxm_e, ↓mif_e, ↓asrt_e, ↓eqs_e, ↓nes_e, Value.cells, add_lit, cell_psh_new, cell_drw, Nat.zero_add, Nat.reduceAdd, get4_0, get4_1, get4_2, get4_3, get3_0, get3_1, get3_2, get2_0, get2_1, get1_0, Option.some.injEq, exists_eq_left', decide_true, decide_false, decide_eq_true_eq, if_true, if_false, Bool.not_true, Bool.not_false, Bool.false_eq_true, Bool.true_eq_false, Bool.not_eq_true', decide_eq_false_iff_not, not_false_eq_true, not_true_eq_false, reduceCtorEq, bx_e, al_e, fa_e, ld_e, ad_e, su_e, mu_e, lt_e, le_e, gt_e, ge_e, eqi_e, nei_e, qu_e, re_e, cv_e, nt_e, pk_t, pk_f, pk_e, eqb_e, neb_e, nc_e, ex_e, lnl_e, lns_e, idv_e, cl_e, cnd_e, gd_e, gd_u, gdu_e, rt_e, jn_e, dr_q, kp_e, mnm_e, mxm_e, mif_e, asrt_e, eqs_e, nes_e, cond_true, cond_false, Bool.true_and, Bool.and_true, Bool.false_and, Bool.and_false, decide_not]
  refine h v' ?_
  have : l.take (min l.length 300) = l.take 300 := by
    rcases Nat.le_total l.length 300 with c | c
    · rw [Nat.min_eq_left c, List.take_of_length_le (Nat.le_refl _), List.take_of_length_le c]
    · rw [Nat.min_eq_right c]
  rw [← this]; exact h'
/-- an element's place and cells -/
theorem op_at {W : World} {v : Value} {l : List Op3} (hr : rdS 3 oR W v l) {i : Nat} (hi : i < l.length) : ∃ ad : Addr, (∀ w, Below W.heap.size W w → cellsAt w ad l[i].cells) ∧ ∀ (k : IntKind) (K : Value → M) (w' : World) (Q : Value → World → Prop), ia 3 v (.int k (i : Int)) K w' Q = K (.pointer (some ad)) w' Q := by
  obtain ⟨ad, es, hes, hc, he, hia⟩ := rdS_at hr hi
  have he : es = l[i].cells := he
  subst he
  exact ⟨ad, fun w hb => cellsAt_below hb hc, hia⟩
section
variable {Q : Value → World → Prop} {W : World} {v : Value} {l : List Op3}
theorem c0_at {w : World} {ad : Addr} {o : Op3} (h : cellsAt w ad o.cells) : w.cell? (ad.add 0) = some (.int .i64 o.kind) := h 0 _ rfl
theorem c1_at {w : World} {ad : Addr} {o : Op3} (h : cellsAt w ad o.cells) : w.cell? (ad.add 1) = some (.int .i64 o.id) := h 1 _ rfl
theorem c2_at {w : World} {ad : Addr} {o : Op3} (h : cellsAt w ad o.cells) : w.cell? (ad.add 2) = some (.int .i64 o.till) := h 2 _ rfl
/-- no number twice -/
theorem inner_uni (j3 : Value → Value → Value → Value → Value → M) (hr : rdS 3 oR W v l) (hl : l.length ≤ 300) {nv a b : Value} {i : Nat} (hi : i < l.length) : ∀ (d m k : Nat) (w : World), k + d = i → d < m → Below W.heap.size W w →
    (∀ w', w'.heap = w.heap → Below W.heap.size W w' → Q (.bool true) w') → (∀ w', w'.heap = w.heap → Below W.heap.size W w' → (∀ x (hx : x < i), k ≤ x → (l[x]'(by omega)).id ≠ l[i].id) → j3 v nv a b (.int .i64 (i : Int)) w' Q) →
    itr (fun _ _ _ _ _ _ => bot) (f3_b4 j3) m v nv a b (.int .i64 (i : Int)) (.int .i64 (k : Int)) w Q := by
  intro d
  induction d with
  | zero =>
    intro m k w hk hm hb k0 k1
    obtain ⟨m, rfl⟩ : ∃ x, m = x + 1 := ⟨m - 1, by omega⟩
    show f3_b4 j3 _ _ _ _ _ _ _ w Q
    unfold f3_b4
    have : ¬ (k : Int) < (i : Int) := by omega
    simp only [↓bx_e, ↓al_e, ↓fa_e, ↓ld_e, ↓ad_e, ↓su_e, ↓mu_e, ↓lt_e, ↓le_e, ↓gt_e, ↓ge_e, ↓eqi_e, ↓nei_e, ↓qu_e, ↓re_e, ↓cv_e, ↓nt_e, ↓pk_t, ↓pk_f, ↓pk_e, ↓eqb_e, ↓neb_e, ↓nc_e, ↓ex_e, ↓lnl_e, ↓lns_e, ↓idv_e, ↓cl_e, ↓cnd_e, ↓gd_e, ↓gd_u, ↓gdu_e, ↓rt_e, ↓jn_e, ↓dr_q, ↓kp_e, ↓mnm_e, ↓mxm_e, ↓mif_e, ↓asrt_e, ↓eqs_e, ↓nes_e, Value.cells, add_lit, cell_psh_new, cell_drw, Nat.zero_add, Nat.reduceAdd, get4_0, get4_1, get4_2, get4_3, get3_0, get3_1, get3_2, get2_0, get2_1, get1_0, Option.some.injEq, exists_eq_left', decide_true, decide_false, decide_eq_true_eq, if_true, if_false, Bool.not_true, Bool.not_false, Bool.false_eq_true, Bool.true_eq_false, Bool.not_eq_true', decide_eq_false_iff_not, not_false_eq_true, not_true_eq_false, reduceCtorEq, bx_e, al_e, fa_e, ld_e, ad_e, su_e, mu_e, lt_e, le_e, gt_e, ge_e, eqi_e, nei_e, qu_e, re_e, cv_e, nt_e, pk_t, pk_f, pk_e, eqb_e, neb_e, nc_e, ex_e, lnl_e, lns_e, idv_e, cl_e, cnd_e, gd_e, gd_u, gdu_e, rt_e, jn_e, dr_q, kp_e, mnm_e, mxm_e, mif_e, asrt_e, eqs_e, nes_e, cond_true, cond_false, Bool.true_and, Bool.and_true, Bool.false_and, Bool.and_false, decide_not, this]
    exact k1 w rfl hb (fun x hx hkx => by omega)
  | succ d ih =>
    intro m k w hk hm hb k0 k1
    obtain ⟨m, rfl⟩ : ∃ x, m = x + 1 := ⟨m - 1, by omega⟩
    show f3_b4 j3 _ _ _ _ _ _ _ w Q
    unfold f3_b4
    have hlt : (k : Int) < (i : Int) := by omega
    have hkl : k < l.length := by omega
    obtain ⟨ad, hc, hia⟩ := op_at hr hkl
    obtain ⟨ad', hc', hia'⟩ := op_at hr hi
    have hb' : Below W.heap.size W (drw w) := Below_drw hb
    simp only [↓bx_e, ↓al_e, ↓fa_e, ↓ld_e, ↓ad_e, ↓su_e, ↓mu_e, ↓lt_e, ↓le_e, ↓gt_e, ↓ge_e, ↓eqi_e, ↓nei_e, ↓qu_e, ↓re_e, ↓cv_e, ↓nt_e, ↓pk_t, ↓pk_f, ↓pk_e, ↓eqb_e, ↓neb_e, ↓nc_e, ↓ex_e, ↓lnl_e, ↓lns_e, ↓idv_e, ↓cl_e, ↓cnd_e, ↓gd_e, ↓gd_u, ↓gdu_e, ↓rt_e, ↓jn_e, ↓dr_q, ↓kp_e, ↓mnm_e, ↓mxm_e, ↓mif_e, ↓asrt_e, ↓eqs_e, ↓nes_e, Value.cells, add_lit, cell_psh_new, cell_drw, Nat.zero_add, Nat.reduceAdd, get4_0, get4_1, get4_2, get4_3, get3_0, get3_1, get3_2, get2_0, get2_1, get1_0, Option.some.injEq, exists_eq_left', decide_true, decide_false, decide_eq_true_eq, if_true, if_false, Bool.not_true, Bool.not_false, Bool.false_eq_true, Bool.true_eq_false, Bool.not_eq_true', decide_eq_false_iff_not, not_false_eq_true, not_true_eq_false, reduceCtorEq, bx_e, al_e, fa_e, ld_e, ad_e, su_e, mu_e, lt_e, le_e, gt_e, ge_e, eqi_e, nei_e, qu_e, re_e, cv_e, nt_e, pk_t, pk_f, pk_e, eqb_e, neb_e, nc_e, ex_e, lnl_e, lns_e, idv_e, cl_e, cnd_e, gd_e, gd_u, gdu_e, rt_e, jn_e, dr_q, kp_e, mnm_e, mxm_e, mif_e, asrt_e, eqs_e, nes_e, cond_true, cond_false, Bool.true_and, Bool.and_true, Bool.false_and, Bool.and_false, decide_not, hlt, hia, hia', c1_at (hc _ hb'), c1_at (hc' _ hb')]
    by_cases c : l[k].id = l[i].id
    · simp only [↓bx_e, ↓al_e, ↓fa_e, ↓ld_e, ↓ad_e, ↓su_e, ↓mu_e, ↓lt_e, ↓le_e, ↓gt_e, ↓ge_e, ↓eqi_e, ↓nei_e, ↓qu_e, ↓re_e, ↓cv_e, ↓nt_e, ↓pk_t, ↓pk_f, ↓pk_e, ↓eqb_e, ↓neb_e, ↓nc_e, ↓ex_e, ↓lnl_e, ↓lns_e, ↓idv_e, ↓cl_e, ↓cnd_e, ↓gd_e, ↓gd_u, ↓gdu_e, ↓rt_e, ↓jn_e, ↓dr_q, ↓kp_e, ↓mnm_e, ↓mxm_e, ↓mif_e, ↓asrt_e, ↓eqs_e, ↓nes_e, Value.cells, add_lit, cell_psh_new, cell_drw, Nat.zero_add, Nat.reduceAdd, get4_0, get4_1, get4_2, get4_3, get3_0, get3_1, get3_2, get2_0, get2_1, get1_0, Option.some.injEq, exists_eq_left', decide_true, decide_false, decide_eq_true_eq, if_true, if_false, Bool.not_true, Bool.not_false, Bool.false_eq_true, Bool.true_eq_false, Bool.not_eq_true', decide_eq_false_iff_not, not_false_eq_true, not_true_eq_false, reduceCtorEq, bx_e, al_e, fa_e, ld_e, ad_e, su_e, mu_e, lt_e, le_e, gt_e, ge_e, eqi_e, nei_e, qu_e, re_e, cv_e, nt_e, pk_t, pk_f, pk_e, eqb_e, neb_e, nc_e, ex_e, lnl_e, lns_e, idv_e, cl_e, cnd_e, gd_e, gd_u, gdu_e, rt_e, jn_e, dr_q, kp_e, mnm_e, mxm_e, mif_e, asrt_e, eqs_e, nes_e, cond_true, cond_false, Bool.true_and, Bool.and_true, Bool.false_and, Bool.and_false, decide_not, c]
      exact k0 (drw w) rfl hb'
    · have h3 : IntKind.i64.wrap ((k : Int) + 1) = ((k + 1 : Nat) : Int) := by rw [w64 (by omega) (by omega)]; rfl
      simp only [↓bx_e, ↓al_e, ↓fa_e, ↓ld_e, ↓ad_e, ↓su_e, ↓mu_e, ↓lt_e, ↓le_e, ↓gt_e, ↓ge_e, ↓eqi_e, ↓nei_e, ↓qu_e, ↓re_e, ↓cv_e, ↓nt_e, ↓pk_t, ↓pk_f, ↓pk_e, ↓eqb_e, ↓neb_e, ↓nc_e, ↓ex_e, ↓lnl_e, ↓lns_e, ↓idv_e, ↓cl_e, ↓cnd_e, ↓gd_e, ↓gd_u, ↓gdu_e, ↓rt_e, ↓jn_e, ↓dr_q, ↓kp_e, ↓mnm_e, ↓mxm_e, ↓mif_e, ↓asrt_e, ↓eqs_e, ↓nes_e, Value.cells, add_lit, cell_psh_new, cell_drw, Nat.zero_add, Nat.reduceAdd, get4_0, get4_1, get4_2, get4_3, get3_0, get3_1, get3_2, get2_0, get2_1, get1_0, Option.some.injEq, exists_eq_left', decide_true, decide_false, decide_eq_true_eq, if_true, if_false, Bool.not_true, Bool.not_false, Bool.false_eq_true, Bool.true_eq_false, Bool.not_eq_true', decide_eq_false_iff_not, not_false_eq_true, not_true_eq_false, reduceCtorEq, bx_e, al_e, fa_e, ld_e, ad_e, su_e, mu_e, lt_e, le_e, gt_e, ge_e, eqi_e, nei_e, qu_e, re_e, cv_e, nt_e, pk_t, pk_f, pk_e, eqb_e, neb_e, nc_e, ex_e, lnl_e, lns_e, idv_e, cl_e, cnd_e, gd_e, gd_u, gdu_e, rt_e, jn_e, dr_q, kp_e, mnm_e, mxm_e, mif_e, asrt_e, eqs_e, nes_e, cond_true, cond_false, Bool.true_and, Bool.and_true, Bool.false_and, Bool.and_false, decide_not, c, h3]
      refine ih m (k + 1) (drw w) (by omega) (by omega) hb' k0 ?_
      intro w' e1 e2 e3
      refine k1 w' e1 e2 fun x hx hkx => ?_
      by_cases ex : x = k
      · subst ex; exact c
      · exact e3 x hx (by omega)
theorem outer_uni (j1 : Value → Value → Value → Value → M) (hr : rdS 3 oR W v l) (hl : l.length ≤ 300) {nv a b : Value} : ∀ (d m i : Nat) (w : World), i + d = l.length → d < m → Below W.heap.size W w →
    (∀ x y (hx : x < l.length) (hy : y < l.length), y < i → x < y → l[x].id ≠ l[y].id) →
    (∀ w', w'.heap = w.heap → Below W.heap.size W w' → Q (.bool true) w') → (∀ w', w'.heap = w.heap → Below W.heap.size W w' → (∀ x y (hx : x < l.length) (hy : y < l.length), x < y → l[x].id ≠ l[y].id) → j1 v nv a b w' Q) →
    itr (fun _ _ _ _ _ => bot) (f3_b2 j1) m v nv a b (.int .i64 (i : Int)) w Q := by
  intro d
  induction d with
  | zero =>
    intro m i w hi hm hb hu k0 k1
    obtain ⟨m, rfl⟩ : ∃ x, m = x + 1 := ⟨m - 1, by omega⟩
    show f3_b2 j1 _ _ _ _ _ _ w Q
    unfold f3_b2
    refine lnl_S hr ?_
    have : ¬ (i : Int) < l.length := by omega
    simp only [↓bx_e, ↓al_e, ↓fa_e, ↓ld_e, ↓ad_e, ↓su_e, ↓mu_e, ↓lt_e, ↓le_e, ↓gt_e, ↓ge_e, ↓eqi_e, ↓nei_e, ↓qu_e, ↓re_e, ↓cv_e, ↓nt_e, ↓pk_t, ↓pk_f, ↓pk_e, ↓eqb_e, ↓neb_e, ↓nc_e, ↓ex_e, ↓lnl_e, ↓lns_e, ↓idv_e, ↓cl_e, ↓cnd_e, ↓gd_e, ↓gd_u, ↓gdu_e, ↓rt_e, ↓jn_e, ↓dr_q, ↓kp_e, ↓mnm_e, ↓mxm_e, ↓mif_e, ↓asrt_e, ↓eqs_e, ↓nes_e, Value.cells, add_lit, cell_psh_new, cell_drw, Nat.zero_add, Nat.reduceAdd, get4_0, get4_1, get4_2, get4_3, get3_0, get3_1, get3_2, get2_0, get2_1, get1_0, Option.some.injEq, exists_eq_left', decide_true, decide_false, decide_eq_true_eq, if_true, if_false, Bool.not_true, Bool.not_false, Bool.false_eq_true, Bool.true_eq_false, Bool.not_eq_true', decide_eq_false_iff_not, not_false_eq_true, not_true_eq_false, reduceCtorEq, bx_e, al_e, fa_e, ld_e, ad_e, su_e, mu_e, lt_e, le_e, gt_e, ge_e, eqi_e, nei_e, qu_e, re_e, cv_e, nt_e, pk_t, pk_f, pk_e, eqb_e, neb_e, nc_e, ex_e, lnl_e, lns_e, idv_e, cl_e, cnd_e, gd_e, gd_u, gdu_e, rt_e, jn_e, dr_q, kp_e, mnm_e, mxm_e, mif_e, asrt_e, eqs_e, nes_e, cond_true, cond_false, Bool.true_and, Bool.and_true, Bool.false_and, Bool.and_false, decide_not, this]
    exact k1 w rfl hb (fun x y hx hy hxy => hu x y hx hy (by omega) hxy)
  | succ d ih =>
    intro m i w hi hm hb hu k0 k1
    obtain ⟨m, rfl⟩ : ∃ x, m = x + 1 := ⟨m - 1, by omega⟩
    show f3_b2 j1 _ _ _ _ _ _ w Q
    unfold f3_b2
    refine lnl_S hr ?_
    have hlt : (i : Int) < l.length := by omega
    have hil : i < l.length := by omega
    have h3 : IntKind.i64.wrap ((i : Int) + 1) = ((i + 1 : Nat) : Int) := by rw [w64 (by omega) (by omega)]; rfl
    simp only [↓bx_e, ↓al_e, ↓fa_e, ↓ld_e, ↓ad_e, ↓su_e, ↓mu_e, ↓lt_e, ↓le_e, ↓gt_e, ↓ge_e, ↓eqi_e, ↓nei_e, ↓qu_e, ↓re_e, ↓cv_e, ↓nt_e, ↓pk_t, ↓pk_f, ↓pk_e, ↓eqb_e, ↓neb_e, ↓nc_e, ↓ex_e, ↓lnl_e, ↓lns_e, ↓idv_e, ↓cl_e, ↓cnd_e, ↓gd_e, ↓gd_u, ↓gdu_e, ↓rt_e, ↓jn_e, ↓dr_q, ↓kp_e, ↓mnm_e, ↓mxm_e, ↓mif_e, ↓asrt_e, ↓eqs_e, ↓nes_e, Value.cells, add_lit, cell_psh_new, cell_drw, Nat.zero_add, Nat.reduceAdd, get4_0, get4_1, get4_2, get4_3, get3_0, get3_1, get3_2, get2_0, get2_1, get1_0, Option.some.injEq, exists_eq_left', decide_true, decide_false, decide_eq_true_eq, if_true, if_false, Bool.not_true, Bool.not_false, Bool.false_eq_true, Bool.true_eq_false, Bool.not_eq_true', decide_eq_false_iff_not, not_false_eq_true, not_true_eq_false, reduceCtorEq, bx_e, al_e, fa_e, ld_e, ad_e, su_e, mu_e, lt_e, le_e, gt_e, ge_e, eqi_e, nei_e, qu_e, re_e, cv_e, nt_e, pk_t, pk_f, pk_e, eqb_e, neb_e, nc_e, ex_e, lnl_e, lns_e, idv_e, cl_e, cnd_e, gd_e, gd_u, gdu_e, rt_e, jn_e, dr_q, kp_e, mnm_e, mxm_e, mif_e, asrt_e, eqs_e, nes_e, cond_true, cond_false, Bool.true_and, Bool.and_true, Bool.false_and, Bool.and_false, decide_not, hlt]
    refine ⟨_, inner_uni _ hr hl hil i (i + 1) 0 w (Nat.zero_add _) (Nat.lt_succ_self _) hb k0 ?_⟩
    intro w' e1 e2 e3
    unfold f3_j3
    simp only [↓bx_e, ↓al_e, ↓fa_e, ↓ld_e, ↓ad_e, ↓su_e, ↓mu_e, ↓lt_e, ↓le_e, ↓gt_e, ↓ge_e, ↓eqi_e, ↓nei_e, ↓qu_e, ↓re_e, ↓cv_e, ↓nt_e, ↓pk_t, ↓pk_f, ↓pk_e, ↓eqb_e, ↓neb_e, ↓nc_e, ↓ex_e, ↓lnl_e, ↓lns_e, ↓idv_e, ↓cl_e, ↓cnd_e, ↓gd_e, ↓gd_u, ↓gdu_e, ↓rt_e, ↓jn_e, ↓dr_q, ↓kp_e, ↓mnm_e, ↓mxm_e, ↓mif_e, ↓asrt_e, ↓eqs_e, ↓nes_e, Value.cells, add_lit, cell_psh_new, cell_drw, Nat.zero_add, Nat.reduceAdd, get4_0, get4_1, get4_2, get4_3, get3_0, get3_1, get3_2, get2_0, get2_1, get1_0, Option.some.injEq, exists_eq_left', decide_true, decide_false, decide_eq_true_eq, if_true, if_false, Bool.not_true, Bool.not_false, Bool.false_eq_true, Bool.true_eq_false, Bool.not_eq_true', decide_eq_false_iff_not, not_false_eq_true, not_true_eq_false, reduceCtorEq, bx_e, al_e, fa_e, ld_e, ad_e, su_e, mu_e, lt_e, le_e, gt_e, ge_e, eqi_e, nei_e, qu_e, re_e, cv_e, nt_e, pk_t, pk_f, pk_e, eqb_e, neb_e, nc_e, ex_e, lnl_e, lns_e, idv_e, cl_e, cnd_e, gd_e, gd_u, gdu_e, rt_e, jn_e, dr_q, kp_e, mnm_e, mxm_e, mif_e, asrt_e, eqs_e, nes_e, cond_true, cond_false, Bool.true_and, Bool.and_true, Bool.false_and, Bool.and_false, decide_not, h3]
    refine ih m (i + 1) w' (by omega) (by omega) e2 ?_ (fun w'' a b => k0 w'' (a.trans e1) b) (fun w'' a b c => k1 w'' (a.trans e1) b c)
    intro x y hx hy hyi hxy
    by_cases ey : y = i
    · subst ey; exact e3 x hxy (Nat.zero_le _)
    · exact hu x y hx hy (by omega) hxy
end
/-! the two -/
theorem rm_no {R : List Pr} {id : Int} (h : id ∉ R.map (·.2)) : rm R id = R :=
  List.filter_eq_self.2 (fun y hy => by simpa using fun e : y.2 = id => h (List.mem_map.2 ⟨y, hy, e⟩))
/-- two timers side by side -/
structure Two (W w : World) (p q : Nat) (R S : List Pr) (F G : Nat → Prop) : Prop where
  a : TS W.heap.size w p R F
  b : TS W.heap.size w q S G
  d : ∀ k, F k → ¬ G k
theorem Two.setA {W w w' : World} {p q : Nat} {R S R' : List Pr} {F G F' : Nat → Prop} (h : Two W w p q R S F G) (ha : TS W.heap.size w' p R' F') (hc : ChgS F w w') (hf : ∀ k, F' k → F k ∨ w.heap.size ≤ k) : Two W w' p q R' S F' G :=
  ⟨ha, h.b.chg hc (fun k hg hf => h.d k hf hg), fun k hk hg => (hf k hk).elim (fun hf => h.d k hf hg) (fun hf => by have := (h.b.ge k hg).2; omega)⟩
theorem Two.setB {W w w' : World} {p q : Nat} {R S S' : List Pr} {F G G' : Nat → Prop} (h : Two W w p q R S F G) (hb : TS W.heap.size w' q S' G') (hc : ChgS G w w') (hf : ∀ k, G' k → G k ∨ w.heap.size ≤ k) : Two W w' p q R S' F G' :=
  ⟨h.a.chg hc (fun k hf hg => h.d k hf hg), hb, fun k hk hg => (hf k hg).elim (fun hg => h.d k hk hg) (fun hg => by have := (h.a.ge k hk).2; omega)⟩
theorem Two.below {W w w' : World} {p q : Nat} {R S : List Pr} {F G : Nat → Prop} (h : Two W w p q R S F G) (hb : Below w.heap.size w w') : Two W w' p q R S F G := ⟨h.a.below hb, h.b.below hb, h.d⟩
section
variable {Q : Value → World → Prop} {W : World} {v : Value} {l : List Op3}
theorem ids_nodup {l : List Op3} (h : ∀ x y (hx : x < l.length) (hy : y < l.length), x < y → l[x].id ≠ l[y].id) : (l.map (·.id)).Nodup := by
  rw [List.nodup_iff_pairwise_ne, List.pairwise_map, List.pairwise_iff_getElem]
  exact fun i j hi hj hij => h i j hi hj hij
theorem not_in_take {l : List Op3} (h : (l.map (·.id)).Nodup) {i : Nat} (hi : i < l.length) : l[i].id ∉ (l.take i).map (·.id) := by
  intro hm
  obtain ⟨o, ho, e⟩ := List.mem_map.1 hm
  obtain ⟨x, hx, ex⟩ := List.mem_iff_getElem.1 ho
  have hx' : x < i := by simp at hx; omega
  have e1 : (l.map (·.id))[x]? = some l[i].id := by
    rw [List.getElem?_map, List.getElem?_eq_getElem (show x < l.length by omega), Option.map_some]
    rw [← e, ← ex]; simp
  have e2 : (l.map (·.id))[i]? = some l[i].id := by simp [hi]
  have h9 : x = i := (List.getElem?_inj (by rw [List.length_map]; omega) h).1 (e1.trans e2.symm)
  omega
/-- a step's pair behind others -/
theorem ins_more {R : List Pr} {l : List Op3} (hn : (l.map (·.id)).Nodup) {o : Op3} (hp : R.Perm (l.map op2)) (ho : o.id ∉ l.map (·.id)) : (ins (op2 o) (rm R o.id)).Perm ((o :: l).map op2) := by
  have hid : o.id ∉ R.map (·.2) := by
    intro hm
    have := (hp.map (·.2)).mem_iff.1 hm
    rw [List.map_map] at this
    exact ho this
  rw [rm_no hid]
  refine (ins_perm _ _).trans ?_
  rw [List.map_cons]
  exact hp.cons _
theorem sets_loop (j5 : Value → Value → Value → Value → M) (hr : rdS 3 oR W v l) (hl : l.length ≤ 300) {nv : Value} {p q : Nat} (hn : (l.map (·.id)).Nodup) : ∀ (d m i : Nat) (w : World) (R S : List Pr) (F G : Nat → Prop), i + d = l.length → d < m → Below W.heap.size W w →
    Two W w p q R S F G → R.Perm ((l.take i).map op2) → S.Perm ((l.reverse.take i).map op2) →
    (∀ w' R S F G, Below W.heap.size W w' → Two W w' p q R S F G → R.Perm (l.map op2) → S.Perm (l.reverse.map op2) → j5 v nv (pv p) (pv q) w' Q) →
    itr (fun _ _ _ _ _ => bot) (f3_b6 j5) m v nv (pv p) (pv q) (.int .i64 (i : Int)) w Q := by
  intro d
  induction d with
  | zero =>
    intro m i w R S F G hi hm hb ht hR hS kk
    obtain ⟨m, rfl⟩ : ∃ x, m = x + 1 := ⟨m - 1, by omega⟩
    show f3_b6 j5 _ _ _ _ _ _ w Q
    unfold f3_b6
    refine lnl_S hr ?_
    have : ¬ (i : Int) < l.length := by omega
    simp only [↓bx_e, ↓al_e, ↓fa_e, ↓ld_e, ↓ad_e, ↓su_e, ↓mu_e, ↓lt_e, ↓le_e, ↓gt_e, ↓ge_e, ↓eqi_e, ↓nei_e, ↓qu_e, ↓re_e, ↓cv_e, ↓nt_e, ↓pk_t, ↓pk_f, ↓pk_e, ↓eqb_e, ↓neb_e, ↓nc_e, ↓ex_e, ↓lnl_e, ↓lns_e, ↓idv_e, ↓cl_e, ↓cnd_e, ↓gd_e, ↓gd_u, ↓gdu_e, ↓rt_e, ↓jn_e, ↓dr_q, ↓kp_e, ↓mnm_e, ↓mxm_e, ↓mif_e, ↓asrt_e, ↓eqs_e, ↓nes_e, Value.cells, add_lit, cell_psh_new, cell_drw, Nat.zero_add, Nat.reduceAdd, get4_0, get4_1, get4_2, get4_3, get3_0, get3_1, get3_2, get2_0, get2_1, get1_0, Option.some.injEq, exists_eq_left', decide_true, decide_false, decide_eq_true_eq, if_true, if_false, Bool.not_true, Bool.not_false, Bool.false_eq_true, Bool.true_eq_false, Bool.not_eq_true', decide_eq_false_iff_not, not_false_eq_true, not_true_eq_false, reduceCtorEq, bx_e, al_e, fa_e, ld_e, ad_e, su_e, mu_e, lt_e, le_e, gt_e, ge_e, eqi_e, nei_e, qu_e, re_e, cv_e, nt_e, pk_t, pk_f, pk_e, eqb_e, neb_e, nc_e, ex_e, lnl_e, lns_e, idv_e, cl_e, cnd_e, gd_e, gd_u, gdu_e, rt_e, jn_e, dr_q, kp_e, mnm_e, mxm_e, mif_e, asrt_e, eqs_e, nes_e, cond_true, cond_false, Bool.true_and, Bool.and_true, Bool.false_and, Bool.and_false, decide_not, this]
    rw [List.take_of_length_le (by omega)] at hR
    rw [List.take_of_length_le (by rw [List.length_reverse]; omega)] at hS
    exact kk w R S F G hb ht hR hS
  | succ d ih =>
    intro m i w R S F G hi hm hb ht hR hS kk
    obtain ⟨m, rfl⟩ : ∃ x, m = x + 1 := ⟨m - 1, by omega⟩
    show f3_b6 j5 _ _ _ _ _ _ w Q
    unfold f3_b6
    refine lnl_S hr ?_
    have hlt : (i : Int) < l.length := by omega
    have hil : i < l.length := by omega
    have hjl : l.length - 1 - i < l.length := by omega
    obtain ⟨ad, hc, hia⟩ := op_at hr hil
    obtain ⟨ad', hc', hia'⟩ := op_at hr hjl
    have hb' : Below W.heap.size W (drw w) := Below_drw hb
    have ht' : Two W (drw w) p q R S F G := ht.below (Below_drw (Below.refl _ _))
    simp only [↓bx_e, ↓al_e, ↓fa_e, ↓ld_e, ↓ad_e, ↓su_e, ↓mu_e, ↓lt_e, ↓le_e, ↓gt_e, ↓ge_e, ↓eqi_e, ↓nei_e, ↓qu_e, ↓re_e, ↓cv_e, ↓nt_e, ↓pk_t, ↓pk_f, ↓pk_e, ↓eqb_e, ↓neb_e, ↓nc_e, ↓ex_e, ↓lnl_e, ↓lns_e, ↓idv_e, ↓cl_e, ↓cnd_e, ↓gd_e, ↓gd_u, ↓gdu_e, ↓rt_e, ↓jn_e, ↓dr_q, ↓kp_e, ↓mnm_e, ↓mxm_e, ↓mif_e, ↓asrt_e, ↓eqs_e, ↓nes_e, Value.cells, add_lit, cell_psh_new, cell_drw, Nat.zero_add, Nat.reduceAdd, get4_0, get4_1, get4_2, get4_3, get3_0, get3_1, get3_2, get2_0, get2_1, get1_0, Option.some.injEq, exists_eq_left', decide_true, decide_false, decide_eq_true_eq, if_true, if_false, Bool.not_true, Bool.not_false, Bool.false_eq_true, Bool.true_eq_false, Bool.not_eq_true', decide_eq_false_iff_not, not_false_eq_true, not_true_eq_false, reduceCtorEq, bx_e, al_e, fa_e, ld_e, ad_e, su_e, mu_e, lt_e, le_e, gt_e, ge_e, eqi_e, nei_e, qu_e, re_e, cv_e, nt_e, pk_t, pk_f, pk_e, eqb_e, neb_e, nc_e, ex_e, lnl_e, lns_e, idv_e, cl_e, cnd_e, gd_e, gd_u, gdu_e, rt_e, jn_e, dr_q, kp_e, mnm_e, mxm_e, mif_e, asrt_e, eqs_e, nes_e, cond_true, cond_false, Bool.true_and, Bool.and_true, Bool.false_and, Bool.and_false, decide_not, hlt, hia, c1_at (hc _ hb'), c2_at (hc _ hb')]
    generalize drw w = w1 at *
    have hRl : R.length ≤ 300 := by rw [hR.length_eq]; simp; omega
    have hSl : S.length ≤ 300 := by rw [hS.length_eq]; simp; omega
    refine tset_s ht'.a _ _ (by omega) fun w2 F2 h2 c2 f2 => ?_
    have b2 := bs hb' (fun k hk => (ht'.a.ge k hk).1) hb'.size c2
    have ht2 := ht'.setA h2 c2 f2
    refine lnl_S hr ?_
    have e1 : IntKind.i64.wrap ((l.length : Int) - 1) = ((l.length - 1 : Nat) : Int) := by rw [w64 (by omega) (by omega)]; omega
    have e2 : IntKind.i64.wrap (((l.length - 1 : Nat) : Int) - (i : Int)) = ((l.length - 1 - i : Nat) : Int) := by rw [w64 (by omega) (by omega)]; omega
    simp only [↓bx_e, ↓al_e, ↓fa_e, ↓ld_e, ↓ad_e, ↓su_e, ↓mu_e, ↓lt_e, ↓le_e, ↓gt_e, ↓ge_e, ↓eqi_e, ↓nei_e, ↓qu_e, ↓re_e, ↓cv_e, ↓nt_e, ↓pk_t, ↓pk_f, ↓pk_e, ↓eqb_e, ↓neb_e, ↓nc_e, ↓ex_e, ↓lnl_e, ↓lns_e, ↓idv_e, ↓cl_e, ↓cnd_e, ↓gd_e, ↓gd_u, ↓gdu_e, ↓rt_e, ↓jn_e, ↓dr_q, ↓kp_e, ↓mnm_e, ↓mxm_e, ↓mif_e, ↓asrt_e, ↓eqs_e, ↓nes_e, Value.cells, add_lit, cell_psh_new, cell_drw, Nat.zero_add, Nat.reduceAdd, get4_0, get4_1, get4_2, get4_3, get3_0, get3_1, get3_2, get2_0, get2_1, get1_0, Option.some.injEq, exists_eq_left', decide_true, decide_false, decide_eq_true_eq, if_true, if_false, Bool.not_true, Bool.not_false, Bool.false_eq_true, Bool.true_eq_false, Bool.not_eq_true', decide_eq_false_iff_not, not_false_eq_true, not_true_eq_false, reduceCtorEq, bx_e, al_e, fa_e, ld_e, ad_e, su_e, mu_e, lt_e, le_e, gt_e, ge_e, eqi_e, nei_e, qu_e, re_e, cv_e, nt_e, pk_t, pk_f, pk_e, eqb_e, neb_e, nc_e, ex_e, lnl_e, lns_e, idv_e, cl_e, cnd_e, gd_e, gd_u, gdu_e, rt_e, jn_e, dr_q, kp_e, mnm_e, mxm_e, mif_e, asrt_e, eqs_e, nes_e, cond_true, cond_false, Bool.true_and, Bool.and_true, Bool.false_and, Bool.and_false, decide_not, e1, e2, hia']
    refine ldn_at (hc' _ b2) rfl ?_
    simp only [↓al_e]
    have hx := blk_psh_new (w := w2) (o := .cells #[.int .i64 0, .int .i64 0, .int .i64 0] 28)
    have hb3 := b_psh w2 (.cells #[.int .i64 0, .int .i64 0, .int .i64 0] 28)
    have b3 := bt b2 hb3
    have ht3 := ht2.below hb3
    have hsz := b2.size
    generalize psh w2 (.cells #[.int .i64 0, .int .i64 0, .int .i64 0] 28) = w3 at *
    refine stn_box (cs := l[l.length - 1 - i].cells.toArray) hx rfl rfl (by simp [Op3.cells, Value.oneCell']) fun w4 hx hu4 => ?_
    have c4 : ChgS (fun k => k = w2.heap.size) w3 w4 := .of_upd hu4 rfl
    have b4 := b3.trans (hu4.below hsz)
    have ht4 : Two W w4 p q (ins (l[i].till, l[i].id) (rm R l[i].id)) S F2 G := ⟨ht3.a.chg c4 (fun k hk e => by have := (ht2.a.ge k hk).2; omega), ht3.b.chg c4 (fun k hk e => by have := (ht2.b.ge k hk).2; omega), ht3.d⟩
    have x1 : w4.cell? ⟨w2.heap.size, 1, none⟩ = some (.int .i64 l[l.length - 1 - i].id) := cell_of_blk (n := 1) hx
    have x2 : w4.cell? ⟨w2.heap.size, 2, none⟩ = some (.int .i64 l[l.length - 1 - i].till) := cell_of_blk (n := 2) hx
    simp only [↓bx_e, ↓al_e, ↓fa_e, ↓ld_e, ↓ad_e, ↓su_e, ↓mu_e, ↓lt_e, ↓le_e, ↓gt_e, ↓ge_e, ↓eqi_e, ↓nei_e, ↓qu_e, ↓re_e, ↓cv_e, ↓nt_e, ↓pk_t, ↓pk_f, ↓pk_e, ↓eqb_e, ↓neb_e, ↓nc_e, ↓ex_e, ↓lnl_e, ↓lns_e, ↓idv_e, ↓cl_e, ↓cnd_e, ↓gd_e, ↓gd_u, ↓gdu_e, ↓rt_e, ↓jn_e, ↓dr_q, ↓kp_e, ↓mnm_e, ↓mxm_e, ↓mif_e, ↓asrt_e, ↓eqs_e, ↓nes_e, Value.cells, add_lit, cell_psh_new, cell_drw, Nat.zero_add, Nat.reduceAdd, get4_0, get4_1, get4_2, get4_3, get3_0, get3_1, get3_2, get2_0, get2_1, get1_0, Option.some.injEq, exists_eq_left', decide_true, decide_false, decide_eq_true_eq, if_true, if_false, Bool.not_true, Bool.not_false, Bool.false_eq_true, Bool.true_eq_false, Bool.not_eq_true', decide_eq_false_iff_not, not_false_eq_true, not_true_eq_false, reduceCtorEq, bx_e, al_e, fa_e, ld_e, ad_e, su_e, mu_e, lt_e, le_e, gt_e, ge_e, eqi_e, nei_e, qu_e, re_e, cv_e, nt_e, pk_t, pk_f, pk_e, eqb_e, neb_e, nc_e, ex_e, lnl_e, lns_e, idv_e, cl_e, cnd_e, gd_e, gd_u, gdu_e, rt_e, jn_e, dr_q, kp_e, mnm_e, mxm_e, mif_e, asrt_e, eqs_e, nes_e, cond_true, cond_false, Bool.true_and, Bool.and_true, Bool.false_and, Bool.and_false, decide_not, x1, x2]
    refine tset_s ht4.b _ _ (by omega) fun w5 G5 h5 c5 f5 => ?_
    have b5 := bs b4 (fun k hk => (ht4.b.ge k hk).1) b4.size c5
    have ht5 := ht4.setB h5 c5 f5
    have h3 : IntKind.i64.wrap ((i : Int) + 1) = ((i + 1 : Nat) : Int) := by rw [w64 (by omega) (by omega)]; rfl
    simp only [↓bx_e, ↓al_e, ↓fa_e, ↓ld_e, ↓ad_e, ↓su_e, ↓mu_e, ↓lt_e, ↓le_e, ↓gt_e, ↓ge_e, ↓eqi_e, ↓nei_e, ↓qu_e, ↓re_e, ↓cv_e, ↓nt_e, ↓pk_t, ↓pk_f, ↓pk_e, ↓eqb_e, ↓neb_e, ↓nc_e, ↓ex_e, ↓lnl_e, ↓lns_e, ↓idv_e, ↓cl_e, ↓cnd_e, ↓gd_e, ↓gd_u, ↓gdu_e, ↓rt_e, ↓jn_e, ↓dr_q, ↓kp_e, ↓mnm_e, ↓mxm_e, ↓mif_e, ↓asrt_e, ↓eqs_e, ↓nes_e, Value.cells, add_lit, cell_psh_new, cell_drw, Nat.zero_add, Nat.reduceAdd, get4_0, get4_1, get4_2, get4_3, get3_0, get3_1, get3_2, get2_0, get2_1, get1_0, Option.some.injEq, exists_eq_left', decide_true, decide_false, decide_eq_true_eq, if_true, if_false, Bool.not_true, Bool.not_false, Bool.false_eq_true, Bool.true_eq_false, Bool.not_eq_true', decide_eq_false_iff_not, not_false_eq_true, not_true_eq_false, reduceCtorEq, bx_e, al_e, fa_e, ld_e, ad_e, su_e, mu_e, lt_e, le_e, gt_e, ge_e, eqi_e, nei_e, qu_e, re_e, cv_e, nt_e, pk_t, pk_f, pk_e, eqb_e, neb_e, nc_e, ex_e, lnl_e, lns_e, idv_e, cl_e, cnd_e, gd_e, gd_u, gdu_e, rt_e, jn_e, dr_q, kp_e, mnm_e, mxm_e, mif_e, asrt_e, eqs_e, nes_e, cond_true, cond_false, Bool.true_and, Bool.and_true, Bool.false_and, Bool.and_false, decide_not, h3]
    refine ih m (i + 1) w5 _ _ _ _ (by omega) (by omega) b5 ht5 ?_ ?_ kk
    · have := ins_more (l := l.take i) (o := l[i]) (hn.sublist ((List.take_sublist _ _).map _)) hR (not_in_take hn hil)
      refine this.trans ?_
      rw [List.take_succ_eq_append_getElem hil]
      exact (List.perm_append_comm (l₁ := [l[i]])).map _
    · have hrl : i < l.reverse.length := by rw [List.length_reverse]; exact hil
      have hrn : (l.reverse.map (·.id)).Nodup := ((List.reverse_perm l).map _).nodup_iff.2 hn
      have hre : l.reverse[i] = l[l.length - 1 - i] := by rw [List.getElem_reverse]
      have := ins_more (l := l.reverse.take i) (o := l.reverse[i]) (hrn.sublist ((List.take_sublist _ _).map _)) hS (not_in_take hrn hrl)
      rw [hre] at this
      refine this.trans ?_
      rw [List.take_succ_eq_append_getElem hrl, hre]
      exact (List.perm_append_comm (l₁ := [l[l.length - 1 - i]])).map _
end
end Go.Proofs.Ytpjffilejnemmaa
