/- TimersOnce at the level of predicate transformers. -/
import Derived.Test.YtpjffilejnemmaaT9
set_option linter.unusedVariables false
set_option linter.unusedSimpArgs false
set_option linter.unusedSectionVars false
namespace Go.Proofs.Ytpjffilejnemmaa
open Sh RowKit Go.MapKept

def kdO (o : Op3) : Nat := (IntKind.u64.wrap o.kind % 3).toNat
theorem kdO_lt (o : Op3) : kdO o < 3 := by unfold kdO; omega
theorem f14_s (o : Op3) (w : World) (Q : Value → World → Prop) (h : ∀ w', Below w.heap.size w w' → Q (.int .i64 (kdO o : Nat)) w') : f14 (.agg o.cells.toArray) w Q := by
  unfold f14
  have h := h _ (b_psh w (.cells (Value.agg o.cells.toArray).cells 28))
  have e1 : (IntKind.u64.wrap o.kind).tmod 3 = ((kdO o : Nat) : Int) := by
    rw [Int.tmod_eq_emod_of_nonneg (by rw [wrap_u64]; omega)]
    unfold kdO; omega
  have e2 : IntKind.i64.wrap ((kdO o : Nat) : Int) = ((kdO o : Nat) : Int) := by have := kdO_lt o; exact w64 (by omega) (by omega)
  have c0 : (Value.agg o.cells.toArray).cells[0]? = some (.int .i64 o.kind) := rfl
  simp only [↓bx_e, fa_e, add_lit, ld_e, cell_psh_new, c0, Nat.add_zero, Option.some.injEq, exists_eq_left', cv_e, re_e, e1, e2, rt_e, ne_eq]
  exact ⟨by decide, h⟩
theorem ia_ldn {k j : IntKind} {w : World} {v : Value} {l : List Int} {i : Nat} {K : Value → M} {Q : Value → World → Prop} (h : rdI k w v l) (hi : i < l.length) (kk : K (.int k l[i]) w Q) : ia 1 v (.int j (i : Int)) (fun p => ld p K) w Q :=
  ia_ld h (by omega) (by omega) fun _ => kk
/-- an element's place and value, in whatever world -/
theorem rdI_at {k : IntKind} {w : World} {v : Value} {l : List Int} (h : rdI k w v l) {i : Nat} (hi : i < l.length) : ∃ a : Addr, w.cell? a = some (.int k l[i]) ∧ ∀ (j : IntKind) (K : Value → M) (w' : World) (Q : Value → World → Prop), ia 1 v (.int j (i : Int)) K w' Q = K (.pointer (some a)) w' Q := by
  obtain ⟨p, c, rfl, h⟩ := h
  obtain ⟨a, rfl, hc⟩ := h i hi
  refine ⟨a.add i, hc, fun j K w' Q => ?_⟩
  rw [ia_e, Int.toNat_natCast, Nat.mul_one]
  apply propext
  constructor
  · rintro ⟨_, _, h⟩; exact h
  · intro h; exact ⟨by omega, by omega, h⟩
/-- how often a number is in a list -/
def cnt (x : Int) (l : List Int) : Nat := (l.filter (fun y => decide (y = x))).length
theorem cnt_take {x : Int} {l : List Int} {j : Nat} (hj : j < l.length) : cnt x (l.take (j + 1)) = cnt x (l.take j) + (if l[j] = x then 1 else 0) := by
  unfold cnt
  rw [List.take_succ_eq_append_getElem hj, List.filter_append, List.length_append]
  congr 1
  by_cases c : l[j] = x <;> simp [c]
theorem cnt_le (x : Int) (l : List Int) : cnt x l ≤ l.length := List.length_filter_le _ _
section
variable {Q : Value → World → Prop}
theorem cnt_loop (j6 : Value → Value → Value → Value → Value → Value → Value → Value → Value → Value → Value → M) {W : World} {vd vi : Value} {D I : List Int} (hd : rdI .i64 W vd D) (hi : rdI .i64 W vi I) (hD : D.length ≤ 1000000) {k : Nat} (hk : k < I.length) {a1 a2 a3 a4 a5 a6 a7 : Value} :
    ∀ (d m j : Nat) (w : World), j + d = D.length → d < m → Below W.heap.size W w →
    (∀ w', w'.heap = w.heap → Below W.heap.size W w' → j6 a1 a2 vi a3 a4 a5 vd a6 a7 (.int .i64 (k : Int)) (.int .i64 (cnt I[k] D : Nat)) w' Q) →
    itr (fun _ _ _ _ _ _ _ _ _ _ _ _ => bot) (f4_b7 j6) m a1 a2 vi a3 a4 a5 vd a6 a7 (.int .i64 (k : Int)) (.int .i64 (cnt I[k] (D.take j) : Nat)) (.int .i64 (j : Int)) w Q := by
  intro d
  induction d with
  | zero =>
    intro m j w hj hm hb kk
    obtain ⟨m, rfl⟩ : ∃ x, m = x + 1 := ⟨m - 1, by omega⟩
    show f4_b7 j6 _ _ _ _ _ _ _ _ _ _ _ _ _ w Q
    unfold f4_b7
    refine lnl_rd hd ?_
    have : ¬ (j : Int) < D.length := by omega
    simp only [↓bx_e, ↓al_e, ↓fa_e, ↓ld_e, ↓ad_e, ↓su_e, ↓mu_e, ↓lt_e, ↓le_e, ↓gt_e, ↓ge_e, ↓eqi_e, ↓nei_e, ↓qu_e, ↓re_e, ↓cv_e, ↓nt_e, ↓pk_t, ↓pk_f, ↓pk_e, ↓eqb_e, ↓neb_e, ↓nc_e, ↓ex_e, ↓lnl_e, ↓lns_e, ↓idv_e, ↓cl_e, ↓cnd_e, ↓gd_e, ↓gd_u, ↓gdu_e, ↓rt_e, ↓jn_e, ↓dr_q, ↓kp_e, ↓mnm_e, ↓mxm_e, ↓mif_e, ↓asrt_e, ↓eqs_e, ↓nes_e, Value.cells, add_lit, cell_psh_new, cell_drw, Nat.zero_add, Nat.reduceAdd, get4_0, get4_1, get4_2, get4_3, get3_0, get3_1, get3_2, get2_0, get2_1, get1_0, Option.some.injEq, exists_eq_left', decide_true, decide_false, decide_eq_true_eq, if_true, if_false, Bool.not_true, Bool.not_false, Bool.false_eq_true, Bool.true_eq_false, Bool.not_eq_true', decide_eq_false_iff_not, not_false_eq_true, not_true_eq_false, reduceCtorEq, bx_e, al_e, fa_e, ld_e, ad_e, su_e, mu_e, lt_e, le_e, gt_e, ge_e, eqi_e, nei_e, qu_e, re_e, cv_e, nt_e, pk_t, pk_f, pk_e, eqb_e, neb_e, nc_e, ex_e, lnl_e, lns_e, idv_e, cl_e, cnd_e, gd_e, gd_u, gdu_e, rt_e, jn_e, dr_q, kp_e, mnm_e, mxm_e, mif_e, asrt_e, eqs_e, nes_e, cond_true, cond_false, Bool.true_and, Bool.and_true, Bool.false_and, Bool.and_false, decide_not, this]
    rw [List.take_of_length_le (by omega)]
    exact kk w rfl hb
  | succ d ih =>
    intro m j w hj hm hb kk
    obtain ⟨m, rfl⟩ : ∃ x, m = x + 1 := ⟨m - 1, by omega⟩
    show f4_b7 j6 _ _ _ _ _ _ _ _ _ _ _ _ _ w Q
    unfold f4_b7
    refine lnl_rd hd ?_
    have hlt : (j : Int) < D.length := by omega
    have hjl : j < D.length := by omega
    obtain ⟨ad, hc, hia⟩ := rdI_at hd hjl
    obtain ⟨ai, hc', hia'⟩ := rdI_at hi hk
    have hb' : Below W.heap.size W (drw w) := Below_drw hb
    have g1 := cell_below hb' hc
    have g2 := cell_below hb' hc'
    have h3 : IntKind.i64.wrap ((j : Int) + 1) = ((j + 1 : Nat) : Int) := by rw [w64 (by omega) (by omega)]; rfl
    have hcl := cnt_le I[k] (D.take j)
    have hcl2 : (D.take j).length ≤ D.length := by rw [List.length_take]; omega
    have h4 : IntKind.i64.wrap (((cnt I[k] (D.take j) : Nat) : Int) + 1) = ((cnt I[k] (D.take j) + 1 : Nat) : Int) := by rw [w64 (by omega) (by omega)]; rfl
    have hct := cnt_take (x := I[k]) hjl
    simp only [↓bx_e, ↓al_e, ↓fa_e, ↓ld_e, ↓ad_e, ↓su_e, ↓mu_e, ↓lt_e, ↓le_e, ↓gt_e, ↓ge_e, ↓eqi_e, ↓nei_e, ↓qu_e, ↓re_e, ↓cv_e, ↓nt_e, ↓pk_t, ↓pk_f, ↓pk_e, ↓eqb_e, ↓neb_e, ↓nc_e, ↓ex_e, ↓lnl_e, ↓lns_e, ↓idv_e, ↓cl_e, ↓cnd_e, ↓gd_e, ↓gd_u, ↓gdu_e, ↓rt_e, ↓jn_e, ↓dr_q, ↓kp_e, ↓mnm_e, ↓mxm_e, ↓mif_e, ↓asrt_e, ↓eqs_e, ↓nes_e, Value.cells, add_lit, cell_psh_new, cell_drw, Nat.zero_add, Nat.reduceAdd, get4_0, get4_1, get4_2, get4_3, get3_0, get3_1, get3_2, get2_0, get2_1, get1_0, Option.some.injEq, exists_eq_left', decide_true, decide_false, decide_eq_true_eq, if_true, if_false, Bool.not_true, Bool.not_false, Bool.false_eq_true, Bool.true_eq_false, Bool.not_eq_true', decide_eq_false_iff_not, not_false_eq_true, not_true_eq_false, reduceCtorEq, bx_e, al_e, fa_e, ld_e, ad_e, su_e, mu_e, lt_e, le_e, gt_e, ge_e, eqi_e, nei_e, qu_e, re_e, cv_e, nt_e, pk_t, pk_f, pk_e, eqb_e, neb_e, nc_e, ex_e, lnl_e, lns_e, idv_e, cl_e, cnd_e, gd_e, gd_u, gdu_e, rt_e, jn_e, dr_q, kp_e, mnm_e, mxm_e, mif_e, asrt_e, eqs_e, nes_e, cond_true, cond_false, Bool.true_and, Bool.and_true, Bool.false_and, Bool.and_false, decide_not, hlt, hia, hia', g1, g2]
    by_cases c : D[j] = I[k]
    · simp only [↓bx_e, ↓al_e, ↓fa_e, ↓ld_e, ↓ad_e, ↓su_e, ↓mu_e, ↓lt_e, ↓le_e, ↓gt_e, ↓ge_e, ↓eqi_e, ↓nei_e, ↓qu_e, ↓re_e, ↓cv_e, ↓nt_e, ↓pk_t, ↓pk_f, ↓pk_e, ↓eqb_e, ↓neb_e, ↓nc_e, ↓ex_e, ↓lnl_e, ↓lns_e, ↓idv_e, ↓cl_e, ↓cnd_e, ↓gd_e, ↓gd_u, ↓gdu_e, ↓rt_e, ↓jn_e, ↓dr_q, ↓kp_e, ↓mnm_e, ↓mxm_e, ↓mif_e, ↓asrt_e, ↓eqs_e, ↓nes_e, Value.cells, add_lit, cell_psh_new, cell_drw, Nat.zero_add, Nat.reduceAdd, get4_0, get4_1, get4_2, get4_3, get3_0, get3_1, get3_2, get2_0, get2_1, get1_0, Option.some.injEq, exists_eq_left', decide_true, decide_false, decide_eq_true_eq, if_true, if_false, Bool.not_true, Bool.not_false, Bool.false_eq_true, Bool.true_eq_false, Bool.not_eq_true', decide_eq_false_iff_not, not_false_eq_true, not_true_eq_false, reduceCtorEq, bx_e, al_e, fa_e, ld_e, ad_e, su_e, mu_e, lt_e, le_e, gt_e, ge_e, eqi_e, nei_e, qu_e, re_e, cv_e, nt_e, pk_t, pk_f, pk_e, eqb_e, neb_e, nc_e, ex_e, lnl_e, lns_e, idv_e, cl_e, cnd_e, gd_e, gd_u, gdu_e, rt_e, jn_e, dr_q, kp_e, mnm_e, mxm_e, mif_e, asrt_e, eqs_e, nes_e, cond_true, cond_false, Bool.true_and, Bool.and_true, Bool.false_and, Bool.and_false, decide_not, c, h4]
      unfold f4_j8
      have hct' : cnt I[k] (D.take j) + 1 = cnt I[k] (D.take (j + 1)) := by rw [hct, if_pos c]
      rw [hct']
      simp only [↓bx_e, ↓al_e, ↓fa_e, ↓ld_e, ↓ad_e, ↓su_e, ↓mu_e, ↓lt_e, ↓le_e, ↓gt_e, ↓ge_e, ↓eqi_e, ↓nei_e, ↓qu_e, ↓re_e, ↓cv_e, ↓nt_e, ↓pk_t, ↓pk_f, ↓pk_e, ↓eqb_e, ↓neb_e, ↓nc_e, ↓ex_e, ↓lnl_e, ↓lns_e, ↓idv_e, ↓cl_e, ↓cnd_e, ↓gd_e, ↓gd_u, ↓gdu_e, ↓rt_e, ↓jn_e, ↓dr_q, ↓kp_e, ↓mnm_e, ↓mxm_e, ↓mif_e, ↓asrt_e, ↓eqs_e, ↓nes_e, Value.cells, add_lit, cell_psh_new, cell_drw, Nat.zero_add, Nat.reduceAdd, get4_0, get4_1, get4_2, get4_3, get3_0, get3_1, get3_2, get2_0, get2_1, get1_0, Option.some.injEq, exists_eq_left', decide_true, decide_false, decide_eq_true_eq, if_true, if_false, Bool.not_true, Bool.not_false, Bool.false_eq_true, Bool.true_eq_false, Bool.not_eq_true', decide_eq_false_iff_not, not_false_eq_true, not_true_eq_false, reduceCtorEq, bx_e, al_e, fa_e, ld_e, ad_e, su_e, mu_e, lt_e, le_e, gt_e, ge_e, eqi_e, nei_e, qu_e, re_e, cv_e, nt_e, pk_t, pk_f, pk_e, eqb_e, neb_e, nc_e, ex_e, lnl_e, lns_e, idv_e, cl_e, cnd_e, gd_e, gd_u, gdu_e, rt_e, jn_e, dr_q, kp_e, mnm_e, mxm_e, mif_e, asrt_e, eqs_e, nes_e, cond_true, cond_false, Bool.true_and, Bool.and_true, Bool.false_and, Bool.and_false, decide_not, h3]
      exact ih m (j + 1) (drw w) (by omega) (by omega) hb' (fun w' e b => kk w' e b)
    · simp only [↓bx_e, ↓al_e, ↓fa_e, ↓ld_e, ↓ad_e, ↓su_e, ↓mu_e, ↓lt_e, ↓le_e, ↓gt_e, ↓ge_e, ↓eqi_e, ↓nei_e, ↓qu_e, ↓re_e, ↓cv_e, ↓nt_e, ↓pk_t, ↓pk_f, ↓pk_e, ↓eqb_e, ↓neb_e, ↓nc_e, ↓ex_e, ↓lnl_e, ↓lns_e, ↓idv_e, ↓cl_e, ↓cnd_e, ↓gd_e, ↓gd_u, ↓gdu_e, ↓rt_e, ↓jn_e, ↓dr_q, ↓kp_e, ↓mnm_e, ↓mxm_e, ↓mif_e, ↓asrt_e, ↓eqs_e, ↓nes_e, Value.cells, add_lit, cell_psh_new, cell_drw, Nat.zero_add, Nat.reduceAdd, get4_0, get4_1, get4_2, get4_3, get3_0, get3_1, get3_2, get2_0, get2_1, get1_0, Option.some.injEq, exists_eq_left', decide_true, decide_false, decide_eq_true_eq, if_true, if_false, Bool.not_true, Bool.not_false, Bool.false_eq_true, Bool.true_eq_false, Bool.not_eq_true', decide_eq_false_iff_not, not_false_eq_true, not_true_eq_false, reduceCtorEq, bx_e, al_e, fa_e, ld_e, ad_e, su_e, mu_e, lt_e, le_e, gt_e, ge_e, eqi_e, nei_e, qu_e, re_e, cv_e, nt_e, pk_t, pk_f, pk_e, eqb_e, neb_e, nc_e, ex_e, lnl_e, lns_e, idv_e, cl_e, cnd_e, gd_e, gd_u, gdu_e, rt_e, jn_e, dr_q, kp_e, mnm_e, mxm_e, mif_e, asrt_e, eqs_e, nes_e, cond_true, cond_false, Bool.true_and, Bool.and_true, Bool.false_and, Bool.and_false, decide_not, c]
      unfold f4_j8
      have hct' : cnt I[k] (D.take j) = cnt I[k] (D.take (j + 1)) := by rw [hct, if_neg c]; rfl
      rw [hct']
      simp only [↓bx_e, ↓al_e, ↓fa_e, ↓ld_e, ↓ad_e, ↓su_e, ↓mu_e, ↓lt_e, ↓le_e, ↓gt_e, ↓ge_e, ↓eqi_e, ↓nei_e, ↓qu_e, ↓re_e, ↓cv_e, ↓nt_e, ↓pk_t, ↓pk_f, ↓pk_e, ↓eqb_e, ↓neb_e, ↓nc_e, ↓ex_e, ↓lnl_e, ↓lns_e, ↓idv_e, ↓cl_e, ↓cnd_e, ↓gd_e, ↓gd_u, ↓gdu_e, ↓rt_e, ↓jn_e, ↓dr_q, ↓kp_e, ↓mnm_e, ↓mxm_e, ↓mif_e, ↓asrt_e, ↓eqs_e, ↓nes_e, Value.cells, add_lit, cell_psh_new, cell_drw, Nat.zero_add, Nat.reduceAdd, get4_0, get4_1, get4_2, get4_3, get3_0, get3_1, get3_2, get2_0, get2_1, get1_0, Option.some.injEq, exists_eq_left', decide_true, decide_false, decide_eq_true_eq, if_true, if_false, Bool.not_true, Bool.not_false, Bool.false_eq_true, Bool.true_eq_false, Bool.not_eq_true', decide_eq_false_iff_not, not_false_eq_true, not_true_eq_false, reduceCtorEq, bx_e, al_e, fa_e, ld_e, ad_e, su_e, mu_e, lt_e, le_e, gt_e, ge_e, eqi_e, nei_e, qu_e, re_e, cv_e, nt_e, pk_t, pk_f, pk_e, eqb_e, neb_e, nc_e, ex_e, lnl_e, lns_e, idv_e, cl_e, cnd_e, gd_e, gd_u, gdu_e, rt_e, jn_e, dr_q, kp_e, mnm_e, mxm_e, mif_e, asrt_e, eqs_e, nes_e, cond_true, cond_false, Bool.true_and, Bool.and_true, Bool.false_and, Bool.and_false, decide_not, h3]
      exact ih m (j + 1) (drw w) (by omega) (by omega) hb' (fun w' e b => kk w' e b)
/-- what is left behind a Due -/
def leftP (P : List Pr) (t : Int) : List Pr := P.filter (fun x => decide (t < x.1))
theorem leftP_succ {P : List Pr} {t : Int} {k : Nat} (hk : k < P.length) : leftP (P.take (k + 1)) t = leftP (P.take k) t ++ (if t < P[k].1 then [P[k]] else []) := by
  unfold leftP
  rw [List.take_succ_eq_append_getElem hk, List.filter_append]
  congr 1
  by_cases c : t < P[k].1 <;> simp [c]
/-- the two rows in memory -/
structure PP (B : Nat) (w : World) (vi vt : Value) (P : List Pr) : Prop where
  i : ownI B 3 .i64 w vi (P.map (·.2))
  t : ownI B 2 .i64 w vt (P.map (·.1))
theorem PP.below {B : Nat} {w w' : World} {vi vt : Value} {P : List Pr} (h : PP B w vi vt P) (hb : Below w.heap.size w w') : PP B w' vi vt P := ⟨ownI_below h.i hb, ownI_below h.t hb⟩
theorem PP.heap {B : Nat} {w w' : World} {vi vt : Value} {P : List Pr} (h : PP B w vi vt P) (hb : w'.heap = w.heap) (hb2 : Below w.heap.size w w') : PP B w' vi vt P := h.below hb2
theorem PP.nil {B : Nat} {w : World} : PP B w (.slice none 0 0) (.slice none 0 0) [] := ⟨ownI_nil, ownI_nil⟩
theorem PP.weak {B B' : Nat} {w : World} {vi vt : Value} {P : List Pr} (h : PP B w vi vt P) (hB : B' ≤ B) : PP B' w vi vt P := ⟨ownI_weak h.i hB, ownI_weak h.t hB⟩
/-- a pair more in both rows -/
theorem two_ap {B : Nat} {w : World} {vi vt vT : Value} {k : Int} {P : List Pr} {x : Pr} {K : Value → Value → M} (h : PP B w vi vt P) (hl : P.length + 1 ≤ 1000000) (hB : B ≤ w.heap.size) {at' : Addr} (hw : w.cell? at' = some (.int .i64 x.1)) (hat : at'.block < B)
    (hia : ∀ (K : Value → M) (w' : World) (Q : Value → World → Prop), ia 1 vT (.int .i64 k) K w' Q = K (.pointer (some at')) w' Q)
    (kk : ∀ vi' vt' w', PP B w' vi' vt' (P ++ [x]) → Below B w w' → K vi' vt' w' Q) :
    sm Try.prog (Instr.buildSlice 32 1 #[(0, .int .i64 x.2)]) (fun t93 => sm Try.prog (Builtin.append_ #[32, 32] 32 #[vi, t93]) fun t94 => ia 1 vT (.int .i64 k) fun t98 => ld t98 fun t99 => sm Try.prog (Instr.buildSlice 36 1 #[(0, t99)]) fun t100 => sm Try.prog (Builtin.append_ #[36, 36] 36 #[vt, t100]) fun t101 => K t94 t101) w Q := by
  refine ap_one (b := 8) slt32 h.i (by simp; omega) (by simp; omega) hB fun v1 w1 o1 b1 ot hq => ?_
  have ht1 := ot B 2 .i64 vt _ (by decide) h.t
  rw [hia, ld_e]
  refine ⟨.int .i64 x.1, ?_, ?_⟩
  · rw [b1.cell hat]; exact hw
  · refine ap_one (b := 8) slt36 ht1 (by simp; omega) (by simp; omega) (Nat.le_trans hB b1.size) fun v2 w2 o2 b2 ot2 hq2 => ?_
    refine kk v1 v2 w2 ⟨?_, ?_⟩ (b1.trans b2)
    · have := ot2 B 3 .i64 v1 _ (by decide) o1
      simpa using this
    · simpa using o2
end
end Go.Proofs.Ytpjffilejnemmaa
