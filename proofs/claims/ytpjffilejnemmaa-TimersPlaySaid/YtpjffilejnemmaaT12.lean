/- TimersOnce, its end. -/
import Derived.Test.YtpjffilejnemmaaT11
set_option maxHeartbeats 1000000
set_option linter.unusedVariables false
set_option linter.unusedSimpArgs false
set_option linter.unusedSectionVars false
namespace Go.Proofs.Ytpjffilejnemmaa
open Sh RowKit Go.MapKept

theorem due_filter {R : List Pr} (h : R.Pairwise ltP) (T : Int) : R.takeWhile (fun x => decide (x.1 ≤ T)) = R.filter (fun x => decide (x.1 ≤ T)) ∧ restL R T = leftP R T := by
  induction R with
  | nil => exact ⟨rfl, rfl⟩
  | cons x r ih =>
    obtain ⟨h1, h2⟩ := List.pairwise_cons.1 h
    obtain ⟨i1, i2⟩ := ih h2
    unfold restL leftP at *
    by_cases c : x.1 ≤ T
    · have c' : ¬ T < x.1 := by omega
      simp only [List.takeWhile_cons, List.dropWhile_cons, List.filter_cons, c, c', decide_true, decide_false, if_true, if_false, Bool.false_eq_true, i1, i2]
      constructor <;> first | trivial | rfl
    · have c' : T < x.1 := by omega
      have e1 : r.filter (fun x => decide (x.1 ≤ T)) = [] := by
        rw [List.filter_eq_nil_iff]
        intro y hy
        have := h1 y hy
        unfold ltP at this
        simp; omega
      have e2 : r.filter (fun x => decide (T < x.1)) = r := by
        rw [List.filter_eq_self]
        intro y hy
        have := h1 y hy
        unfold ltP at this
        simp; omega
      simp only [List.takeWhile_cons, List.dropWhile_cons, List.filter_cons, c, c', decide_true, decide_false, if_true, if_false, Bool.false_eq_true, e1, e2]
      constructor <;> first | trivial | rfl
theorem filt_one : ∀ {P : List Pr} {x : Pr}, P.Nodup → x ∈ P → (P.filter (fun a => decide (a = x))).length = 1
  | y :: P, x, hn, hx => by
    rw [List.nodup_cons] at hn
    rw [List.filter_cons]
    by_cases c : y = x
    · subst c
      have : P.filter (fun a => decide (a = y)) = [] := by
        rw [List.filter_eq_nil_iff]
        intro z hz
        have : z ≠ y := fun e => hn.1 (e ▸ hz)
        simpa using this
      simp [this]
    · have hx' : x ∈ P := (List.mem_cons.1 hx).elim (fun e => absurd e.symm c) id
      simp only [c, decide_false, Bool.false_eq_true, if_false]
      exact filt_one hn.2 hx'
theorem cnt_due {R P : List Pr} (hs : Srt R) (hp : R.Perm P) (T : Int) (k : Nat) (hk : k < P.length) : cnt P[k].2 (dueL R T) = if P[k].1 ≤ T then 1 else 0 := by
  unfold dueL cnt
  rw [(due_filter hs.1 T).1]
  have h1 : ((R.filter (fun x => decide (x.1 ≤ T))).map (·.2)).Perm ((P.filter (fun x => decide (x.1 ≤ T))).map (·.2)) := (hp.filter _).map _
  rw [(h1.filter _).length_eq]
  have hn : (P.map (·.2)).Nodup := (hp.map _).nodup_iff.1 hs.2
  rw [List.filter_map, List.length_map, List.filter_filter]
  have hpk : P[k] ∈ P := List.getElem_mem hk
  -- only this one has this number
  have huniq : ∀ x ∈ P, x.2 = P[k].2 → x = P[k] := by
    intro x hx e
    obtain ⟨a, ha, ea⟩ := List.mem_iff_getElem.1 hx
    have e1 : (P.map (·.2))[a]? = some P[k].2 := by simp [ha, ea, e]
    have e2 : (P.map (·.2))[k]? = some P[k].2 := by simp [hk]
    have : a = k := (List.getElem?_inj (by rw [List.length_map]; exact ha) hn).1 (e1.trans e2.symm)
    subst this
    exact ea.symm
  by_cases c : P[k].1 ≤ T
  · rw [if_pos c]
    have : P.filter (fun a => ((fun y => decide (y = P[k].2)) ∘ fun x => x.2) a && decide (a.1 ≤ T)) = P.filter (fun a => decide (a = P[k])) := by
      apply List.filter_congr
      intro x hx
      rw [Bool.eq_iff_iff]
      simp only [Function.comp_apply, Bool.and_eq_true, decide_eq_true_eq]
      constructor
      · rintro ⟨a, _⟩; exact huniq x hx a
      · intro e; rw [e]; exact ⟨rfl, c⟩
    rw [this]
    exact filt_one (List.Pairwise.of_map (·.2) (fun a b hab e => hab (by rw [e])) hn) hpk
  · rw [if_neg c]
    rw [List.length_eq_zero_iff, List.filter_eq_nil_iff]
    intro x hx
    simp only [Function.comp_apply, Bool.and_eq_true, decide_eq_true_eq, not_and]
    intro e
    rw [huniq x hx e]
    exact c
theorem due_sum {R P : List Pr} (hs : Srt R) (hp : R.Perm P) (T : Int) : (dueL R T).length + (leftP P T).length = P.length := by
  have h1 := dueL_len R T
  rw [(due_filter hs.1 T).2] at h1
  have h2 : (leftP R T).length = (leftP P T).length := (hp.filter _).length_eq
  have h3 := hp.length_eq
  omega
section
variable {Q : Value → World → Prop} {W : World} {v : Value} {l : List Op3}
theorem PP.chg {B : Nat} {w w' : World} {vi vt : Value} {P : List Pr} {p : Nat} {R : List Pr} {F : Nat → Prop} (h : PP B w vi vt P) (hc : ChgS F w w') (ht : TS W.heap.size w p R F) : PP B w' vi vt P :=
  ⟨ownI_chgS h.i hc (ownI_off h.i ht (by decide)), ownI_chgS h.t hc (ownI_off h.t ht (by decide))⟩
theorem blk_chg {w w' : World} {p b : Nat} {R : List Pr} {F : Nat → Prop} {c : Array Value} (ht : TS W.heap.size w p R F) (hc : ChgS F w w') (h : w.heap[b]? = some (.cells c 28 (0, 0))) : w'.heap[b]? = some (.cells c 28 (0, 0)) := by
  refine hc.keep h fun hF => ?_
  obtain ⟨o, h1, h2⟩ := ht.kind b hF
  rw [h] at h1
  cases h1
  rcases h2 with h | h | h <;> cases h
theorem once_loop (j1 : Value → Value → M) (hr : rdS 3 oR W v l) (hl : l.length ≤ 300) {p : Nat} : ∀ (d m i : Nat) (w : World) (vi vt : Value) (P R : List Pr) (F : Nat → Prop), i + d = l.length → d < m → Below W.heap.size W w →
    TS W.heap.size w p R F → PP W.heap.size w vi vt P → R.Perm P → P.length ≤ i →
    (∀ w' vi vt P R F, Below W.heap.size W w' → TS W.heap.size w' p R F → PP W.heap.size w' vi vt P → R.Perm P → j1 (pv p) vi w' Q) →
    itr (fun _ _ _ _ _ => bot) (f4_b2 j1) m v (pv p) vi vt (.int .i64 (i : Int)) w Q := by
  intro d
  induction d with
  | zero =>
    intro m i w vi vt P R F hi hm hb ht hp hRP hPi kk
    obtain ⟨m, rfl⟩ : ∃ x, m = x + 1 := ⟨m - 1, by omega⟩
    show f4_b2 j1 _ _ _ _ _ _ w Q
    unfold f4_b2
    refine lnl_S hr ?_
    have : ¬ (i : Int) < l.length := by omega
    simp only [↓bx_e, ↓al_e, ↓fa_e, ↓ld_e, ↓ad_e, ↓su_e, ↓mu_e, ↓lt_e, ↓le_e, ↓gt_e, ↓ge_e, ↓eqi_e, ↓nei_e, ↓qu_e, ↓re_e, ↓cv_e, ↓nt_e, ↓pk_t, ↓pk_f, ↓pk_e, ↓eqb_e, ↓neb_e, ↓nc_e, ↓ex_e, ↓lnl_e, ↓lns_e, ↓idv_e, ↓cl_e, ↓cnd_e, ↓gd_e, ↓gd_u, ↓gdu_e, ↓rt_e, ↓jn_e, ↓dr_q, ↓kp_e, ↓mnm_e, ↓mxm_e, ↓mif_e, ↓asrt_e, ↓eqs_e, ↓nes_e, Value.cells, add_lit, cell_psh_new, cell_drw, Nat.zero_add, Nat.reduceAdd, get4_0, get4_1, get4_2, get4_3, get3_0, get3_1, get3_2, get2_0, get2_1, get1_0, Option.some.injEq, exists_eq_left', decide_true, decide_false, decide_eq_true_eq, if_true, if_false, Bool.not_true, Bool.not_false, Bool.false_eq_true, Bool.true_eq_false, Bool.not_eq_true', decide_eq_false_iff_not, not_false_eq_true, not_true_eq_false, reduceCtorEq, bx_e, al_e, fa_e, ld_e, ad_e, su_e, mu_e, lt_e, le_e, gt_e, ge_e, eqi_e, nei_e, qu_e, re_e, cv_e, nt_e, pk_t, pk_f, pk_e, eqb_e, neb_e, nc_e, ex_e, lnl_e, lns_e, idv_e, cl_e, cnd_e, gd_e, gd_u, gdu_e, rt_e, jn_e, dr_q, kp_e, mnm_e, mxm_e, mif_e, asrt_e, eqs_e, nes_e, cond_true, cond_false, Bool.true_and, Bool.and_true, Bool.false_and, Bool.and_false, decide_not, this]
    exact kk w vi vt P R F hb ht hp hRP
  | succ d ih =>
    intro m i w vi vt P R F hi hm hb ht hp hRP hPi kk
    obtain ⟨m, rfl⟩ : ∃ x, m = x + 1 := ⟨m - 1, by omega⟩
    show f4_b2 j1 _ _ _ _ _ _ w Q
    unfold f4_b2
    refine lnl_S hr ?_
    have hlt : (i : Int) < l.length := by omega
    have hil : i < l.length := by omega
    obtain ⟨ad, hc, hia⟩ := op_at hr hil
    obtain ⟨o, ho⟩ : ∃ o, l[i] = o := ⟨_, rfl⟩
    rw [ho] at hc
    have hPR := hRP.length_eq
    have h3 : IntKind.i64.wrap ((i : Int) + 1) = ((i + 1 : Nat) : Int) := by rw [w64 (by omega) (by omega)]; rfl
    -- the end of a round
    have fin : ∀ (w' : World) (vi vt : Value) (P R : List Pr) (F : Nat → Prop), Below W.heap.size W w' → TS W.heap.size w' p R F → PP W.heap.size w' vi vt P → R.Perm P → P.length ≤ i + 1 →
        f4_j3 (itr (fun _ _ _ _ _ => bot) (f4_b2 j1) m) v (pv p) vi vt (.int .i64 (i : Int)) w' Q := by
      intro w' vi vt P R F a1 a2 a3 a4 a5
      unfold f4_j3
      simp only [↓bx_e, ↓al_e, ↓fa_e, ↓ld_e, ↓ad_e, ↓su_e, ↓mu_e, ↓lt_e, ↓le_e, ↓gt_e, ↓ge_e, ↓eqi_e, ↓nei_e, ↓qu_e, ↓re_e, ↓cv_e, ↓nt_e, ↓pk_t, ↓pk_f, ↓pk_e, ↓eqb_e, ↓neb_e, ↓nc_e, ↓ex_e, ↓lnl_e, ↓lns_e, ↓idv_e, ↓cl_e, ↓cnd_e, ↓gd_e, ↓gd_u, ↓gdu_e, ↓rt_e, ↓jn_e, ↓dr_q, ↓kp_e, ↓mnm_e, ↓mxm_e, ↓mif_e, ↓asrt_e, ↓eqs_e, ↓nes_e, Value.cells, add_lit, cell_psh_new, cell_drw, Nat.zero_add, Nat.reduceAdd, get4_0, get4_1, get4_2, get4_3, get3_0, get3_1, get3_2, get2_0, get2_1, get1_0, Option.some.injEq, exists_eq_left', decide_true, decide_false, decide_eq_true_eq, if_true, if_false, Bool.not_true, Bool.not_false, Bool.false_eq_true, Bool.true_eq_false, Bool.not_eq_true', decide_eq_false_iff_not, not_false_eq_true, not_true_eq_false, reduceCtorEq, bx_e, al_e, fa_e, ld_e, ad_e, su_e, mu_e, lt_e, le_e, gt_e, ge_e, eqi_e, nei_e, qu_e, re_e, cv_e, nt_e, pk_t, pk_f, pk_e, eqb_e, neb_e, nc_e, ex_e, lnl_e, lns_e, idv_e, cl_e, cnd_e, gd_e, gd_u, gdu_e, rt_e, jn_e, dr_q, kp_e, mnm_e, mxm_e, mif_e, asrt_e, eqs_e, nes_e, cond_true, cond_false, Bool.true_and, Bool.and_true, Bool.false_and, Bool.and_false, decide_not, h3]
      exact ih m (i + 1) w' vi vt P R F (by omega) (by omega) a1 a2 a3 a4 a5 kk
    simp only [↓bx_e, ↓al_e, ↓fa_e, ↓ld_e, ↓ad_e, ↓su_e, ↓mu_e, ↓lt_e, ↓le_e, ↓gt_e, ↓ge_e, ↓eqi_e, ↓nei_e, ↓qu_e, ↓re_e, ↓cv_e, ↓nt_e, ↓pk_t, ↓pk_f, ↓pk_e, ↓eqb_e, ↓neb_e, ↓nc_e, ↓ex_e, ↓lnl_e, ↓lns_e, ↓idv_e, ↓cl_e, ↓cnd_e, ↓gd_e, ↓gd_u, ↓gdu_e, ↓rt_e, ↓jn_e, ↓dr_q, ↓kp_e, ↓mnm_e, ↓mxm_e, ↓mif_e, ↓asrt_e, ↓eqs_e, ↓nes_e, Value.cells, add_lit, cell_psh_new, cell_drw, Nat.zero_add, Nat.reduceAdd, get4_0, get4_1, get4_2, get4_3, get3_0, get3_1, get3_2, get2_0, get2_1, get1_0, Option.some.injEq, exists_eq_left', decide_true, decide_false, decide_eq_true_eq, if_true, if_false, Bool.not_true, Bool.not_false, Bool.false_eq_true, Bool.true_eq_false, Bool.not_eq_true', decide_eq_false_iff_not, not_false_eq_true, not_true_eq_false, reduceCtorEq, bx_e, al_e, fa_e, ld_e, ad_e, su_e, mu_e, lt_e, le_e, gt_e, ge_e, eqi_e, nei_e, qu_e, re_e, cv_e, nt_e, pk_t, pk_f, pk_e, eqb_e, neb_e, nc_e, ex_e, lnl_e, lns_e, idv_e, cl_e, cnd_e, gd_e, gd_u, gdu_e, rt_e, jn_e, dr_q, kp_e, mnm_e, mxm_e, mif_e, asrt_e, eqs_e, nes_e, cond_true, cond_false, Bool.true_and, Bool.and_true, Bool.false_and, Bool.and_false, decide_not, hlt, hia]
    refine ldn_at (hc _ hb) rfl ?_
    simp only [↓al_e]
    have hx := blk_psh_new (w := w) (o := .cells #[.int .i64 0, .int .i64 0, .int .i64 0] 28)
    have hb1 := b_psh w (.cells #[.int .i64 0, .int .i64 0, .int .i64 0] 28)
    have b1 := bt hb hb1
    have ht1 := ht.below hb1
    have hp1 := hp.below hb1
    have hsz := hb.size
    generalize psh w (.cells #[.int .i64 0, .int .i64 0, .int .i64 0] 28) = w1 at *
    refine stn_box (cs := o.cells.toArray) hx rfl rfl (by simp [Op3.cells, Value.oneCell']) fun w2 h7 hu => ?_
    have b2 := b1.trans (hu.below hsz)
    have off : ∀ k, k < w.heap.size → w2.heap[k]? = w1.heap[k]? := fun k hk => hu.block k (by omega)
    have ht2 : TS W.heap.size w2 p R F := ht1.stay fun k hk => off k (ht.ge k hk).2
    have hp2 : PP W.heap.size w2 vi vt P := by
      have hch : Below w.heap.size w w2 := hb1.trans (hu.below (Nat.le_refl _))
      exact hp.below hch
    refine ldn_box h7 rfl ?_
    rw [cl_e]
    refine f14_s o _ _ fun w3 hb3 => ?_
    have b3 := bt b2 hb3
    have ht3 := ht2.below hb3
    have hp3 := hp2.below hb3
    have h7 := stay hb3 h7
    have hk := kdO_lt o
    by_cases ck : kdO o = 2
    · have e7 := cell_of_blk (n := 2) h7
      have e7 : w3.cell? ⟨w.heap.size, 2, none⟩ = some (.int .i64 o.till) := e7
      simp only [↓bx_e, ↓al_e, ↓fa_e, ↓ld_e, ↓ad_e, ↓su_e, ↓mu_e, ↓lt_e, ↓le_e, ↓gt_e, ↓ge_e, ↓eqi_e, ↓nei_e, ↓qu_e, ↓re_e, ↓cv_e, ↓nt_e, ↓pk_t, ↓pk_f, ↓pk_e, ↓eqb_e, ↓neb_e, ↓nc_e, ↓ex_e, ↓lnl_e, ↓lns_e, ↓idv_e, ↓cl_e, ↓cnd_e, ↓gd_e, ↓gd_u, ↓gdu_e, ↓rt_e, ↓jn_e, ↓dr_q, ↓kp_e, ↓mnm_e, ↓mxm_e, ↓mif_e, ↓asrt_e, ↓eqs_e, ↓nes_e, Value.cells, add_lit, cell_psh_new, cell_drw, Nat.zero_add, Nat.reduceAdd, get4_0, get4_1, get4_2, get4_3, get3_0, get3_1, get3_2, get2_0, get2_1, get1_0, Option.some.injEq, exists_eq_left', decide_true, decide_false, decide_eq_true_eq, if_true, if_false, Bool.not_true, Bool.not_false, Bool.false_eq_true, Bool.true_eq_false, Bool.not_eq_true', decide_eq_false_iff_not, not_false_eq_true, not_true_eq_false, reduceCtorEq, bx_e, al_e, fa_e, ld_e, ad_e, su_e, mu_e, lt_e, le_e, gt_e, ge_e, eqi_e, nei_e, qu_e, re_e, cv_e, nt_e, pk_t, pk_f, pk_e, eqb_e, neb_e, nc_e, ex_e, lnl_e, lns_e, idv_e, cl_e, cnd_e, gd_e, gd_u, gdu_e, rt_e, jn_e, dr_q, kp_e, mnm_e, mxm_e, mif_e, asrt_e, eqs_e, nes_e, cond_true, cond_false, Bool.true_and, Bool.and_true, Bool.false_and, Bool.and_false, decide_not, ck, show ((2 : Nat) : Int) = 2 from rfl, e7]
      refine due_s ht3 o.till (by omega) b3.size fun w4 F4 vd h4 c4 f4 o4 => ?_
      have b4 := bs b3 (fun k hk => (ht3.ge k hk).1) b3.size c4
      have hp4 : PP W.heap.size w4 vi vt P := hp3.chg c4 ht3
      have h7 := blk_chg ht3 c4 h7
      refine ⟨_, due_round _ (ownI_rd hp4.i) (ownI_rd hp4.t) (ownI_rd o4) h7 rfl (by have := dueL_len R o.till; omega) (by omega) (fun k hk => cnt_due ht3.srt hRP o.till k hk) P.length _ 0 w4 _ _ (Nat.zero_add _) (Nat.lt_succ_self _) (Below.refl _ _) PP.nil ?_⟩
      intro w5 v9 v10 hb5 hp5
      have b5 := bt b4 hb5
      unfold f4_j4
      have hlL : (leftP P o.till).length ≤ P.length := List.length_filter_le _ _
      have hsum := due_sum ht3.srt hRP o.till
      refine lnl_rd (ownI_rd o4) ?_
      refine lnl_rd (ownI_rd hp5.i) ?_
      rw [List.length_map]
      have e1 : IntKind.i64.wrap (((dueL R o.till).length : Int) + ((leftP P o.till).length : Int)) = (P.length : Int) := by rw [w64 (by omega) (by omega)]; omega
      simp only [↓bx_e, ↓al_e, ↓fa_e, ↓ld_e, ↓ad_e, ↓su_e, ↓mu_e, ↓lt_e, ↓le_e, ↓gt_e, ↓ge_e, ↓eqi_e, ↓nei_e, ↓qu_e, ↓re_e, ↓cv_e, ↓nt_e, ↓pk_t, ↓pk_f, ↓pk_e, ↓eqb_e, ↓neb_e, ↓nc_e, ↓ex_e, ↓lnl_e, ↓lns_e, ↓idv_e, ↓cl_e, ↓cnd_e, ↓gd_e, ↓gd_u, ↓gdu_e, ↓rt_e, ↓jn_e, ↓dr_q, ↓kp_e, ↓mnm_e, ↓mxm_e, ↓mif_e, ↓asrt_e, ↓eqs_e, ↓nes_e, Value.cells, add_lit, cell_psh_new, cell_drw, Nat.zero_add, Nat.reduceAdd, get4_0, get4_1, get4_2, get4_3, get3_0, get3_1, get3_2, get2_0, get2_1, get1_0, Option.some.injEq, exists_eq_left', decide_true, decide_false, decide_eq_true_eq, if_true, if_false, Bool.not_true, Bool.not_false, Bool.false_eq_true, Bool.true_eq_false, Bool.not_eq_true', decide_eq_false_iff_not, not_false_eq_true, not_true_eq_false, reduceCtorEq, bx_e, al_e, fa_e, ld_e, ad_e, su_e, mu_e, lt_e, le_e, gt_e, ge_e, eqi_e, nei_e, qu_e, re_e, cv_e, nt_e, pk_t, pk_f, pk_e, eqb_e, neb_e, nc_e, ex_e, lnl_e, lns_e, idv_e, cl_e, cnd_e, gd_e, gd_u, gdu_e, rt_e, jn_e, dr_q, kp_e, mnm_e, mxm_e, mif_e, asrt_e, eqs_e, nes_e, cond_true, cond_false, Bool.true_and, Bool.and_true, Bool.false_and, Bool.and_false, decide_not, e1]
      refine lnl_rd (ownI_rd hp4.i) ?_
      rw [List.length_map]
      simp only [↓bx_e, ↓al_e, ↓fa_e, ↓ld_e, ↓ad_e, ↓su_e, ↓mu_e, ↓lt_e, ↓le_e, ↓gt_e, ↓ge_e, ↓eqi_e, ↓nei_e, ↓qu_e, ↓re_e, ↓cv_e, ↓nt_e, ↓pk_t, ↓pk_f, ↓pk_e, ↓eqb_e, ↓neb_e, ↓nc_e, ↓ex_e, ↓lnl_e, ↓lns_e, ↓idv_e, ↓cl_e, ↓cnd_e, ↓gd_e, ↓gd_u, ↓gdu_e, ↓rt_e, ↓jn_e, ↓dr_q, ↓kp_e, ↓mnm_e, ↓mxm_e, ↓mif_e, ↓asrt_e, ↓eqs_e, ↓nes_e, Value.cells, add_lit, cell_psh_new, cell_drw, Nat.zero_add, Nat.reduceAdd, get4_0, get4_1, get4_2, get4_3, get3_0, get3_1, get3_2, get2_0, get2_1, get1_0, Option.some.injEq, exists_eq_left', decide_true, decide_false, decide_eq_true_eq, if_true, if_false, Bool.not_true, Bool.not_false, Bool.false_eq_true, Bool.true_eq_false, Bool.not_eq_true', decide_eq_false_iff_not, not_false_eq_true, not_true_eq_false, reduceCtorEq, bx_e, al_e, fa_e, ld_e, ad_e, su_e, mu_e, lt_e, le_e, gt_e, ge_e, eqi_e, nei_e, qu_e, re_e, cv_e, nt_e, pk_t, pk_f, pk_e, eqb_e, neb_e, nc_e, ex_e, lnl_e, lns_e, idv_e, cl_e, cnd_e, gd_e, gd_u, gdu_e, rt_e, jn_e, dr_q, kp_e, mnm_e, mxm_e, mif_e, asrt_e, eqs_e, nes_e, cond_true, cond_false, Bool.true_and, Bool.and_true, Bool.false_and, Bool.and_false, decide_not, ne_eq, not_true_eq_false]
      refine fin w5 v9 v10 (leftP P o.till) (restL R o.till) F4 b5 (h4.below hb5) (hp5.weak b4.size) ?_ (by omega)
      rw [(due_filter ht3.srt.1 o.till).2]
      exact hRP.filter _
    · have ck' : ¬ ((kdO o : Nat) : Int) = 2 := by omega
      simp only [↓bx_e, ↓al_e, ↓fa_e, ↓ld_e, ↓ad_e, ↓su_e, ↓mu_e, ↓lt_e, ↓le_e, ↓gt_e, ↓ge_e, ↓eqi_e, ↓nei_e, ↓qu_e, ↓re_e, ↓cv_e, ↓nt_e, ↓pk_t, ↓pk_f, ↓pk_e, ↓eqb_e, ↓neb_e, ↓nc_e, ↓ex_e, ↓lnl_e, ↓lns_e, ↓idv_e, ↓cl_e, ↓cnd_e, ↓gd_e, ↓gd_u, ↓gdu_e, ↓rt_e, ↓jn_e, ↓dr_q, ↓kp_e, ↓mnm_e, ↓mxm_e, ↓mif_e, ↓asrt_e, ↓eqs_e, ↓nes_e, Value.cells, add_lit, cell_psh_new, cell_drw, Nat.zero_add, Nat.reduceAdd, get4_0, get4_1, get4_2, get4_3, get3_0, get3_1, get3_2, get2_0, get2_1, get1_0, Option.some.injEq, exists_eq_left', decide_true, decide_false, decide_eq_true_eq, if_true, if_false, Bool.not_true, Bool.not_false, Bool.false_eq_true, Bool.true_eq_false, Bool.not_eq_true', decide_eq_false_iff_not, not_false_eq_true, not_true_eq_false, reduceCtorEq, bx_e, al_e, fa_e, ld_e, ad_e, su_e, mu_e, lt_e, le_e, gt_e, ge_e, eqi_e, nei_e, qu_e, re_e, cv_e, nt_e, pk_t, pk_f, pk_e, eqb_e, neb_e, nc_e, ex_e, lnl_e, lns_e, idv_e, cl_e, cnd_e, gd_e, gd_u, gdu_e, rt_e, jn_e, dr_q, kp_e, mnm_e, mxm_e, mif_e, asrt_e, eqs_e, nes_e, cond_true, cond_false, Bool.true_and, Bool.and_true, Bool.false_and, Bool.and_false, decide_not, ck']
      refine ⟨_, keep_round _ (ownI_rd hp3.i) (ownI_rd hp3.t) h7 (by omega) P.length _ 0 w3 _ _ (Nat.zero_add _) (Nat.lt_succ_self _) (Below.refl _ _) PP.nil ?_⟩
      intro w4 v9 v10 hb4 hp4
      have b4 := bt b3 hb4
      have ht4 := ht3.below hb4
      have h7 := stay hb4 h7
      unfold f4_j10
      refine ldn_box h7 rfl ?_
      rw [cl_e]
      refine f14_s o _ _ fun w5 hb5 => ?_
      have b5 := bt b4 hb5
      have ht5 := ht4.below hb5
      have hp5 := (hp4.below hb5).weak (B' := W.heap.size) b3.size
      have h7 := stay hb5 h7
      have d1 : w5.cell? ⟨w.heap.size, 1, none⟩ = some (.int .i64 o.id) := cell_of_blk (n := 1) h7
      have d2 : w5.cell? ⟨w.heap.size, 2, none⟩ = some (.int .i64 o.till) := cell_of_blk (n := 2) h7
      have hrl : (rm P o.id).length ≤ P.length := List.length_filter_le _ _
      by_cases c0 : kdO o = 0
      · have c0' : ((kdO o : Nat) : Int) = 0 := by omega
        simp only [↓bx_e, ↓al_e, ↓fa_e, ↓ld_e, ↓ad_e, ↓su_e, ↓mu_e, ↓lt_e, ↓le_e, ↓gt_e, ↓ge_e, ↓eqi_e, ↓nei_e, ↓qu_e, ↓re_e, ↓cv_e, ↓nt_e, ↓pk_t, ↓pk_f, ↓pk_e, ↓eqb_e, ↓neb_e, ↓nc_e, ↓ex_e, ↓lnl_e, ↓lns_e, ↓idv_e, ↓cl_e, ↓cnd_e, ↓gd_e, ↓gd_u, ↓gdu_e, ↓rt_e, ↓jn_e, ↓dr_q, ↓kp_e, ↓mnm_e, ↓mxm_e, ↓mif_e, ↓asrt_e, ↓eqs_e, ↓nes_e, Value.cells, add_lit, cell_psh_new, cell_drw, Nat.zero_add, Nat.reduceAdd, get4_0, get4_1, get4_2, get4_3, get3_0, get3_1, get3_2, get2_0, get2_1, get1_0, Option.some.injEq, exists_eq_left', decide_true, decide_false, decide_eq_true_eq, if_true, if_false, Bool.not_true, Bool.not_false, Bool.false_eq_true, Bool.true_eq_false, Bool.not_eq_true', decide_eq_false_iff_not, not_false_eq_true, not_true_eq_false, reduceCtorEq, bx_e, al_e, fa_e, ld_e, ad_e, su_e, mu_e, lt_e, le_e, gt_e, ge_e, eqi_e, nei_e, qu_e, re_e, cv_e, nt_e, pk_t, pk_f, pk_e, eqb_e, neb_e, nc_e, ex_e, lnl_e, lns_e, idv_e, cl_e, cnd_e, gd_e, gd_u, gdu_e, rt_e, jn_e, dr_q, kp_e, mnm_e, mxm_e, mif_e, asrt_e, eqs_e, nes_e, cond_true, cond_false, Bool.true_and, Bool.and_true, Bool.false_and, Bool.and_false, decide_not, c0', d1, d2]
        refine tset_s ht5 _ _ (by omega) fun w6 F6 h6 c6 f6 => ?_
        have b6 := bs b5 (fun k hk => (ht5.ge k hk).1) b5.size c6
        have hp6 : PP W.heap.size w6 v9 v10 (rm P o.id) := hp5.chg c6 ht5
        have h7 := blk_chg ht5 c6 h7
        have d1 : w6.cell? ⟨w.heap.size, 1, none⟩ = some (.int .i64 o.id) := cell_of_blk (n := 1) h7
        simp only [↓bx_e, ↓al_e, ↓fa_e, ↓ld_e, ↓ad_e, ↓su_e, ↓mu_e, ↓lt_e, ↓le_e, ↓gt_e, ↓ge_e, ↓eqi_e, ↓nei_e, ↓qu_e, ↓re_e, ↓cv_e, ↓nt_e, ↓pk_t, ↓pk_f, ↓pk_e, ↓eqb_e, ↓neb_e, ↓nc_e, ↓ex_e, ↓lnl_e, ↓lns_e, ↓idv_e, ↓cl_e, ↓cnd_e, ↓gd_e, ↓gd_u, ↓gdu_e, ↓rt_e, ↓jn_e, ↓dr_q, ↓kp_e, ↓mnm_e, ↓mxm_e, ↓mif_e, ↓asrt_e, ↓eqs_e, ↓nes_e, Value.cells, add_lit, cell_psh_new, cell_drw, Nat.zero_add, Nat.reduceAdd, get4_0, get4_1, get4_2, get4_3, get3_0, get3_1, get3_2, get2_0, get2_1, get1_0, Option.some.injEq, exists_eq_left', decide_true, decide_false, decide_eq_true_eq, if_true, if_false, Bool.not_true, Bool.not_false, Bool.false_eq_true, Bool.true_eq_false, Bool.not_eq_true', decide_eq_false_iff_not, not_false_eq_true, not_true_eq_false, reduceCtorEq, bx_e, al_e, fa_e, ld_e, ad_e, su_e, mu_e, lt_e, le_e, gt_e, ge_e, eqi_e, nei_e, qu_e, re_e, cv_e, nt_e, pk_t, pk_f, pk_e, eqb_e, neb_e, nc_e, ex_e, lnl_e, lns_e, idv_e, cl_e, cnd_e, gd_e, gd_u, gdu_e, rt_e, jn_e, dr_q, kp_e, mnm_e, mxm_e, mif_e, asrt_e, eqs_e, nes_e, cond_true, cond_false, Bool.true_and, Bool.and_true, Bool.false_and, Bool.and_false, decide_not, d1]
        refine ap_one (b := 8) slt32 hp6.i (by simp; omega) (by simp; omega) b6.size fun v1 w7 o7 b7 ot hq7 => ?_
        have hoff7 : ∀ (v' : Value) (l' : List Int), ownI W.heap.size 3 .i64 w6 v' l' → v'.ownBlock ≠ some w.heap.size := by
          intro v' l' ho' e
          obtain ⟨_, h3⟩ := ho'
          rcases h3 with ⟨rfl, _⟩ | ⟨g, cap, cur, rfl, _, hb', _⟩
          · cases e
          · have e2 : g = w.heap.size := by simpa [Value.ownBlock] using e
            rw [e2, h7] at hb'; cases hb'
        have h7 := hq7 _ _ h7 (hoff7 _ _ hp6.i)
        have d2 : w7.cell? ⟨w.heap.size, 2, none⟩ = some (.int .i64 o.till) := cell_of_blk (n := 2) h7
        have ht7 : TS W.heap.size w7 p _ F6 := h6.stay fun k hk => by
          obtain ⟨ob, h1, h2⟩ := h6.kind k hk
          rw [h1]
          refine hq7 k ob h1 ?_
          intro e
          exact ownI_off hp6.i h6 (by decide) k e hk
        have hpt7 := ot W.heap.size 2 .i64 v10 _ (by decide) hp6.t
        simp only [↓bx_e, ↓al_e, ↓fa_e, ↓ld_e, ↓ad_e, ↓su_e, ↓mu_e, ↓lt_e, ↓le_e, ↓gt_e, ↓ge_e, ↓eqi_e, ↓nei_e, ↓qu_e, ↓re_e, ↓cv_e, ↓nt_e, ↓pk_t, ↓pk_f, ↓pk_e, ↓eqb_e, ↓neb_e, ↓nc_e, ↓ex_e, ↓lnl_e, ↓lns_e, ↓idv_e, ↓cl_e, ↓cnd_e, ↓gd_e, ↓gd_u, ↓gdu_e, ↓rt_e, ↓jn_e, ↓dr_q, ↓kp_e, ↓mnm_e, ↓mxm_e, ↓mif_e, ↓asrt_e, ↓eqs_e, ↓nes_e, Value.cells, add_lit, cell_psh_new, cell_drw, Nat.zero_add, Nat.reduceAdd, get4_0, get4_1, get4_2, get4_3, get3_0, get3_1, get3_2, get2_0, get2_1, get1_0, Option.some.injEq, exists_eq_left', decide_true, decide_false, decide_eq_true_eq, if_true, if_false, Bool.not_true, Bool.not_false, Bool.false_eq_true, Bool.true_eq_false, Bool.not_eq_true', decide_eq_false_iff_not, not_false_eq_true, not_true_eq_false, reduceCtorEq, bx_e, al_e, fa_e, ld_e, ad_e, su_e, mu_e, lt_e, le_e, gt_e, ge_e, eqi_e, nei_e, qu_e, re_e, cv_e, nt_e, pk_t, pk_f, pk_e, eqb_e, neb_e, nc_e, ex_e, lnl_e, lns_e, idv_e, cl_e, cnd_e, gd_e, gd_u, gdu_e, rt_e, jn_e, dr_q, kp_e, mnm_e, mxm_e, mif_e, asrt_e, eqs_e, nes_e, cond_true, cond_false, Bool.true_and, Bool.and_true, Bool.false_and, Bool.and_false, decide_not, d2]
        refine ap_one (b := 8) slt36 hpt7 (by simp; omega) (by simp; omega) (b6.trans b7).size fun v2 w8 o8 b8 ot8 hq8 => ?_
        have ht8 : TS W.heap.size w8 p _ F6 := ht7.stay fun k hk => by
          obtain ⟨ob, h1, h2⟩ := ht7.kind k hk
          rw [h1]
          refine hq8 k ob h1 ?_
          intro e
          exact ownI_off hpt7 ht7 (by decide) k e hk
        have hpi8 := ot8 W.heap.size 3 .i64 v1 _ (by decide) o7
        refine fin w8 v1 v2 (rm P o.id ++ [(o.till, o.id)]) _ F6 ((b6.trans b7).trans b8) ht8 ⟨by simpa using hpi8, by simpa using o8⟩ ?_ (by rw [List.length_append]; simp only [List.length_cons, List.length_nil]; omega)
        refine (ins_perm _ _).trans ?_
        refine List.Perm.trans ?_ List.perm_append_comm
        exact (hRP.filter _).cons _
      · have c0' : ¬ ((kdO o : Nat) : Int) = 0 := by omega
        simp only [↓bx_e, ↓al_e, ↓fa_e, ↓ld_e, ↓ad_e, ↓su_e, ↓mu_e, ↓lt_e, ↓le_e, ↓gt_e, ↓ge_e, ↓eqi_e, ↓nei_e, ↓qu_e, ↓re_e, ↓cv_e, ↓nt_e, ↓pk_t, ↓pk_f, ↓pk_e, ↓eqb_e, ↓neb_e, ↓nc_e, ↓ex_e, ↓lnl_e, ↓lns_e, ↓idv_e, ↓cl_e, ↓cnd_e, ↓gd_e, ↓gd_u, ↓gdu_e, ↓rt_e, ↓jn_e, ↓dr_q, ↓kp_e, ↓mnm_e, ↓mxm_e, ↓mif_e, ↓asrt_e, ↓eqs_e, ↓nes_e, Value.cells, add_lit, cell_psh_new, cell_drw, Nat.zero_add, Nat.reduceAdd, get4_0, get4_1, get4_2, get4_3, get3_0, get3_1, get3_2, get2_0, get2_1, get1_0, Option.some.injEq, exists_eq_left', decide_true, decide_false, decide_eq_true_eq, if_true, if_false, Bool.not_true, Bool.not_false, Bool.false_eq_true, Bool.true_eq_false, Bool.not_eq_true', decide_eq_false_iff_not, not_false_eq_true, not_true_eq_false, reduceCtorEq, bx_e, al_e, fa_e, ld_e, ad_e, su_e, mu_e, lt_e, le_e, gt_e, ge_e, eqi_e, nei_e, qu_e, re_e, cv_e, nt_e, pk_t, pk_f, pk_e, eqb_e, neb_e, nc_e, ex_e, lnl_e, lns_e, idv_e, cl_e, cnd_e, gd_e, gd_u, gdu_e, rt_e, jn_e, dr_q, kp_e, mnm_e, mxm_e, mif_e, asrt_e, eqs_e, nes_e, cond_true, cond_false, Bool.true_and, Bool.and_true, Bool.false_and, Bool.and_false, decide_not, c0', d1, d2]
        refine tdrop_s ht5 _ (by omega) fun w6 F6 h6 c6 f6 => ?_
        have b6 := bs b5 (fun k hk => (ht5.ge k hk).1) b5.size c6
        have hp6 : PP W.heap.size w6 v9 v10 (rm P o.id) := hp5.chg c6 ht5
        try simp only [↓bx_e, ↓al_e, ↓fa_e, ↓ld_e, ↓ad_e, ↓su_e, ↓mu_e, ↓lt_e, ↓le_e, ↓gt_e, ↓ge_e, ↓eqi_e, ↓nei_e, ↓qu_e, ↓re_e, ↓cv_e, ↓nt_e, ↓pk_t, ↓pk_f, ↓pk_e, ↓eqb_e, ↓neb_e, ↓nc_e, ↓ex_e, ↓lnl_e, ↓lns_e, ↓idv_e, ↓cl_e, ↓cnd_e, ↓gd_e, ↓gd_u, ↓gdu_e, ↓rt_e, ↓jn_e, ↓dr_q, ↓kp_e, ↓mnm_e, ↓mxm_e, ↓mif_e, ↓asrt_e, ↓eqs_e, ↓nes_e, Value.cells, add_lit, cell_psh_new, cell_drw, Nat.zero_add, Nat.reduceAdd, get4_0, get4_1, get4_2, get4_3, get3_0, get3_1, get3_2, get2_0, get2_1, get1_0, Option.some.injEq, exists_eq_left', decide_true, decide_false, decide_eq_true_eq, if_true, if_false, Bool.not_true, Bool.not_false, Bool.false_eq_true, Bool.true_eq_false, Bool.not_eq_true', decide_eq_false_iff_not, not_false_eq_true, not_true_eq_false, reduceCtorEq, bx_e, al_e, fa_e, ld_e, ad_e, su_e, mu_e, lt_e, le_e, gt_e, ge_e, eqi_e, nei_e, qu_e, re_e, cv_e, nt_e, pk_t, pk_f, pk_e, eqb_e, neb_e, nc_e, ex_e, lnl_e, lns_e, idv_e, cl_e, cnd_e, gd_e, gd_u, gdu_e, rt_e, jn_e, dr_q, kp_e, mnm_e, mxm_e, mif_e, asrt_e, eqs_e, nes_e, cond_true, cond_false, Bool.true_and, Bool.and_true, Bool.false_and, Bool.and_false, decide_not]
        exact fin w6 v9 v10 (rm P o.id) _ F6 b6 h6 hp6 (hRP.filter _) (by omega)
theorem f4_s (hr : rdS 3 oR W v l) (h : ∀ w', Below W.heap.size W w' → Q (.bool true) w') : f4 v W Q := by
  unfold f4
  rw [cl_e]
  refine f7_s _ _ fun w1 b1 => ?_
  try simp only [↓bx_e, ↓al_e, ↓fa_e, ↓ld_e, ↓ad_e, ↓su_e, ↓mu_e, ↓lt_e, ↓le_e, ↓gt_e, ↓ge_e, ↓eqi_e, ↓nei_e, ↓qu_e, ↓re_e, ↓cv_e, ↓nt_e, ↓pk_t, ↓pk_f, ↓pk_e, ↓eqb_e, ↓neb_e, ↓nc_e, ↓ex_e, ↓lnl_e, ↓lns_e, ↓idv_e, ↓cl_e, ↓cnd_e, ↓gd_e, ↓gd_u, ↓gdu_e, ↓rt_e, ↓jn_e, ↓dr_q, ↓kp_e, ↓mnm_e, ↓mxm_e, ↓mif_e, ↓asrt_e, ↓eqs_e, ↓nes_e, Value.cells, add_lit, cell_psh_new, cell_drw, Nat.zero_add, Nat.reduceAdd, get4_0, get4_1, get4_2, get4_3, get3_0, get3_1, get3_2, get2_0, get2_1, get1_0, Option.some.injEq, exists_eq_left', decide_true, decide_false, decide_eq_true_eq, if_true, if_false, Bool.not_true, Bool.not_false, Bool.false_eq_true, Bool.true_eq_false, Bool.not_eq_true', decide_eq_false_iff_not, not_false_eq_true, not_true_eq_false, reduceCtorEq, bx_e, al_e, fa_e, ld_e, ad_e, su_e, mu_e, lt_e, le_e, gt_e, ge_e, eqi_e, nei_e, qu_e, re_e, cv_e, nt_e, pk_t, pk_f, pk_e, eqb_e, neb_e, nc_e, ex_e, lnl_e, lns_e, idv_e, cl_e, cnd_e, gd_e, gd_u, gdu_e, rt_e, jn_e, dr_q, kp_e, mnm_e, mxm_e, mif_e, asrt_e, eqs_e, nes_e, cond_true, cond_false, Bool.true_and, Bool.and_true, Bool.false_and, Bool.and_false, decide_not]
  refine f8_s (rdS_below oR_st b1 hr) _ fun v' hr1 => ?_
  have hl : (l.take 300).length ≤ 300 := by simp; omega
  generalize l.take 300 = l' at *
  refine new_s (Nat.le_refl _) fun p w2 F h2 f2 hb2 => ?_
  refine ⟨_, once_loop (W := w1) _ hr1 hl l'.length _ 0 w2 _ _ [] [] F (Nat.zero_add _) (Nat.lt_succ_self _) hb2 h2 PP.nil (List.Perm.refl _) (Nat.le_refl _) ?_⟩
  intro w3 vi vt P R F3 b3 h3 hp3 hRP
  unfold f4_j1
  rw [cl_e]
  refine tlen_s h3 ?_
  refine lnl_rd (ownI_rd hp3.i) ?_
  rw [List.length_map, hRP.length_eq]
  try simp only [↓bx_e, ↓al_e, ↓fa_e, ↓ld_e, ↓ad_e, ↓su_e, ↓mu_e, ↓lt_e, ↓le_e, ↓gt_e, ↓ge_e, ↓eqi_e, ↓nei_e, ↓qu_e, ↓re_e, ↓cv_e, ↓nt_e, ↓pk_t, ↓pk_f, ↓pk_e, ↓eqb_e, ↓neb_e, ↓nc_e, ↓ex_e, ↓lnl_e, ↓lns_e, ↓idv_e, ↓cl_e, ↓cnd_e, ↓gd_e, ↓gd_u, ↓gdu_e, ↓rt_e, ↓jn_e, ↓dr_q, ↓kp_e, ↓mnm_e, ↓mxm_e, ↓mif_e, ↓asrt_e, ↓eqs_e, ↓nes_e, Value.cells, add_lit, cell_psh_new, cell_drw, Nat.zero_add, Nat.reduceAdd, get4_0, get4_1, get4_2, get4_3, get3_0, get3_1, get3_2, get2_0, get2_1, get1_0, Option.some.injEq, exists_eq_left', decide_true, decide_false, decide_eq_true_eq, if_true, if_false, Bool.not_true, Bool.not_false, Bool.false_eq_true, Bool.true_eq_false, Bool.not_eq_true', decide_eq_false_iff_not, not_false_eq_true, not_true_eq_false, reduceCtorEq, bx_e, al_e, fa_e, ld_e, ad_e, su_e, mu_e, lt_e, le_e, gt_e, ge_e, eqi_e, nei_e, qu_e, re_e, cv_e, nt_e, pk_t, pk_f, pk_e, eqb_e, neb_e, nc_e, ex_e, lnl_e, lns_e, idv_e, cl_e, cnd_e, gd_e, gd_u, gdu_e, rt_e, jn_e, dr_q, kp_e, mnm_e, mxm_e, mif_e, asrt_e, eqs_e, nes_e, cond_true, cond_false, Bool.true_and, Bool.and_true, Bool.false_and, Bool.and_false, decide_not]
  exact h _ (bt b1 b3)
end
end Go.Proofs.Ytpjffilejnemmaa
