/- Timers as a whole: what they hold, told as a row of times and numbers in order. -/
import Derived.Test.YtpjffilejnemmaaT2
set_option linter.unusedVariables false
set_option linter.unusedSimpArgs false
set_option linter.unusedSectionVars false
namespace Go.Proofs.Ytpjffilejnemmaa
open Sh RowKit Go.MapKept

section
variable {B : Nat} {p : Nat} {mv qv : Value} {Q : Value → World → Prop} {w : World} {l : List Tm}
/-- one more in the queue -/
theorem push_s {t : Tm} {x : Nat} (hq : QR B w p mv qv l) (ht : w.heap[t.blk]? = some (.cells (tC t x) 58 (0, 0))) (hB : B ≤ t.blk) (hn : t.blk ∉ l.map (·.blk)) (hl : l.length ≤ 1000000)
    (kk : ∀ w' qv', QR B w' p mv qv' (l ++ [t]) → ChgS (fun k => fpQ p qv l k ∨ k = t.blk) w w' → (∀ k, fpQ p qv' (l ++ [t]) k → fpQ p qv l k ∨ k = t.blk ∨ w.heap.size ≤ k) → Q (.tuple #[]) w') :
    f53 (.pointer (some ⟨p, 0, none⟩)) (.iface 55 (pv t.blk)) w Q := by
  unfold f53
  have c0 := cell_of_blk (n := 0) hq.hp
  have htp : t.blk ≠ p := by intro e; rw [e, hq.hp] at ht; cases ht
  have htg : ∀ g, qv.ownBlock = some g → t.blk ≠ g := by
    intro g hg e
    obtain ⟨_, _, cur, hc⟩ := ownV_lt hq.own g hg
    rw [← e, ht] at hc; cases hc
  simp only [↓bx_e, ↓al_e, ↓fa_e, ↓ld_e, ↓ad_e, ↓su_e, ↓mu_e, ↓lt_e, ↓le_e, ↓gt_e, ↓ge_e, ↓eqi_e, ↓nei_e, ↓qu_e, ↓re_e, ↓cv_e, ↓nt_e, ↓pk_t, ↓pk_f, ↓pk_e, ↓eqb_e, ↓neb_e, ↓nc_e, ↓ex_e, ↓lnl_e, ↓lns_e, ↓idv_e, ↓cl_e, ↓cnd_e, ↓gd_e, ↓gd_u, ↓gdu_e, ↓rt_e, ↓jn_e, ↓dr_q, ↓kp_e, ↓mnm_e, ↓mxm_e, ↓mif_e, ↓asrt_e, ↓eqs_e, ↓nes_e, Value.cells, add_lit, cell_psh_new, cell_drw, Nat.zero_add, Nat.reduceAdd, get4_0, get4_1, get4_2, get4_3, get3_0, get3_1, get3_2, get2_0, get2_1, get1_0, Option.some.injEq, exists_eq_left', decide_true, decide_false, decide_eq_true_eq, if_true, if_false, Bool.not_true, Bool.not_false, Bool.false_eq_true, Bool.true_eq_false, Bool.not_eq_true', decide_eq_false_iff_not, not_false_eq_true, not_true_eq_false, reduceCtorEq, bx_e, al_e, fa_e, ld_e, ad_e, su_e, mu_e, lt_e, le_e, gt_e, ge_e, eqi_e, nei_e, qu_e, re_e, cv_e, nt_e, pk_t, pk_f, pk_e, eqb_e, neb_e, nc_e, ex_e, lnl_e, lns_e, idv_e, cl_e, cnd_e, gd_e, gd_u, gdu_e, rt_e, jn_e, dr_q, kp_e, mnm_e, mxm_e, mif_e, asrt_e, eqs_e, nes_e, cond_true, cond_false, Bool.true_and, Bool.and_true, Bool.false_and, Bool.and_false, decide_not, c0]
  refine lnl_V hq.own ?_
  rw [List.length_map]
  simp only [↓bx_e, ↓al_e, ↓fa_e, ↓ld_e, ↓ad_e, ↓su_e, ↓mu_e, ↓lt_e, ↓le_e, ↓gt_e, ↓ge_e, ↓eqi_e, ↓nei_e, ↓qu_e, ↓re_e, ↓cv_e, ↓nt_e, ↓pk_t, ↓pk_f, ↓pk_e, ↓eqb_e, ↓neb_e, ↓nc_e, ↓ex_e, ↓lnl_e, ↓lns_e, ↓idv_e, ↓cl_e, ↓cnd_e, ↓gd_e, ↓gd_u, ↓gdu_e, ↓rt_e, ↓jn_e, ↓dr_q, ↓kp_e, ↓mnm_e, ↓mxm_e, ↓mif_e, ↓asrt_e, ↓eqs_e, ↓nes_e, Value.cells, add_lit, cell_psh_new, cell_drw, Nat.zero_add, Nat.reduceAdd, get4_0, get4_1, get4_2, get4_3, get3_0, get3_1, get3_2, get2_0, get2_1, get1_0, Option.some.injEq, exists_eq_left', decide_true, decide_false, decide_eq_true_eq, if_true, if_false, Bool.not_true, Bool.not_false, Bool.false_eq_true, Bool.true_eq_false, Bool.not_eq_true', decide_eq_false_iff_not, not_false_eq_true, not_true_eq_false, reduceCtorEq, bx_e, al_e, fa_e, ld_e, ad_e, su_e, mu_e, lt_e, le_e, gt_e, ge_e, eqi_e, nei_e, qu_e, re_e, cv_e, nt_e, pk_t, pk_f, pk_e, eqb_e, neb_e, nc_e, ex_e, lnl_e, lns_e, idv_e, cl_e, cnd_e, gd_e, gd_u, gdu_e, rt_e, jn_e, dr_q, kp_e, mnm_e, mxm_e, mif_e, asrt_e, eqs_e, nes_e, cond_true, cond_false, Bool.true_and, Bool.and_true, Bool.false_and, Bool.and_false, decide_not, pv]
  refine st_box ht (by simp [tC]) rfl fun w1 h1 hu => ?_
  have e1 : (tC t x).setIfInBounds 2 (.int .i64 (l.length : Int)) = tC t l.length := rfl
  rw [e1] at h1
  have hq1 : QR B w1 p mv qv l := hq.stay fun k hk => hu.block k (by
    rcases hk with rfl | hk | hk
    · exact Ne.symm htp
    · exact Ne.symm (htg k hk)
    · intro e; exact hn (e ▸ hk))
  have c1 := cell_of_blk (n := 0) hq1.hp
  simp only [↓bx_e, ↓al_e, ↓fa_e, ↓ld_e, ↓ad_e, ↓su_e, ↓mu_e, ↓lt_e, ↓le_e, ↓gt_e, ↓ge_e, ↓eqi_e, ↓nei_e, ↓qu_e, ↓re_e, ↓cv_e, ↓nt_e, ↓pk_t, ↓pk_f, ↓pk_e, ↓eqb_e, ↓neb_e, ↓nc_e, ↓ex_e, ↓lnl_e, ↓lns_e, ↓idv_e, ↓cl_e, ↓cnd_e, ↓gd_e, ↓gd_u, ↓gdu_e, ↓rt_e, ↓jn_e, ↓dr_q, ↓kp_e, ↓mnm_e, ↓mxm_e, ↓mif_e, ↓asrt_e, ↓eqs_e, ↓nes_e, Value.cells, add_lit, cell_psh_new, cell_drw, Nat.zero_add, Nat.reduceAdd, get4_0, get4_1, get4_2, get4_3, get3_0, get3_1, get3_2, get2_0, get2_1, get1_0, Option.some.injEq, exists_eq_left', decide_true, decide_false, decide_eq_true_eq, if_true, if_false, Bool.not_true, Bool.not_false, Bool.false_eq_true, Bool.true_eq_false, Bool.not_eq_true', decide_eq_false_iff_not, not_false_eq_true, not_true_eq_false, reduceCtorEq, bx_e, al_e, fa_e, ld_e, ad_e, su_e, mu_e, lt_e, le_e, gt_e, ge_e, eqi_e, nei_e, qu_e, re_e, cv_e, nt_e, pk_t, pk_f, pk_e, eqb_e, neb_e, nc_e, ex_e, lnl_e, lns_e, idv_e, cl_e, cnd_e, gd_e, gd_u, gdu_e, rt_e, jn_e, dr_q, kp_e, mnm_e, mxm_e, mif_e, asrt_e, eqs_e, nes_e, cond_true, cond_false, Bool.true_and, Bool.and_true, Bool.false_and, Bool.and_false, decide_not, c1]
  have hap : ∀ (K : Value → M), (∀ v' w', ownV B 55 w' v' ((l.map fun t => pv t.blk) ++ [pv t.blk]) → (∀ k, k < w1.heap.size → qv.ownBlock ≠ some k → w'.heap[k]? = w1.heap[k]?) → w1.heap.size ≤ w'.heap.size → (w'.os = w1.os ∧ w'.tape = w1.tape ∧ w'.output = w1.output) → (∀ g, v'.ownBlock = some g → qv.ownBlock = some g ∨ w1.heap.size ≤ g) → K v' w' Q) →
      sm Try.prog (Instr.buildSlice 52 1 #[(0, pv t.blk)]) (fun u => sm Try.prog (Builtin.append_ #[52, 52] 52 #[qv, u]) K) w1 Q := by
    intro K hk
    refine ap_V slt52 rfl rfl rfl hq1.own (by simp [maxLen]; omega) (by simp; omega) ?_ hk
    have := hq1.bp; have := blk_lt hq1.hp; omega
  refine hap _ fun v' w2 ho hk hsz hos hg => ?_
  have hp2 : w2.heap[p]? = some (.cells #[qv, mv] 54 (0, 0)) := by
    rw [hk p (blk_lt hq1.hp) (by intro e; obtain ⟨_, _, cur, hc⟩ := ownV_lt hq1.own p e; rw [hq1.hp] at hc; cases hc)]
    exact hq1.hp
  simp only [↓bx_e, ↓al_e, ↓fa_e, ↓ld_e, ↓ad_e, ↓su_e, ↓mu_e, ↓lt_e, ↓le_e, ↓gt_e, ↓ge_e, ↓eqi_e, ↓nei_e, ↓qu_e, ↓re_e, ↓cv_e, ↓nt_e, ↓pk_t, ↓pk_f, ↓pk_e, ↓eqb_e, ↓neb_e, ↓nc_e, ↓ex_e, ↓lnl_e, ↓lns_e, ↓idv_e, ↓cl_e, ↓cnd_e, ↓gd_e, ↓gd_u, ↓gdu_e, ↓rt_e, ↓jn_e, ↓dr_q, ↓kp_e, ↓mnm_e, ↓mxm_e, ↓mif_e, ↓asrt_e, ↓eqs_e, ↓nes_e, Value.cells, add_lit, cell_psh_new, cell_drw, Nat.zero_add, Nat.reduceAdd, get4_0, get4_1, get4_2, get4_3, get3_0, get3_1, get3_2, get2_0, get2_1, get1_0, Option.some.injEq, exists_eq_left', decide_true, decide_false, decide_eq_true_eq, if_true, if_false, Bool.not_true, Bool.not_false, Bool.false_eq_true, Bool.true_eq_false, Bool.not_eq_true', decide_eq_false_iff_not, not_false_eq_true, not_true_eq_false, reduceCtorEq, bx_e, al_e, fa_e, ld_e, ad_e, su_e, mu_e, lt_e, le_e, gt_e, ge_e, eqi_e, nei_e, qu_e, re_e, cv_e, nt_e, pk_t, pk_f, pk_e, eqb_e, neb_e, nc_e, ex_e, lnl_e, lns_e, idv_e, cl_e, cnd_e, gd_e, gd_u, gdu_e, rt_e, jn_e, dr_q, kp_e, mnm_e, mxm_e, mif_e, asrt_e, eqs_e, nes_e, cond_true, cond_false, Bool.true_and, Bool.and_true, Bool.false_and, Bool.and_false, decide_not]
  refine st_box hp2 (by simp) ?_ fun w3 h3 hu3 => ?_
  · rcases ownV_cases ho with ⟨rfl, _⟩ | ⟨g, cap, cur, rfl, _⟩ <;> rfl
  have e3 : (#[qv, mv] : Array Value).setIfInBounds 0 v' = #[v', mv] := rfl
  rw [e3] at h3
  try simp only [↓bx_e, ↓al_e, ↓fa_e, ↓ld_e, ↓ad_e, ↓su_e, ↓mu_e, ↓lt_e, ↓le_e, ↓gt_e, ↓ge_e, ↓eqi_e, ↓nei_e, ↓qu_e, ↓re_e, ↓cv_e, ↓nt_e, ↓pk_t, ↓pk_f, ↓pk_e, ↓eqb_e, ↓neb_e, ↓nc_e, ↓ex_e, ↓lnl_e, ↓lns_e, ↓idv_e, ↓cl_e, ↓cnd_e, ↓gd_e, ↓gd_u, ↓gdu_e, ↓rt_e, ↓jn_e, ↓dr_q, ↓kp_e, ↓mnm_e, ↓mxm_e, ↓mif_e, ↓asrt_e, ↓eqs_e, ↓nes_e, Value.cells, add_lit, cell_psh_new, cell_drw, Nat.zero_add, Nat.reduceAdd, get4_0, get4_1, get4_2, get4_3, get3_0, get3_1, get3_2, get2_0, get2_1, get1_0, Option.some.injEq, exists_eq_left', decide_true, decide_false, decide_eq_true_eq, if_true, if_false, Bool.not_true, Bool.not_false, Bool.false_eq_true, Bool.true_eq_false, Bool.not_eq_true', decide_eq_false_iff_not, not_false_eq_true, not_true_eq_false, reduceCtorEq, bx_e, al_e, fa_e, ld_e, ad_e, su_e, mu_e, lt_e, le_e, gt_e, ge_e, eqi_e, nei_e, qu_e, re_e, cv_e, nt_e, pk_t, pk_f, pk_e, eqb_e, neb_e, nc_e, ex_e, lnl_e, lns_e, idv_e, cl_e, cnd_e, gd_e, gd_u, gdu_e, rt_e, jn_e, dr_q, kp_e, mnm_e, mxm_e, mif_e, asrt_e, eqs_e, nes_e, cond_true, cond_false, Bool.true_and, Bool.and_true, Bool.false_and, Bool.and_false, decide_not]
  have hvp : ∀ g, v'.ownBlock = some g → g ≠ p := by
    intro g hgv e
    obtain ⟨_, _, cur, hc⟩ := ownV_lt ho g hgv
    rw [e, hp2] at hc; cases hc
  have tk : ∀ (k : Nat), (∃ c, w1.heap[k]? = some (.cells c 58 (0, 0))) → w3.heap[k]? = w1.heap[k]? := by
    rintro k ⟨c, hc⟩
    have h1 : qv.ownBlock ≠ some k := by intro e; obtain ⟨_, _, cur, hc'⟩ := ownV_lt hq1.own k e; rw [hc] at hc'; cases hc'
    have h2 : k ≠ p := by intro e; rw [e, hq1.hp] at hc; cases hc
    rw [hu3.block k h2, hk k (blk_lt hc) h1]
  have hs1 : w1.heap.size = w.heap.size := hu.size
  refine kk w3 v' ⟨h3, ?_, ?_, ?_, hq.bp, ?_⟩ ?_ ?_
  · have e : (l ++ [t]).map (fun t => pv t.blk) = (l.map fun t => pv t.blk) ++ [pv t.blk] := by simp
    rw [e]
    exact ownV_stay ho (fun g hgv => hu3.block g (hvp g hgv))
  · intro i hi
    by_cases c : i < l.length
    · have e : (l ++ [t])[i] = l[i] := List.getElem_append_left c
      rw [e, tk _ ⟨_, hq1.tm i c⟩]
      exact hq1.tm i c
    · have hi' : i = l.length := by simp at hi; omega
      subst hi'
      have e : (l ++ [t])[l.length] = t := by simp
      rw [e, tk _ ⟨_, h1⟩]
      exact h1
  · rw [List.map_append, List.nodup_append]
    refine ⟨hq.nd, by simp, ?_⟩
    intro a ha b hb e
    simp only [List.map_cons, List.map_nil, List.mem_singleton] at hb
    rw [e, hb] at ha
    exact hn ha
  · intro t' ht'
    rcases List.mem_append.1 ht' with h | h
    · exact hq.bt t' h
    · rw [List.mem_singleton] at h; rw [h]; exact hB
  · refine ⟨?_, ?_, ?_, ?_, ?_⟩
    · rw [hu3.os, hos.1, hu.os]
    · rw [hu3.tape, hos.2.1, hu.tape]
    · rw [hu3.output, hos.2.2, hu.output]
    · rw [hu3.size]; omega
    · intro k hkl hns
      have n1 : k ≠ p := fun e => hns (.inl (.inl e))
      have n2 : qv.ownBlock ≠ some k := fun e => hns (.inl (.inr (.inl e)))
      have n3 : k ≠ t.blk := fun e => hns (.inr e)
      rw [hu3.block k n1, hk k (by omega) n2, hu.block k n3]
  · intro k hkf
    rcases hkf with rfl | hkf | hkf
    · exact .inl (.inl rfl)
    · rcases hg k hkf with h | h
      · exact .inl (.inr (.inl h))
      · exact .inr (.inr (by omega))
    · rw [List.map_append, List.mem_append] at hkf
      rcases hkf with h | h
      · exact .inl (.inr (.inr h))
      · simp only [List.map_cons, List.map_nil, List.mem_singleton] at h
        exact .inr (.inl h)
/-- the last one taken -/
theorem pop_s (hq : QR B w p mv qv l) (hne : 0 < l.length) (hl : l.length ≤ 1000000)
    (kk : ∀ w' qv', QR B w' p mv qv' l.dropLast → Chg p w w' → qv'.ownBlock = qv.ownBlock → Q (.iface 55 (pv l[l.length - 1].blk)) w') :
    f52 (.pointer (some ⟨p, 0, none⟩)) w Q := by
  unfold f52
  have c0 := cell_of_blk (n := 0) hq.hp
  obtain ⟨g, cap, hqv, hob, hB, ⟨cur, hcur⟩, hcell⟩ := hq.slice hne
  have hown := hq.own
  have hpp := hq.hp
  have e1 : IntKind.i64.wrap ((l.length : Int) - 1) = ((l.length - 1 : Nat) : Int) := by rw [w64 (by omega) (by omega)]; omega
  subst hqv
  simp only [↓bx_e, ↓al_e, ↓fa_e, ↓ld_e, ↓ad_e, ↓su_e, ↓mu_e, ↓lt_e, ↓le_e, ↓gt_e, ↓ge_e, ↓eqi_e, ↓nei_e, ↓qu_e, ↓re_e, ↓cv_e, ↓nt_e, ↓pk_t, ↓pk_f, ↓pk_e, ↓eqb_e, ↓neb_e, ↓nc_e, ↓ex_e, ↓lnl_e, ↓lns_e, ↓idv_e, ↓cl_e, ↓cnd_e, ↓gd_e, ↓gd_u, ↓gdu_e, ↓rt_e, ↓jn_e, ↓dr_q, ↓kp_e, ↓mnm_e, ↓mxm_e, ↓mif_e, ↓asrt_e, ↓eqs_e, ↓nes_e, Value.cells, add_lit, cell_psh_new, cell_drw, Nat.zero_add, Nat.reduceAdd, get4_0, get4_1, get4_2, get4_3, get3_0, get3_1, get3_2, get2_0, get2_1, get1_0, Option.some.injEq, exists_eq_left', decide_true, decide_false, decide_eq_true_eq, if_true, if_false, Bool.not_true, Bool.not_false, Bool.false_eq_true, Bool.true_eq_false, Bool.not_eq_true', decide_eq_false_iff_not, not_false_eq_true, not_true_eq_false, reduceCtorEq, bx_e, al_e, fa_e, ld_e, ad_e, su_e, mu_e, lt_e, le_e, gt_e, ge_e, eqi_e, nei_e, qu_e, re_e, cv_e, nt_e, pk_t, pk_f, pk_e, eqb_e, neb_e, nc_e, ex_e, lnl_e, lns_e, idv_e, cl_e, cnd_e, gd_e, gd_u, gdu_e, rt_e, jn_e, dr_q, kp_e, mnm_e, mxm_e, mif_e, asrt_e, eqs_e, nes_e, cond_true, cond_false, Bool.true_and, Bool.and_true, Bool.false_and, Bool.and_false, decide_not, c0, e1, ia_at (show l.length - 1 < l.length by omega), hcell (l.length - 1) (by omega)]
  refine ⟨some ⟨g, 0, none⟩, l.length, cap, 0, l.length - 1, rfl, ?_, ?_, ?_⟩
  · refine ⟨_, _, rfl, by omega, ?_, rfl⟩
    rcases ownV_cases hown with ⟨e, _⟩ | ⟨g', cap', cur', e2, _, hb', hn, _, hs, _⟩
    · cases e
    · simp only [Value.slice.injEq] at e2
      rw [List.length_map] at hn
      omega
  · rfl
  have ev : (if cap = 0 then some (⟨g, 0, none⟩ : Addr) else (some (⟨g, 0, none⟩ : Addr)).map (·.add (0 * 1))) = some ⟨g, 0, none⟩ := by split <;> rfl
  rw [ev, Nat.sub_zero, Nat.sub_zero]
  simp only [↓bx_e, ↓al_e, ↓fa_e, ↓ld_e, ↓ad_e, ↓su_e, ↓mu_e, ↓lt_e, ↓le_e, ↓gt_e, ↓ge_e, ↓eqi_e, ↓nei_e, ↓qu_e, ↓re_e, ↓cv_e, ↓nt_e, ↓pk_t, ↓pk_f, ↓pk_e, ↓eqb_e, ↓neb_e, ↓nc_e, ↓ex_e, ↓lnl_e, ↓lns_e, ↓idv_e, ↓cl_e, ↓cnd_e, ↓gd_e, ↓gd_u, ↓gdu_e, ↓rt_e, ↓jn_e, ↓dr_q, ↓kp_e, ↓mnm_e, ↓mxm_e, ↓mif_e, ↓asrt_e, ↓eqs_e, ↓nes_e, Value.cells, add_lit, cell_psh_new, cell_drw, Nat.zero_add, Nat.reduceAdd, get4_0, get4_1, get4_2, get4_3, get3_0, get3_1, get3_2, get2_0, get2_1, get1_0, Option.some.injEq, exists_eq_left', decide_true, decide_false, decide_eq_true_eq, if_true, if_false, Bool.not_true, Bool.not_false, Bool.false_eq_true, Bool.true_eq_false, Bool.not_eq_true', decide_eq_false_iff_not, not_false_eq_true, not_true_eq_false, reduceCtorEq, bx_e, al_e, fa_e, ld_e, ad_e, su_e, mu_e, lt_e, le_e, gt_e, ge_e, eqi_e, nei_e, qu_e, re_e, cv_e, nt_e, pk_t, pk_f, pk_e, eqb_e, neb_e, nc_e, ex_e, lnl_e, lns_e, idv_e, cl_e, cnd_e, gd_e, gd_u, gdu_e, rt_e, jn_e, dr_q, kp_e, mnm_e, mxm_e, mif_e, asrt_e, eqs_e, nes_e, cond_true, cond_false, Bool.true_and, Bool.and_true, Bool.false_and, Bool.and_false, decide_not]
  refine st_box hpp (by simp) rfl fun w1 h1 hu => ?_
  have e3 : (#[.slice (some ⟨g, 0, none⟩) l.length cap, mv] : Array Value).setIfInBounds 0 (.slice (some ⟨g, 0, none⟩) (l.length - 1) cap) = #[.slice (some ⟨g, 0, none⟩) (l.length - 1) cap, mv] := rfl
  rw [e3] at h1
  simp only [↓bx_e, ↓al_e, ↓fa_e, ↓ld_e, ↓ad_e, ↓su_e, ↓mu_e, ↓lt_e, ↓le_e, ↓gt_e, ↓ge_e, ↓eqi_e, ↓nei_e, ↓qu_e, ↓re_e, ↓cv_e, ↓nt_e, ↓pk_t, ↓pk_f, ↓pk_e, ↓eqb_e, ↓neb_e, ↓nc_e, ↓ex_e, ↓lnl_e, ↓lns_e, ↓idv_e, ↓cl_e, ↓cnd_e, ↓gd_e, ↓gd_u, ↓gdu_e, ↓rt_e, ↓jn_e, ↓dr_q, ↓kp_e, ↓mnm_e, ↓mxm_e, ↓mif_e, ↓asrt_e, ↓eqs_e, ↓nes_e, Value.cells, add_lit, cell_psh_new, cell_drw, Nat.zero_add, Nat.reduceAdd, get4_0, get4_1, get4_2, get4_3, get3_0, get3_1, get3_2, get2_0, get2_1, get1_0, Option.some.injEq, exists_eq_left', decide_true, decide_false, decide_eq_true_eq, if_true, if_false, Bool.not_true, Bool.not_false, Bool.false_eq_true, Bool.true_eq_false, Bool.not_eq_true', decide_eq_false_iff_not, not_false_eq_true, not_true_eq_false, reduceCtorEq, bx_e, al_e, fa_e, ld_e, ad_e, su_e, mu_e, lt_e, le_e, gt_e, ge_e, eqi_e, nei_e, qu_e, re_e, cv_e, nt_e, pk_t, pk_f, pk_e, eqb_e, neb_e, nc_e, ex_e, lnl_e, lns_e, idv_e, cl_e, cnd_e, gd_e, gd_u, gdu_e, rt_e, jn_e, dr_q, kp_e, mnm_e, mxm_e, mif_e, asrt_e, eqs_e, nes_e, cond_true, cond_false, Bool.true_and, Bool.and_true, Bool.false_and, Bool.and_false, decide_not]
  have hgp : g ≠ p := by intro e; rw [e, hq.hp] at hcur; cases hcur
  refine kk w1 _ ⟨h1, ?_, ?_, ?_, hq.bp, ?_⟩ hu.chg rfl
  · rcases ownV_cases hown with ⟨e, _⟩ | ⟨g', cap', cur', e2, hB', hb', hn, hm, hs, ht⟩
    · cases e
    · simp only [Value.slice.injEq, Option.some.injEq, Addr.mk.injEq] at e2
      obtain ⟨⟨rfl, _⟩, _, rfl⟩ := e2
      have h2 : w1.heap[g]? = some (.cells cur' 55 (0, 0)) := (hu.block g hgp).trans hb'
      have := ownV_mk (xs := l.dropLast.map fun t => pv t.blk) (cap := cap) hB' h2 (by simp at hn ⊢; omega) hm hs (by
        rw [List.length_map, List.length_dropLast]
        have h3 := congrArg (List.take (l.length - 1)) ht
        rw [List.take_take, List.length_map, Nat.min_eq_left (by omega)] at h3
        rw [h3, List.dropLast_eq_take, List.map_take])
      rw [List.length_map, List.length_dropLast] at this
      exact this
  · intro i hi
    rw [List.length_dropLast] at hi
    have e : l.dropLast[i]'(by rw [List.length_dropLast]; exact hi) = l[i] := by simp
    rw [e, hu.block _ (by intro e2; have := hq.tm i (by omega); rw [e2, hq.hp] at this; cases this)]
    exact hq.tm i (by omega)
  · exact hq.nd.sublist ((List.dropLast_sublist l).map _)
  · intro t ht; exact hq.bt t ((List.dropLast_sublist l).subset ht)
theorem ci_push {K : Value → M} {t : Tm} {x : Nat} (hq : QR B w p mv qv l) (ht : w.heap[t.blk]? = some (.cells (tC t x) 58 (0, 0))) (hB : B ≤ t.blk) (hn : t.blk ∉ l.map (·.blk)) (hl : l.length ≤ 1000000)
    (kk : ∀ w' qv', QR B w' p mv qv' (l ++ [t]) → ChgS (fun k => fpQ p qv l k ∨ k = t.blk) w w' → (∀ k, fpQ p qv' (l ++ [t]) k → fpQ p qv l k ∨ k = t.blk ∨ w.heap.size ≤ k) → K (.tuple #[]) w' Q) :
    ci Try.prog (hv p) "Push" #[.iface 55 (pv t.blk)] K w Q :=
  ci_p m53 u60 en53 tsz (s53 _ _ _ _ (push_s hq ht hB hn hl kk))
theorem ci_pop {K : Value → M} (hq : QR B w p mv qv l) (hne : 0 < l.length) (hl : l.length ≤ 1000000)
    (kk : ∀ w' qv', QR B w' p mv qv' l.dropLast → Chg p w w' → qv'.ownBlock = qv.ownBlock → K (.iface 55 (pv l[l.length - 1].blk)) w' Q) : ci Try.prog (hv p) "Pop" #[] K w Q :=
  ci_p m52 u60 en52 tsz (s52 _ _ _ (pop_s hq hne hl kk))
/-- heap.Push -/
theorem hpush_s {t : Tm} {x : Nat} (hq : QR B w p mv qv l) (ht : w.heap[t.blk]? = some (.cells (tC t x) 58 (0, 0))) (hB : B ≤ t.blk) (hn : t.blk ∉ l.map (·.blk)) (hl : l.length + 1 ≤ 1000000)
    (kk : ∀ w' qv', QR B w' p mv qv' (Hp.up ltT (l.length + 1) (l ++ [t]) l.length) → ChgS (fun k => fpQ p qv l k ∨ k = t.blk) w w' → (∀ k, fpQ p qv' (l ++ [t]) k → fpQ p qv l k ∨ k = t.blk ∨ w.heap.size ≤ k) → Q (.tuple #[]) w') :
    f23 (hv p) (.iface 55 (pv t.blk)) w Q := by
  unfold f23
  refine ci_push hq ht hB hn (by omega) fun w1 qv1 hq1 hc1 hf1 => ?_
  refine ci_len hq1 ?_
  have e1 : IntKind.i64.wrap (((l ++ [t]).length : Int) - 1) = (l.length : Int) := by
    have : (((l ++ [t]).length : Nat) : Int) = (l.length : Int) + 1 := by simp
    rw [this, w64 (by omega) (by omega)]; omega
  simp only [↓bx_e, ↓al_e, ↓fa_e, ↓ld_e, ↓ad_e, ↓su_e, ↓mu_e, ↓lt_e, ↓le_e, ↓gt_e, ↓ge_e, ↓eqi_e, ↓nei_e, ↓qu_e, ↓re_e, ↓cv_e, ↓nt_e, ↓pk_t, ↓pk_f, ↓pk_e, ↓eqb_e, ↓neb_e, ↓nc_e, ↓ex_e, ↓lnl_e, ↓lns_e, ↓idv_e, ↓cl_e, ↓cnd_e, ↓gd_e, ↓gd_u, ↓gdu_e, ↓rt_e, ↓jn_e, ↓dr_q, ↓kp_e, ↓mnm_e, ↓mxm_e, ↓mif_e, ↓asrt_e, ↓eqs_e, ↓nes_e, Value.cells, add_lit, cell_psh_new, cell_drw, Nat.zero_add, Nat.reduceAdd, get4_0, get4_1, get4_2, get4_3, get3_0, get3_1, get3_2, get2_0, get2_1, get1_0, Option.some.injEq, exists_eq_left', decide_true, decide_false, decide_eq_true_eq, if_true, if_false, Bool.not_true, Bool.not_false, Bool.false_eq_true, Bool.true_eq_false, Bool.not_eq_true', decide_eq_false_iff_not, not_false_eq_true, not_true_eq_false, reduceCtorEq, bx_e, al_e, fa_e, ld_e, ad_e, su_e, mu_e, lt_e, le_e, gt_e, ge_e, eqi_e, nei_e, qu_e, re_e, cv_e, nt_e, pk_t, pk_f, pk_e, eqb_e, neb_e, nc_e, ex_e, lnl_e, lns_e, idv_e, cl_e, cnd_e, gd_e, gd_u, gdu_e, rt_e, jn_e, dr_q, kp_e, mnm_e, mxm_e, mif_e, asrt_e, eqs_e, nes_e, cond_true, cond_false, Bool.true_and, Bool.and_true, Bool.false_and, Bool.and_false, decide_not, e1]
  refine up_s hq1 (by simp) (by rw [List.length_append]; exact hl) fun w2 hq2 hc2 => ?_
  try simp only [↓bx_e, ↓al_e, ↓fa_e, ↓ld_e, ↓ad_e, ↓su_e, ↓mu_e, ↓lt_e, ↓le_e, ↓gt_e, ↓ge_e, ↓eqi_e, ↓nei_e, ↓qu_e, ↓re_e, ↓cv_e, ↓nt_e, ↓pk_t, ↓pk_f, ↓pk_e, ↓eqb_e, ↓neb_e, ↓nc_e, ↓ex_e, ↓lnl_e, ↓lns_e, ↓idv_e, ↓cl_e, ↓cnd_e, ↓gd_e, ↓gd_u, ↓gdu_e, ↓rt_e, ↓jn_e, ↓dr_q, ↓kp_e, ↓mnm_e, ↓mxm_e, ↓mif_e, ↓asrt_e, ↓eqs_e, ↓nes_e, Value.cells, add_lit, cell_psh_new, cell_drw, Nat.zero_add, Nat.reduceAdd, get4_0, get4_1, get4_2, get4_3, get3_0, get3_1, get3_2, get2_0, get2_1, get1_0, Option.some.injEq, exists_eq_left', decide_true, decide_false, decide_eq_true_eq, if_true, if_false, Bool.not_true, Bool.not_false, Bool.false_eq_true, Bool.true_eq_false, Bool.not_eq_true', decide_eq_false_iff_not, not_false_eq_true, not_true_eq_false, reduceCtorEq, bx_e, al_e, fa_e, ld_e, ad_e, su_e, mu_e, lt_e, le_e, gt_e, ge_e, eqi_e, nei_e, qu_e, re_e, cv_e, nt_e, pk_t, pk_f, pk_e, eqb_e, neb_e, nc_e, ex_e, lnl_e, lns_e, idv_e, cl_e, cnd_e, gd_e, gd_u, gdu_e, rt_e, jn_e, dr_q, kp_e, mnm_e, mxm_e, mif_e, asrt_e, eqs_e, nes_e, cond_true, cond_false, Bool.true_and, Bool.and_true, Bool.false_and, Bool.and_false, decide_not]
  exact kk w2 qv1 hq2 (hc1.trans hc2 (fun k hk hkf => by
    rcases hf1 k hkf with h | h | h
    · exact .inl h
    · exact .inr h
    · omega)) hf1
/-- heap.Pop -/
theorem hpop_s (hq : QR B w p mv qv l) (hne : 0 < l.length) (hl : l.length ≤ 1000000)
    (kk : ∀ w' qv' l1, l1 = (Hp.down ltT (l.length - 1) (Hp.swap l 0 (l.length - 1)) 0 (l.length - 1)).1 → (hl1 : l1.length = l.length) → QR B w' p mv qv' l1.dropLast → ChgS (fpQ p qv l) w w' → qv'.ownBlock = qv.ownBlock → Q (.iface 55 (pv (l1[l.length - 1]'(by omega)).blk)) w') :
    f24 (hv p) w Q := by
  unfold f24
  refine ci_len hq ?_
  have e1 : IntKind.i64.wrap ((l.length : Int) - 1) = ((l.length - 1 : Nat) : Int) := by rw [w64 (by omega) (by omega)]; omega
  simp only [↓bx_e, ↓al_e, ↓fa_e, ↓ld_e, ↓ad_e, ↓su_e, ↓mu_e, ↓lt_e, ↓le_e, ↓gt_e, ↓ge_e, ↓eqi_e, ↓nei_e, ↓qu_e, ↓re_e, ↓cv_e, ↓nt_e, ↓pk_t, ↓pk_f, ↓pk_e, ↓eqb_e, ↓neb_e, ↓nc_e, ↓ex_e, ↓lnl_e, ↓lns_e, ↓idv_e, ↓cl_e, ↓cnd_e, ↓gd_e, ↓gd_u, ↓gdu_e, ↓rt_e, ↓jn_e, ↓dr_q, ↓kp_e, ↓mnm_e, ↓mxm_e, ↓mif_e, ↓asrt_e, ↓eqs_e, ↓nes_e, Value.cells, add_lit, cell_psh_new, cell_drw, Nat.zero_add, Nat.reduceAdd, get4_0, get4_1, get4_2, get4_3, get3_0, get3_1, get3_2, get2_0, get2_1, get1_0, Option.some.injEq, exists_eq_left', decide_true, decide_false, decide_eq_true_eq, if_true, if_false, Bool.not_true, Bool.not_false, Bool.false_eq_true, Bool.true_eq_false, Bool.not_eq_true', decide_eq_false_iff_not, not_false_eq_true, not_true_eq_false, reduceCtorEq, bx_e, al_e, fa_e, ld_e, ad_e, su_e, mu_e, lt_e, le_e, gt_e, ge_e, eqi_e, nei_e, qu_e, re_e, cv_e, nt_e, pk_t, pk_f, pk_e, eqb_e, neb_e, nc_e, ex_e, lnl_e, lns_e, idv_e, cl_e, cnd_e, gd_e, gd_u, gdu_e, rt_e, jn_e, dr_q, kp_e, mnm_e, mxm_e, mif_e, asrt_e, eqs_e, nes_e, cond_true, cond_false, Bool.true_and, Bool.and_true, Bool.false_and, Bool.and_false, decide_not, e1]
  refine ci_swap (i := 0) hq hne (by omega) fun w1 hq1 hc1 => ?_
  have hsl := Hp.swap_len l 0 (l.length - 1)
  refine down_s (i := 0) hq1 (Nat.zero_le _) (by omega) (by omega) fun w2 hq2 hc2 => ?_
  rw [Nat.sub_zero] at hq2
  have hdl := down_len ltT (l.length - 1) (Hp.swap l 0 (l.length - 1)) 0 (l.length - 1)
  have hll : (Hp.down ltT (l.length - 1) (Hp.swap l 0 (l.length - 1)) 0 (l.length - 1)).1.length = l.length := by omega
  obtain ⟨l1, hl1⟩ : ∃ l1, l1 = (Hp.down ltT (l.length - 1) (Hp.swap l 0 (l.length - 1)) 0 (l.length - 1)).1 := ⟨_, rfl⟩
  rw [← hl1] at hq2 hll
  try simp only [↓bx_e, ↓al_e, ↓fa_e, ↓ld_e, ↓ad_e, ↓su_e, ↓mu_e, ↓lt_e, ↓le_e, ↓gt_e, ↓ge_e, ↓eqi_e, ↓nei_e, ↓qu_e, ↓re_e, ↓cv_e, ↓nt_e, ↓pk_t, ↓pk_f, ↓pk_e, ↓eqb_e, ↓neb_e, ↓nc_e, ↓ex_e, ↓lnl_e, ↓lns_e, ↓idv_e, ↓cl_e, ↓cnd_e, ↓gd_e, ↓gd_u, ↓gdu_e, ↓rt_e, ↓jn_e, ↓dr_q, ↓kp_e, ↓mnm_e, ↓mxm_e, ↓mif_e, ↓asrt_e, ↓eqs_e, ↓nes_e, Value.cells, add_lit, cell_psh_new, cell_drw, Nat.zero_add, Nat.reduceAdd, get4_0, get4_1, get4_2, get4_3, get3_0, get3_1, get3_2, get2_0, get2_1, get1_0, Option.some.injEq, exists_eq_left', decide_true, decide_false, decide_eq_true_eq, if_true, if_false, Bool.not_true, Bool.not_false, Bool.false_eq_true, Bool.true_eq_false, Bool.not_eq_true', decide_eq_false_iff_not, not_false_eq_true, not_true_eq_false, reduceCtorEq, bx_e, al_e, fa_e, ld_e, ad_e, su_e, mu_e, lt_e, le_e, gt_e, ge_e, eqi_e, nei_e, qu_e, re_e, cv_e, nt_e, pk_t, pk_f, pk_e, eqb_e, neb_e, nc_e, ex_e, lnl_e, lns_e, idv_e, cl_e, cnd_e, gd_e, gd_u, gdu_e, rt_e, jn_e, dr_q, kp_e, mnm_e, mxm_e, mif_e, asrt_e, eqs_e, nes_e, cond_true, cond_false, Bool.true_and, Bool.and_true, Bool.false_and, Bool.and_false, decide_not]
  refine ci_pop hq2 (by omega) (by omega) fun w3 qv3 hq3 hc3 ho3 => ?_
  simp only [↓bx_e, ↓al_e, ↓fa_e, ↓ld_e, ↓ad_e, ↓su_e, ↓mu_e, ↓lt_e, ↓le_e, ↓gt_e, ↓ge_e, ↓eqi_e, ↓nei_e, ↓qu_e, ↓re_e, ↓cv_e, ↓nt_e, ↓pk_t, ↓pk_f, ↓pk_e, ↓eqb_e, ↓neb_e, ↓nc_e, ↓ex_e, ↓lnl_e, ↓lns_e, ↓idv_e, ↓cl_e, ↓cnd_e, ↓gd_e, ↓gd_u, ↓gdu_e, ↓rt_e, ↓jn_e, ↓dr_q, ↓kp_e, ↓mnm_e, ↓mxm_e, ↓mif_e, ↓asrt_e, ↓eqs_e, ↓nes_e, Value.cells, add_lit, cell_psh_new, cell_drw, Nat.zero_add, Nat.reduceAdd, get4_0, get4_1, get4_2, get4_3, get3_0, get3_1, get3_2, get2_0, get2_1, get1_0, Option.some.injEq, exists_eq_left', decide_true, decide_false, decide_eq_true_eq, if_true, if_false, Bool.not_true, Bool.not_false, Bool.false_eq_true, Bool.true_eq_false, Bool.not_eq_true', decide_eq_false_iff_not, not_false_eq_true, not_true_eq_false, reduceCtorEq, bx_e, al_e, fa_e, ld_e, ad_e, su_e, mu_e, lt_e, le_e, gt_e, ge_e, eqi_e, nei_e, qu_e, re_e, cv_e, nt_e, pk_t, pk_f, pk_e, eqb_e, neb_e, nc_e, ex_e, lnl_e, lns_e, idv_e, cl_e, cnd_e, gd_e, gd_u, gdu_e, rt_e, jn_e, dr_q, kp_e, mnm_e, mxm_e, mif_e, asrt_e, eqs_e, nes_e, cond_true, cond_false, Bool.true_and, Bool.and_true, Bool.false_and, Bool.and_false, decide_not]
  have := kk w3 qv3 l1 hl1 hll hq3 ((hc1.trans hc2 (fun k _ hk => (fpQ_swap hne (by omega)).1 hk)).trans (.of_chg (S := fpQ p qv l) hc3 (.inl rfl)) (fun _ _ h => h)) ho3
  simpa [hll] using this
end
end Go.Proofs.Ytpjffilejnemmaa
