/- A queue's two places changed over; its length; one more, one less. -/
import Derived.Test.YtpjffilejnemmaaT0
set_option linter.unusedVariables false
set_option linter.unusedSimpArgs false
set_option linter.unusedSectionVars false
namespace Go.Proofs.Ytpjffilejnemmaa
open Sh RowKit

theorem swap_get {l : List Tm} {i j k : Nat} (hi : i < l.length) (hj : j < l.length) (hk : k < (Hp.swap l i j).length) : (Hp.swap l i j)[k] = if k = j then l[i] else if k = i then l[j] else l[k]'(by rw [Hp.swap_len] at hk; exact hk) := by
  have hk' : k < l.length := by rw [Hp.swap_len] at hk; exact hk
  rw [← Hp.g_get hk, Hp.g_swap hi hj, Hp.g_get hi, Hp.g_get hj, Hp.g_get hk']
theorem swap_map {l : List Tm} {i j : Nat} (hi : i < l.length) (hj : j < l.length) : (Hp.swap l i j).map (fun t => pv t.blk) = ((l.map fun t => pv t.blk).set i (pv l[j].blk)).set j (pv l[i].blk) := by
  unfold Hp.swap
  rw [Hp.g_get hi, Hp.g_get hj, List.map_set, List.map_set]
theorem nd_ne {l : List Tm} (h : (l.map (·.blk)).Nodup) {i j : Nat} (hi : i < l.length) (hj : j < l.length) (hne : i ≠ j) : l[i].blk ≠ l[j].blk := by
  intro e
  have h1 : (l.map (·.blk))[i]? = some l[i].blk := by simp [hi]
  have h2 : (l.map (·.blk))[j]? = some l[i].blk := by simp [hj, e]
  exact hne ((List.getElem?_inj (by simpa using hi) h).1 (by rw [h1, h2]))
theorem mem_blk {l : List Tm} {i : Nat} (hi : i < l.length) : l[i].blk ∈ l.map (·.blk) := List.mem_map.2 ⟨_, List.getElem_mem hi, rfl⟩
theorem swap_s {B : Nat} {w : World} {p : Nat} {mv qv : Value} {l : List Tm} (hq : QR B w p mv qv l) {i j : Nat} (hi : i < l.length) (hj : j < l.length) (Q : Value → World → Prop)
    (h : ∀ w', QR B w' p mv qv (Hp.swap l i j) → ChgS (fpQ p qv l) w w' → Q (.tuple #[]) w') : f46 qv (.int .i64 (i : Int)) (.int .i64 (j : Int)) w Q := by
  unfold f46
  have hq0 := hq
  obtain ⟨g, cap, hqv, hob, hB, ⟨cur, hcur⟩, hcell⟩ := hq.slice (by omega)
  have ti := hq.tm i hi
  have tj := hq.tm j hj
  have hgp : g ≠ p := by intro e; rw [e, hq.hp] at hcur; cases hcur
  have hgt : ∀ (k : Nat) (hk : k < l.length), g ≠ l[k].blk := by intro k hk e; rw [e, hq.tm k hk] at hcur; cases hcur
  have hpt : ∀ (k : Nat) (hk : k < l.length), p ≠ l[k].blk := by intro k hk e; have := hq.hp; rw [e, hq.tm k hk] at this; cases this
  have ci : (drw w).cell? ⟨g, i, none⟩ = some (pv l[i].blk) := hcell i hi
  have cj : (drw w).cell? ⟨g, j, none⟩ = some (pv l[j].blk) := hcell j hj
  have ch0 : ChgS (fpQ p qv l) w (drw w) := (ChgS.refl _ w).drw
  have hcur : (drw w).heap[g]? = _ := hcur
  have hq := hq.drw
  subst hqv
  simp only [↓bx_e, ↓al_e, ↓fa_e, ↓ld_e, ↓ad_e, ↓su_e, ↓mu_e, ↓lt_e, ↓le_e, ↓gt_e, ↓ge_e, ↓eqi_e, ↓nei_e, ↓qu_e, ↓re_e, ↓cv_e, ↓nt_e, ↓pk_t, ↓pk_f, ↓pk_e, ↓eqb_e, ↓neb_e, ↓nc_e, ↓ex_e, ↓lnl_e, ↓lns_e, ↓idv_e, ↓cl_e, ↓cnd_e, ↓gd_e, ↓gd_u, ↓gdu_e, ↓rt_e, ↓jn_e, ↓dr_q, ↓kp_e, ↓mnm_e, ↓mxm_e, ↓mif_e, ↓asrt_e, ↓eqs_e, ↓nes_e, Value.cells, add_lit, cell_psh_new, cell_drw, Nat.zero_add, Nat.reduceAdd, get4_0, get4_1, get4_2, get4_3, get3_0, get3_1, get3_2, get2_0, get2_1, get1_0, Option.some.injEq, exists_eq_left', decide_true, decide_false, decide_eq_true_eq, if_true, if_false, Bool.not_true, Bool.not_false, Bool.false_eq_true, Bool.true_eq_false, Bool.not_eq_true', decide_eq_false_iff_not, not_false_eq_true, not_true_eq_false, reduceCtorEq, bx_e, al_e, fa_e, ld_e, ad_e, su_e, mu_e, lt_e, le_e, gt_e, ge_e, eqi_e, nei_e, qu_e, re_e, cv_e, nt_e, pk_t, pk_f, pk_e, eqb_e, neb_e, nc_e, ex_e, lnl_e, lns_e, idv_e, cl_e, cnd_e, gd_e, gd_u, gdu_e, rt_e, jn_e, dr_q, kp_e, mnm_e, mxm_e, mif_e, asrt_e, eqs_e, nes_e, cond_true, cond_false, Bool.true_and, Bool.and_true, Bool.false_and, Bool.and_false, decide_not, ia_at hi, ia_at hj, ci, cj]
  generalize drw w = w1 at *
  have hcs : cur.size = cap ∧ l.length ≤ cap := by
    rcases ownV_cases hq.own with ⟨e, _⟩ | ⟨g', cap', cur', e1, _, hb', hn, _, hs, _⟩
    · cases e
    · rw [List.length_map] at e1; cases e1; rw [hcur] at hb'; cases hb'; rw [List.length_map] at hn; exact ⟨hs, hn⟩
  have hic : i < cur.size := by omega
  have hjc : j < (cur.setIfInBounds i (pv l[j].blk)).size := by rw [Array.size_setIfInBounds]; omega
  refine st_box hcur hic (show (pv l[j].blk).oneCell' = true from rfl) fun w2 h2 hu2 => ?_
  try simp only [↓bx_e, ↓al_e, ↓fa_e, ↓ld_e, ↓ad_e, ↓su_e, ↓mu_e, ↓lt_e, ↓le_e, ↓gt_e, ↓ge_e, ↓eqi_e, ↓nei_e, ↓qu_e, ↓re_e, ↓cv_e, ↓nt_e, ↓pk_t, ↓pk_f, ↓pk_e, ↓eqb_e, ↓neb_e, ↓nc_e, ↓ex_e, ↓lnl_e, ↓lns_e, ↓idv_e, ↓cl_e, ↓cnd_e, ↓gd_e, ↓gd_u, ↓gdu_e, ↓rt_e, ↓jn_e, ↓dr_q, ↓kp_e, ↓mnm_e, ↓mxm_e, ↓mif_e, ↓asrt_e, ↓eqs_e, ↓nes_e, Value.cells, add_lit, cell_psh_new, cell_drw, Nat.zero_add, Nat.reduceAdd, get4_0, get4_1, get4_2, get4_3, get3_0, get3_1, get3_2, get2_0, get2_1, get1_0, Option.some.injEq, exists_eq_left', decide_true, decide_false, decide_eq_true_eq, if_true, if_false, Bool.not_true, Bool.not_false, Bool.false_eq_true, Bool.true_eq_false, Bool.not_eq_true', decide_eq_false_iff_not, not_false_eq_true, not_true_eq_false, reduceCtorEq, bx_e, al_e, fa_e, ld_e, ad_e, su_e, mu_e, lt_e, le_e, gt_e, ge_e, eqi_e, nei_e, qu_e, re_e, cv_e, nt_e, pk_t, pk_f, pk_e, eqb_e, neb_e, nc_e, ex_e, lnl_e, lns_e, idv_e, cl_e, cnd_e, gd_e, gd_u, gdu_e, rt_e, jn_e, dr_q, kp_e, mnm_e, mxm_e, mif_e, asrt_e, eqs_e, nes_e, cond_true, cond_false, Bool.true_and, Bool.and_true, Bool.false_and, Bool.and_false, decide_not]
  rw [ia_at hj]
  refine st_box h2 hjc (show (pv l[i].blk).oneCell' = true from rfl) fun w3 h3 hu3 => ?_
  have o2 : ownV B 55 w2 (.slice (some ⟨g, 0, none⟩) l.length cap) ((l.map fun t => pv t.blk).set i (pv l[j].blk)) := ownV_set hq.own (by simpa using hi) rfl (fun c hc => by rw [hcur] at hc; cases hc; exact h2)
  have o3 : ownV B 55 w3 (.slice (some ⟨g, 0, none⟩) l.length cap) (((l.map fun t => pv t.blk).set i (pv l[j].blk)).set j (pv l[i].blk)) := ownV_set o2 (by simpa using hj) rfl (fun c hc => by rw [h2] at hc; cases hc; exact h3)
  rw [← swap_map hi hj] at o3
  have k3 : ∀ k, k ≠ g → w3.heap[k]? = w1.heap[k]? := fun k hk => by rw [hu3.block k hk, hu2.block k hk]
  have hil : i < (Hp.swap l i j).length := by rw [Hp.swap_len]; exact hi
  have hjl : j < (Hp.swap l i j).length := by rw [Hp.swap_len]; exact hj
  obtain ⟨g', cap', e1, _, _, _, hc3⟩ := ownV_blk o3 (by intro e; rw [List.map_eq_nil_iff] at e; rw [e] at hil; simp at hil)
  simp only [Value.slice.injEq, Option.some.injEq, Addr.mk.injEq] at e1
  obtain ⟨⟨rfl, _⟩, _, rfl⟩ := e1
  have di : (drw w3).cell? ⟨g, i, none⟩ = some (pv (Hp.swap l i j)[i].blk) := by have := hc3 i (by simpa using hil); rw [List.getElem_map] at this; exact this
  have dj : (drw w3).cell? ⟨g, j, none⟩ = some (pv (Hp.swap l i j)[j].blk) := by have := hc3 j (by simpa using hjl); rw [List.getElem_map] at this; exact this
  have gi : (Hp.swap l i j)[i] = l[j] := by
    rw [swap_get hi hj]
    split
    · simp_all
    · simp
  have gj : (Hp.swap l i j)[j] = l[i] := by rw [swap_get hi hj]; simp
  rw [gi] at di
  rw [gj] at dj
  have tj3 : (drw w3).heap[l[j].blk]? = some (.cells (tC l[j] j) 58 (0, 0)) := (k3 _ (Ne.symm (hgt j hj))).trans (hq.tm j hj)
  simp only [↓bx_e, ↓al_e, ↓fa_e, ↓ld_e, ↓ad_e, ↓su_e, ↓mu_e, ↓lt_e, ↓le_e, ↓gt_e, ↓ge_e, ↓eqi_e, ↓nei_e, ↓qu_e, ↓re_e, ↓cv_e, ↓nt_e, ↓pk_t, ↓pk_f, ↓pk_e, ↓eqb_e, ↓neb_e, ↓nc_e, ↓ex_e, ↓lnl_e, ↓lns_e, ↓idv_e, ↓cl_e, ↓cnd_e, ↓gd_e, ↓gd_u, ↓gdu_e, ↓rt_e, ↓jn_e, ↓dr_q, ↓kp_e, ↓mnm_e, ↓mxm_e, ↓mif_e, ↓asrt_e, ↓eqs_e, ↓nes_e, Value.cells, add_lit, cell_psh_new, cell_drw, Nat.zero_add, Nat.reduceAdd, get4_0, get4_1, get4_2, get4_3, get3_0, get3_1, get3_2, get2_0, get2_1, get1_0, Option.some.injEq, exists_eq_left', decide_true, decide_false, decide_eq_true_eq, if_true, if_false, Bool.not_true, Bool.not_false, Bool.false_eq_true, Bool.true_eq_false, Bool.not_eq_true', decide_eq_false_iff_not, not_false_eq_true, not_true_eq_false, reduceCtorEq, bx_e, al_e, fa_e, ld_e, ad_e, su_e, mu_e, lt_e, le_e, gt_e, ge_e, eqi_e, nei_e, qu_e, re_e, cv_e, nt_e, pk_t, pk_f, pk_e, eqb_e, neb_e, nc_e, ex_e, lnl_e, lns_e, idv_e, cl_e, cnd_e, gd_e, gd_u, gdu_e, rt_e, jn_e, dr_q, kp_e, mnm_e, mxm_e, mif_e, asrt_e, eqs_e, nes_e, cond_true, cond_false, Bool.true_and, Bool.and_true, Bool.false_and, Bool.and_false, decide_not, ia_at hi, ia_at hj, di, dj, pv]
  refine st_box (w := drw w3) tj3 (by simp [tC]) rfl fun w4 h4 hu4 => ?_
  have e4 : (tC l[j] j).setIfInBounds 2 (.int .i64 (i : Int)) = tC l[j] i := rfl
  rw [e4] at h4
  try simp only [↓bx_e, ↓al_e, ↓fa_e, ↓ld_e, ↓ad_e, ↓su_e, ↓mu_e, ↓lt_e, ↓le_e, ↓gt_e, ↓ge_e, ↓eqi_e, ↓nei_e, ↓qu_e, ↓re_e, ↓cv_e, ↓nt_e, ↓pk_t, ↓pk_f, ↓pk_e, ↓eqb_e, ↓neb_e, ↓nc_e, ↓ex_e, ↓lnl_e, ↓lns_e, ↓idv_e, ↓cl_e, ↓cnd_e, ↓gd_e, ↓gd_u, ↓gdu_e, ↓rt_e, ↓jn_e, ↓dr_q, ↓kp_e, ↓mnm_e, ↓mxm_e, ↓mif_e, ↓asrt_e, ↓eqs_e, ↓nes_e, Value.cells, add_lit, cell_psh_new, cell_drw, Nat.zero_add, Nat.reduceAdd, get4_0, get4_1, get4_2, get4_3, get3_0, get3_1, get3_2, get2_0, get2_1, get1_0, Option.some.injEq, exists_eq_left', decide_true, decide_false, decide_eq_true_eq, if_true, if_false, Bool.not_true, Bool.not_false, Bool.false_eq_true, Bool.true_eq_false, Bool.not_eq_true', decide_eq_false_iff_not, not_false_eq_true, not_true_eq_false, reduceCtorEq, bx_e, al_e, fa_e, ld_e, ad_e, su_e, mu_e, lt_e, le_e, gt_e, ge_e, eqi_e, nei_e, qu_e, re_e, cv_e, nt_e, pk_t, pk_f, pk_e, eqb_e, neb_e, nc_e, ex_e, lnl_e, lns_e, idv_e, cl_e, cnd_e, gd_e, gd_u, gdu_e, rt_e, jn_e, dr_q, kp_e, mnm_e, mxm_e, mif_e, asrt_e, eqs_e, nes_e, cond_true, cond_false, Bool.true_and, Bool.and_true, Bool.false_and, Bool.and_false, decide_not]
  have ti4 : ∃ x : Nat, w4.heap[l[i].blk]? = some (.cells (tC l[i] x) 58 (0, 0)) := by
    by_cases e : i = j
    · subst e; exact ⟨i, h4⟩
    · refine ⟨i, ?_⟩
      rw [hu4.block _ (nd_ne hq.nd hi hj e)]
      exact (k3 _ (Ne.symm (hgt i hi))).trans (hq.tm i hi)
  obtain ⟨x, ti4⟩ := ti4
  refine st_box ti4 (by simp [tC]) rfl fun w5 h5 hu5 => ?_
  have e5 : (tC l[i] x).setIfInBounds 2 (.int .i64 (j : Int)) = tC l[i] j := rfl
  rw [e5] at h5
  try simp only [↓bx_e, ↓al_e, ↓fa_e, ↓ld_e, ↓ad_e, ↓su_e, ↓mu_e, ↓lt_e, ↓le_e, ↓gt_e, ↓ge_e, ↓eqi_e, ↓nei_e, ↓qu_e, ↓re_e, ↓cv_e, ↓nt_e, ↓pk_t, ↓pk_f, ↓pk_e, ↓eqb_e, ↓neb_e, ↓nc_e, ↓ex_e, ↓lnl_e, ↓lns_e, ↓idv_e, ↓cl_e, ↓cnd_e, ↓gd_e, ↓gd_u, ↓gdu_e, ↓rt_e, ↓jn_e, ↓dr_q, ↓kp_e, ↓mnm_e, ↓mxm_e, ↓mif_e, ↓asrt_e, ↓eqs_e, ↓nes_e, Value.cells, add_lit, cell_psh_new, cell_drw, Nat.zero_add, Nat.reduceAdd, get4_0, get4_1, get4_2, get4_3, get3_0, get3_1, get3_2, get2_0, get2_1, get1_0, Option.some.injEq, exists_eq_left', decide_true, decide_false, decide_eq_true_eq, if_true, if_false, Bool.not_true, Bool.not_false, Bool.false_eq_true, Bool.true_eq_false, Bool.not_eq_true', decide_eq_false_iff_not, not_false_eq_true, not_true_eq_false, reduceCtorEq, bx_e, al_e, fa_e, ld_e, ad_e, su_e, mu_e, lt_e, le_e, gt_e, ge_e, eqi_e, nei_e, qu_e, re_e, cv_e, nt_e, pk_t, pk_f, pk_e, eqb_e, neb_e, nc_e, ex_e, lnl_e, lns_e, idv_e, cl_e, cnd_e, gd_e, gd_u, gdu_e, rt_e, jn_e, dr_q, kp_e, mnm_e, mxm_e, mif_e, asrt_e, eqs_e, nes_e, cond_true, cond_false, Bool.true_and, Bool.and_true, Bool.false_and, Bool.and_false, decide_not]
  have k5 : ∀ k, k ≠ g → k ≠ l[i].blk → k ≠ l[j].blk → w5.heap[k]? = w1.heap[k]? := fun k a b c => by
    rw [hu5.block k b, hu4.block k c]; exact k3 k a
  refine h w5 ⟨?_, ?_, ?_, ?_, hq.bp, ?_⟩ ?_
  · rw [k5 p (Ne.symm hgp) (hpt i hi) (hpt j hj)]; exact hq.hp
  · refine ownV_stay o3 fun g'' hg'' => ?_
    cases hg''
    rw [hu5.block g (hgt i hi), hu4.block g (hgt j hj)]; rfl
  · intro k hk
    have hk' : k < l.length := by rw [Hp.swap_len] at hk; exact hk
    have hg := swap_get hi hj hk
    by_cases e1 : k = j
    · subst e1
      rw [if_pos rfl] at hg
      rw [hg]; exact h5
    · rw [if_neg e1] at hg
      by_cases e2 : k = i
      · subst e2
        rw [if_pos rfl] at hg
        rw [hg, hu5.block _ (nd_ne hq.nd hj hi (Ne.symm e1))]
        exact h4
      · rw [if_neg e2] at hg
        rw [hg, k5 _ (Ne.symm (hgt k hk')) (nd_ne hq.nd hk' hi e2) (nd_ne hq.nd hk' hj e1)]
        exact hq.tm k hk'
  · exact ((Hp.swap_perm hi hj).map _).nodup_iff.2 hq.nd
  · intro t ht
    exact hq.bt t ((Hp.swap_perm hi hj).mem_iff.1 ht)
  · have s2 : ChgS (fpQ p (.slice (some ⟨g, 0, none⟩) l.length cap) l) w1 w2 := .of_upd hu2 (.inr (.inl rfl))
    have s3 : ChgS (fpQ p (.slice (some ⟨g, 0, none⟩) l.length cap) l) w2 w3 := .of_upd hu3 (.inr (.inl rfl))
    have s4 : ChgS (fpQ p (.slice (some ⟨g, 0, none⟩) l.length cap) l) w3 w4 := (ChgS.of_upd hu4 (.inr (.inr (mem_blk hj)))).of_drw
    have s5 : ChgS (fpQ p (.slice (some ⟨g, 0, none⟩) l.length cap) l) w4 w5 := .of_upd hu5 (.inr (.inr (mem_blk hi)))
    exact ((((ch0.trans s2 (fun _ _ h => h)).trans s3 (fun _ _ h => h)).trans s4 (fun _ _ h => h)).trans s5 (fun _ _ h => h))
theorem len_s {B : Nat} {w : World} {p : Nat} {mv qv : Value} {l : List Tm} (hq : QR B w p mv qv l) (Q : Value → World → Prop) (h : Q (.int .i64 (l.length : Int)) w) : f44 qv w Q := by
  unfold f44
  refine lnl_V hq.own ?_
  rw [List.length_map]
  simp only [↓bx_e, ↓al_e, ↓fa_e, ↓ld_e, ↓ad_e, ↓su_e, ↓mu_e, ↓lt_e, ↓le_e, ↓gt_e, ↓ge_e, ↓eqi_e, ↓nei_e, ↓qu_e, ↓re_e, ↓cv_e, ↓nt_e, ↓pk_t, ↓pk_f, ↓pk_e, ↓eqb_e, ↓neb_e, ↓nc_e, ↓ex_e, ↓lnl_e, ↓lns_e, ↓idv_e, ↓cl_e, ↓cnd_e, ↓gd_e, ↓gd_u, ↓gdu_e, ↓rt_e, ↓jn_e, ↓dr_q, ↓kp_e, ↓mnm_e, ↓mxm_e, ↓mif_e, ↓asrt_e, ↓eqs_e, ↓nes_e, Value.cells, add_lit, cell_psh_new, cell_drw, Nat.zero_add, Nat.reduceAdd, get4_0, get4_1, get4_2, get4_3, get3_0, get3_1, get3_2, get2_0, get2_1, get1_0, Option.some.injEq, exists_eq_left', decide_true, decide_false, decide_eq_true_eq, if_true, if_false, Bool.not_true, Bool.not_false, Bool.false_eq_true, Bool.true_eq_false, Bool.not_eq_true', decide_eq_false_iff_not, not_false_eq_true, not_true_eq_false, reduceCtorEq, bx_e, al_e, fa_e, ld_e, ad_e, su_e, mu_e, lt_e, le_e, gt_e, ge_e, eqi_e, nei_e, qu_e, re_e, cv_e, nt_e, pk_t, pk_f, pk_e, eqb_e, neb_e, nc_e, ex_e, lnl_e, lns_e, idv_e, cl_e, cnd_e, gd_e, gd_u, gdu_e, rt_e, jn_e, dr_q, kp_e, mnm_e, mxm_e, mif_e, asrt_e, eqs_e, nes_e, cond_true, cond_false, Bool.true_and, Bool.and_true, Bool.false_and, Bool.and_false, decide_not]
  exact h
/-! by way of the interface -/
def hv (p : Nat) : Value := .iface 60 (.pointer (some ⟨p, 0, none⟩))
section
variable {B : Nat} {w : World} {p : Nat} {mv qv : Value} {l : List Tm} {K : Value → M} {Q : Value → World → Prop}
theorem ci_len (hq : QR B w p mv qv l) (h : K (.int .i64 (l.length : Int)) w Q) : ci Try.prog (hv p) "Len" #[] K w Q :=
  ci_v m44 u60 sc52 en44 tsz (cell_of_blk (n := 0) hq.hp) (s44 _ _ _ (len_s hq _ h))
theorem ci_less (hq : QR B w p mv qv l) {i j : Nat} (hi : i < l.length) (hj : j < l.length) (h : ∀ w', Below w.heap.size w w' → K (.bool (ltT l[i] l[j])) w' Q) : ci Try.prog (hv p) "Less" #[.int .i64 (i : Int), .int .i64 (j : Int)] K w Q :=
  ci_v m45 u60 sc52 en45 tsz (cell_of_blk (n := 0) hq.hp) (s45 _ _ _ _ _ (less_s hq hi hj _ h))
theorem ci_swap (hq : QR B w p mv qv l) {i j : Nat} (hi : i < l.length) (hj : j < l.length) (h : ∀ w', QR B w' p mv qv (Hp.swap l i j) → ChgS (fpQ p qv l) w w' → K (.tuple #[]) w' Q) : ci Try.prog (hv p) "Swap" #[.int .i64 (i : Int), .int .i64 (j : Int)] K w Q :=
  ci_v m46 u60 sc52 en46 tsz (cell_of_blk (n := 0) hq.hp) (s46 _ _ _ _ _ (swap_s hq hi hj _ h))
end
theorem fpQ_swap {p : Nat} {qv : Value} {l : List Tm} {i j : Nat} (hi : i < l.length) (hj : j < l.length) {k : Nat} : fpQ p qv (Hp.swap l i j) k ↔ fpQ p qv l k := by
  unfold fpQ
  rw [((Hp.swap_perm hi hj).map _).mem_iff]
end Go.Proofs.Ytpjffilejnemmaa
