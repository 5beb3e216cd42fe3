/- The document's device: a crash. -/
import Derived.Test.YtjaiodbonffciaaD8
set_option linter.unusedVariables false
set_option linter.unusedSimpArgs false
set_option linter.unusedSectionVars false
namespace Go.Proofs.Ytjaiodbonffciaa
open Sh RowKit Go.MapKept
theorem unsP_pl (A : List Sec) : unsP (A.map pl) = uns A := by
  unfold unsP uns
  rw [List.length_map]
  refine List.filter_congr fun i hi => ?_
  rw [List.getElem?_map]
  cases A[i]? with
  | none => rfl
  | some x => simp [pl]
theorem unsPL_pl (A : List Sec) : unsPL (A.map pl) = unsL A := by unfold unsPL unsL; rw [unsP_pl]
theorem son_ext {a b : ByteArray} (h : byL a = byL b) : a = b := byL_inj h
theorem torn_str (y s : Sct) {c : Nat} (hc : c ≤ 64) : y.1.extract 0 c ++ s.1.extract c s.1.size = (torn y s c).1 := by
  apply byL_inj
  rw [byL_app, byL_take, byL_take, byL_torn, List.drop_zero, s.2]
  congr 1
  rw [List.take_of_length_le (by rw [byL_len, s.2]; exact Nat.le_refl _)]
theorem pl_nw {keep : List Bool} {tn cut : Int} {x : Sec} {k : Nat} : pl ⟨nw keep tn cut x k, none⟩ = ((nw keep tn cut x k).1, (nw keep tn cut x k).1, false) := rfl
section
variable {B : Nat} {w w' : World} {q : Nat} {u : Value} {c h : Int} {Q : Value → World → Prop} {keep : List Bool} {tn cut : Int} {vk : Value}
theorem crash1_map {A : List Sec} {i k : Nat} {x : Sec} (hx : A[i]? = some x) : (crash1 (fun _ => none) keep tn cut A i k).map pl = (A.map pl).set i ((nw keep tn cut x k).1, (nw keep tn cut x k).1, false) := by
  unfold crash1
  simp only [hx]
  rw [List.map_set, pl_nw]
theorem f34_loop {W : World} {v : Value} {B2 : Nat} (A0 : List Sec) (hk : rdS 1 bR W vk keep) (hWB : W.heap.size ≤ B) (hn : A0.length ≤ 4096) (j1 : Value → M) : ∀ (d m k : Nat) (w : World) (A : List Sec), k + d = (uns A0).length → d < m → Below W.heap.size W w →
    RQ B w q u (A.map pl) c h → ownI B2 3 .i64 w v (unsL A0) → A.length = A0.length → (∀ m' (hm : m' < (uns A0).length), k ≤ m' → A[(uns A0)[m']]? = A0[(uns A0)[m']]?) →
    (∀ w', RQ B w' q u ((crashL (fun _ => none) keep tn cut A ((uns A0).drop k) k).map pl) c h → ChgS (fpR q u) w w' → j1 (pv q) w' Q) →
    itr (fun _ _ _ _ _ _ => bot) (f34_b2 j1) m (pv q) vk (.int .i64 tn) (.int .i64 cut) v (.int .i64 (k : Int)) w Q := by
  intro d
  induction d with
  | zero =>
    intro m k w A hkd hm hb r ho hlen hsame kk
    obtain ⟨m, rfl⟩ : ∃ x, m = x + 1 := ⟨m - 1, by omega⟩
    show f34_b2 j1 _ _ _ _ _ _ _ w Q
    unfold f34_b2
    refine lnl_rd (ownI_rd ho) ?_
    have cc : ¬ (k : Int) < (unsL A0).length := by unfold unsL; rw [List.length_map]; omega
    simp only [↓bx_e, ↓al_e, ↓fa_e, ↓ld_e, ↓ad_e, ↓su_e, ↓mu_e, ↓lt_e, ↓le_e, ↓gt_e, ↓ge_e, ↓eqi_e, ↓nei_e, ↓qu_e, ↓re_e, ↓cv_e, ↓nt_e, ↓pk_t, ↓pk_f, ↓pk_e, ↓eqb_e, ↓neb_e, ↓nc_e, ↓ex_e, ↓lnl_e, ↓lns_e, ↓idv_e, ↓cl_e, ↓cnd_e, ↓gd_e, ↓gd_u, ↓gdu_e, ↓rt_e, ↓jn_e, ↓dr_q, ↓kp_e, ↓mnm_e, ↓mxm_e, ↓mif_e, ↓asrt_e, ↓eqs_e, ↓nes_e, Value.cells, add_lit, cell_psh_new, cell_drw, Nat.zero_add, Nat.reduceAdd, get4_0, get4_1, get4_2, get4_3, get3_0, get3_1, get3_2, get2_0, get2_1, get1_0, Option.some.injEq, exists_eq_left', decide_true, decide_false, decide_eq_true_eq, if_true, if_false, Bool.not_true, Bool.not_false, Bool.false_eq_true, Bool.true_eq_false, Bool.not_eq_true', decide_eq_false_iff_not, not_false_eq_true, not_true_eq_false, reduceCtorEq, bx_e, al_e, fa_e, ld_e, ad_e, su_e, mu_e, lt_e, le_e, gt_e, ge_e, eqi_e, nei_e, qu_e, re_e, cv_e, nt_e, pk_t, pk_f, pk_e, eqb_e, neb_e, nc_e, ex_e, lnl_e, lns_e, idv_e, cl_e, cnd_e, gd_e, gd_u, gdu_e, rt_e, jn_e, dr_q, kp_e, mnm_e, mxm_e, mif_e, asrt_e, eqs_e, nes_e, cond_true, cond_false, Bool.true_and, Bool.and_true, Bool.false_and, Bool.and_false, decide_not, cc]
    refine kk w ?_ (ChgS.refl _ w)
    rw [List.drop_of_length_le (by omega)]
    exact r
  | succ d ih =>
    intro m k w A hkd hm hb r ho hlen hsame kk
    obtain ⟨m, rfl⟩ : ∃ x, m = x + 1 := ⟨m - 1, by omega⟩
    show f34_b2 j1 _ _ _ _ _ _ _ w Q
    unfold f34_b2
    refine lnl_rd (ownI_rd ho) ?_
    have hku : k < (unsL A0).length := by unfold unsL; rw [List.length_map]; omega
    have cc : (k : Int) < (unsL A0).length := by omega
    have hkk : k < (uns A0).length := by omega
    obtain ⟨ad, hc, hia⟩ := rdI_at (ownI_rd ho) hku
    rw [uns_num hku] at hc
    generalize hi : (uns A0)[k] = i at *
    have hiA : i < A0.length := uns_lt (hi ▸ List.getElem_mem hkk)
    obtain ⟨x, y, hx0, hxu⟩ := uns_mem.1 (show i ∈ uns A0 from hi ▸ List.getElem_mem hkk)
    have hx : A[i]? = some x := by
      have := hsame k hkk (Nat.le_refl _)
      rw [hi] at this
      rw [this]; exact hx0
    have hiP : i < (A.map pl).length := by rw [List.length_map]; omega
    have hpi : (A.map pl)[i] = pl x := by
      have : (A.map pl)[i]? = some (pl x) := by rw [List.getElem?_map, hx]; rfl
      rw [List.getElem?_eq_getElem hiP] at this
      exact Option.some.inj this
    obtain ⟨adp, es, he1, he2, he3, hiap⟩ := rdS_at r.rdp hiP
    have he3 : es = encP (pl x) := by rw [he3, hpi]
    subst he3
    have hdrop : (uns A0).drop k = i :: (uns A0).drop (k + 1) := by rw [List.drop_eq_getElem_cons hkk, hi]
    have h3 : IntKind.i64.wrap ((k : Int) + 1) = ((k + 1 : Nat) : Int) := by
      have := uns_len A0
      rw [w64 (by omega) (by omega)]; rfl
    have k0 : (drw w).cell? ⟨q, 0, none⟩ = some u := r.c0
    have hcd : (drw w).cell? ad = some (.int .i64 ((i : Nat) : Int)) := hc
    simp only [↓bx_e, ↓al_e, ↓fa_e, ↓ld_e, ↓ad_e, ↓su_e, ↓mu_e, ↓lt_e, ↓le_e, ↓gt_e, ↓ge_e, ↓eqi_e, ↓nei_e, ↓qu_e, ↓re_e, ↓cv_e, ↓nt_e, ↓pk_t, ↓pk_f, ↓pk_e, ↓eqb_e, ↓neb_e, ↓nc_e, ↓ex_e, ↓lnl_e, ↓lns_e, ↓idv_e, ↓cl_e, ↓cnd_e, ↓gd_e, ↓gd_u, ↓gdu_e, ↓rt_e, ↓jn_e, ↓dr_q, ↓kp_e, ↓mnm_e, ↓mxm_e, ↓mif_e, ↓asrt_e, ↓eqs_e, ↓nes_e, Value.cells, add_lit, cell_psh_new, cell_drw, Nat.zero_add, Nat.reduceAdd, get4_0, get4_1, get4_2, get4_3, get3_0, get3_1, get3_2, get2_0, get2_1, get1_0, Option.some.injEq, exists_eq_left', decide_true, decide_false, decide_eq_true_eq, if_true, if_false, Bool.not_true, Bool.not_false, Bool.false_eq_true, Bool.true_eq_false, Bool.not_eq_true', decide_eq_false_iff_not, not_false_eq_true, not_true_eq_false, reduceCtorEq, bx_e, al_e, fa_e, ld_e, ad_e, su_e, mu_e, lt_e, le_e, gt_e, ge_e, eqi_e, nei_e, qu_e, re_e, cv_e, nt_e, pk_t, pk_f, pk_e, eqb_e, neb_e, nc_e, ex_e, lnl_e, lns_e, idv_e, cl_e, cnd_e, gd_e, gd_u, gdu_e, rt_e, jn_e, dr_q, kp_e, mnm_e, mxm_e, mif_e, asrt_e, eqs_e, nes_e, cond_true, cond_false, Bool.true_and, Bool.and_true, Bool.false_and, Bool.and_false, decide_not, cc, k0, hia, hcd, hiap]
    refine ldn_at (show cellsAt (drw w) adp _ from he2) rfl ?_
    simp only [↓bx_e, ↓al_e, ↓fa_e, ↓ld_e, ↓ad_e, ↓su_e, ↓mu_e, ↓lt_e, ↓le_e, ↓gt_e, ↓ge_e, ↓eqi_e, ↓nei_e, ↓qu_e, ↓re_e, ↓cv_e, ↓nt_e, ↓pk_t, ↓pk_f, ↓pk_e, ↓eqb_e, ↓neb_e, ↓nc_e, ↓ex_e, ↓lnl_e, ↓lns_e, ↓idv_e, ↓cl_e, ↓cnd_e, ↓gd_e, ↓gd_u, ↓gdu_e, ↓rt_e, ↓jn_e, ↓dr_q, ↓kp_e, ↓mnm_e, ↓mxm_e, ↓mif_e, ↓asrt_e, ↓eqs_e, ↓nes_e, Value.cells, add_lit, cell_psh_new, cell_drw, Nat.zero_add, Nat.reduceAdd, get4_0, get4_1, get4_2, get4_3, get3_0, get3_1, get3_2, get2_0, get2_1, get1_0, Option.some.injEq, exists_eq_left', decide_true, decide_false, decide_eq_true_eq, if_true, if_false, Bool.not_true, Bool.not_false, Bool.false_eq_true, Bool.true_eq_false, Bool.not_eq_true', decide_eq_false_iff_not, not_false_eq_true, not_true_eq_false, reduceCtorEq, bx_e, al_e, fa_e, ld_e, ad_e, su_e, mu_e, lt_e, le_e, gt_e, ge_e, eqi_e, nei_e, qu_e, re_e, cv_e, nt_e, pk_t, pk_f, pk_e, eqb_e, neb_e, nc_e, ex_e, lnl_e, lns_e, idv_e, cl_e, cnd_e, gd_e, gd_u, gdu_e, rt_e, jn_e, dr_q, kp_e, mnm_e, mxm_e, mif_e, asrt_e, eqs_e, nes_e, cond_true, cond_false, Bool.true_and, Bool.and_true, Bool.false_and, Bool.and_false, decide_not]
    have sd : ChgS (fpR q u) w (drw w) := (ChgS.refl _ w).drw
    have hbd : Below W.heap.size W (drw w) := hb.trans ⟨rfl, rfl, rfl, Nat.le_refl _, fun _ _ => rfl⟩
    have rd := r.drw
    have od : ownI B2 3 .i64 (drw w) v (unsL A0) := ho
    have he2 : cellsAt (drw w) adp (encP (pl x)) := he2
    clear hia hiap hc
    generalize drw w = wd at *
    have hbp := b_psh wd (.cells #[Value.string ⟨#[]⟩, Value.string ⟨#[]⟩, Value.bool false] 70)
    have blk := blk_psh_new (w := wd) (o := .cells #[Value.string ⟨#[]⟩, Value.string ⟨#[]⟩, Value.bool false] 70)
    refine ⟨?_, ?_, ?_, ?_⟩
    · rw [Kldn_e]
      exact ⟨rfl, fun j v hj => cellsAt_below hbp he2 j v (by simpa using hj)⟩
    · rw [Kld_e]; exact cell_below hbp hcd
    · rw [Kld_e]; exact cell_below hbp k0
    refine stn_box blk rfl rfl (by simpa using encP_one (pl x)) fun w2 h2 hu2 => ?_
    have hb2 : Below wd.heap.size wd w2 := hbp.trans (hu2.below (Nat.le_refl _))
    have r2 := rd.below hb2
    have o2 := ownI_below od hb2
    have hbW2 := bt hbd hb2
    have s2 : ChgS (fpR q u) wd w2 := ChgS.of_below hb2
    have fin : ∀ w3, (w3 = w2 ∨ w3 = drw w2) → ∀ z : ByteArray, z = (nw keep tn cut x k).1 →
        f34_j3 (itr (fun _ _ _ _ _ _ => bot) (f34_b2 j1) m) (pv q) vk (.int .i64 tn) (.int .i64 cut) v (.int .i64 (k : Int)) (.string z) w3 Q := by
      intro w3 hw3 z hz
      have sw : ChgS (fpR q u) w2 w3 := by
        rcases hw3 with rfl | rfl
        · exact ChgS.refl _ _
        · exact (ChgS.refl _ w2).drw
      have r3 : RQ B w3 q u (A.map pl) c h := by
        rcases hw3 with rfl | rfl
        · exact r2
        · exact r2.drw
      have o3 : ownI B2 3 .i64 w3 v (unsL A0) := by
        rcases hw3 with rfl | rfl
        · exact o2
        · exact o2
      unfold f34_j3
      obtain ⟨ad3, hc3, hia3⟩ := rdI_at (ownI_rd o3) hku
      rw [uns_num hku, hi] at hc3
      have hcd3 : (drw w3).cell? ad3 = _ := hc3
      have k3 : (drw w3).cell? ⟨q, 0, none⟩ = some u := r3.c0
      simp only [↓bx_e, ↓al_e, ↓fa_e, ↓ld_e, ↓ad_e, ↓su_e, ↓mu_e, ↓lt_e, ↓le_e, ↓gt_e, ↓ge_e, ↓eqi_e, ↓nei_e, ↓qu_e, ↓re_e, ↓cv_e, ↓nt_e, ↓pk_t, ↓pk_f, ↓pk_e, ↓eqb_e, ↓neb_e, ↓nc_e, ↓ex_e, ↓lnl_e, ↓lns_e, ↓idv_e, ↓cl_e, ↓cnd_e, ↓gd_e, ↓gd_u, ↓gdu_e, ↓rt_e, ↓jn_e, ↓dr_q, ↓kp_e, ↓mnm_e, ↓mxm_e, ↓mif_e, ↓asrt_e, ↓eqs_e, ↓nes_e, Value.cells, add_lit, cell_psh_new, cell_drw, Nat.zero_add, Nat.reduceAdd, get4_0, get4_1, get4_2, get4_3, get3_0, get3_1, get3_2, get2_0, get2_1, get1_0, Option.some.injEq, exists_eq_left', decide_true, decide_false, decide_eq_true_eq, if_true, if_false, Bool.not_true, Bool.not_false, Bool.false_eq_true, Bool.true_eq_false, Bool.not_eq_true', decide_eq_false_iff_not, not_false_eq_true, not_true_eq_false, reduceCtorEq, bx_e, al_e, fa_e, ld_e, ad_e, su_e, mu_e, lt_e, le_e, gt_e, ge_e, eqi_e, nei_e, qu_e, re_e, cv_e, nt_e, pk_t, pk_f, pk_e, eqb_e, neb_e, nc_e, ex_e, lnl_e, lns_e, idv_e, cl_e, cnd_e, gd_e, gd_u, gdu_e, rt_e, jn_e, dr_q, kp_e, mnm_e, mxm_e, mif_e, asrt_e, eqs_e, nes_e, cond_true, cond_false, Bool.true_and, Bool.and_true, Bool.false_and, Bool.and_false, decide_not, k3, hia3, hcd3]
      rw [smr_run (build70 _ _ _)]
      refine ia_stnE (w := drw w3) (j := .i64) (i := i) (y := ((z, z, false) : Plc)) encP_len encP_one r3.own hiP fun w4 g hg ho4 hu4 => ?_
      have r4 := r3.drw.put (by simp) ho4 hg hu4
      obtain ⟨_, _, cur, hcur⟩ := ownE_blk r3.own g hg
      have o4 : ownI B2 3 .i64 w4 v (unsL A0) := ownI_chg (w := drw w3) o3 hu4.chg (own_ne (w := w3) o3 hcur (by decide))
      have s4 : ChgS (fpR q u) w3 w4 := (ChgS.refl _ w3).drw.trans (ChgS.of_upd hu4 (S := fpR q u) (.inr hg)) (fun _ _ h => h)
      have sall : ChgS (fpR q u) w2 w4 := sw.trans s4 (fun _ _ h => h)
      subst hz
      rw [← crash1_map (keep := keep) (tn := tn) (cut := cut) hx] at r4
      simp only [↓bx_e, ↓al_e, ↓fa_e, ↓ld_e, ↓ad_e, ↓su_e, ↓mu_e, ↓lt_e, ↓le_e, ↓gt_e, ↓ge_e, ↓eqi_e, ↓nei_e, ↓qu_e, ↓re_e, ↓cv_e, ↓nt_e, ↓pk_t, ↓pk_f, ↓pk_e, ↓eqb_e, ↓neb_e, ↓nc_e, ↓ex_e, ↓lnl_e, ↓lns_e, ↓idv_e, ↓cl_e, ↓cnd_e, ↓gd_e, ↓gd_u, ↓gdu_e, ↓rt_e, ↓jn_e, ↓dr_q, ↓kp_e, ↓mnm_e, ↓mxm_e, ↓mif_e, ↓asrt_e, ↓eqs_e, ↓nes_e, Value.cells, add_lit, cell_psh_new, cell_drw, Nat.zero_add, Nat.reduceAdd, get4_0, get4_1, get4_2, get4_3, get3_0, get3_1, get3_2, get2_0, get2_1, get1_0, Option.some.injEq, exists_eq_left', decide_true, decide_false, decide_eq_true_eq, if_true, if_false, Bool.not_true, Bool.not_false, Bool.false_eq_true, Bool.true_eq_false, Bool.not_eq_true', decide_eq_false_iff_not, not_false_eq_true, not_true_eq_false, reduceCtorEq, bx_e, al_e, fa_e, ld_e, ad_e, su_e, mu_e, lt_e, le_e, gt_e, ge_e, eqi_e, nei_e, qu_e, re_e, cv_e, nt_e, pk_t, pk_f, pk_e, eqb_e, neb_e, nc_e, ex_e, lnl_e, lns_e, idv_e, cl_e, cnd_e, gd_e, gd_u, gdu_e, rt_e, jn_e, dr_q, kp_e, mnm_e, mxm_e, mif_e, asrt_e, eqs_e, nes_e, cond_true, cond_false, Bool.true_and, Bool.and_true, Bool.false_and, Bool.and_false, decide_not, h3]
      refine ih m (k + 1) w4 (crash1 (fun _ => none) keep tn cut A i k) (by omega) (by omega) (bs hbW2 (S := fpR q u) (fun k' hk' => Nat.le_trans hWB (fpR_B r2 k' hk')) hbW2.size sall) r4 o4 (by rw [crash1_len]; exact hlen) (fun m' hm' hle => ?_) fun w' hd' hc' => kk w' ?_ (((sd.trans s2 (fun _ _ h => h)).trans sall (fun _ _ h => h)).trans hc' (fun _ _ h => h))
      · rw [crash1_get hx, if_neg ?_]
        · exact hsame m' hm' (by omega)
        · intro e
          have := (List.getElem?_inj hm' (uns_nodup A0)).1 (show (uns A0)[m']? = (uns A0)[k]? by rw [List.getElem?_eq_getElem hm', List.getElem?_eq_getElem hkk, e, hi])
          omega
      · rw [hdrop]
        exact hd'
    have ks : w2.cell? ⟨wd.heap.size, 0, none⟩ = some (.string x.s.1) := by rw [cell_of_blk h2]; rfl
    have kn : w2.cell? ⟨wd.heap.size, 1, none⟩ = some (.string x.now.1) := by rw [cell_of_blk h2]; rfl
    by_cases ht : (k : Int) = tn
    · have htd : decide ((k : Int) = tn) = true := decide_eq_true ht
      have ks' : (drw w2).cell? ⟨wd.heap.size, 0, none⟩ = some (.string x.s.1) := ks
      have kn' : (drw w2).cell? ⟨wd.heap.size, 1, none⟩ = some (.string x.now.1) := kn
      simp only [↓bx_e, ↓al_e, ↓fa_e, ↓ld_e, ↓ad_e, ↓su_e, ↓mu_e, ↓lt_e, ↓le_e, ↓gt_e, ↓ge_e, ↓eqi_e, ↓nei_e, ↓qu_e, ↓re_e, ↓cv_e, ↓nt_e, ↓pk_t, ↓pk_f, ↓pk_e, ↓eqb_e, ↓neb_e, ↓nc_e, ↓ex_e, ↓lnl_e, ↓lns_e, ↓idv_e, ↓cl_e, ↓cnd_e, ↓gd_e, ↓gd_u, ↓gdu_e, ↓rt_e, ↓jn_e, ↓dr_q, ↓kp_e, ↓mnm_e, ↓mxm_e, ↓mif_e, ↓asrt_e, ↓eqs_e, ↓nes_e, Value.cells, add_lit, cell_psh_new, cell_drw, Nat.zero_add, Nat.reduceAdd, get4_0, get4_1, get4_2, get4_3, get3_0, get3_1, get3_2, get2_0, get2_1, get1_0, Option.some.injEq, exists_eq_left', decide_true, decide_false, decide_eq_true_eq, if_true, if_false, Bool.not_true, Bool.not_false, Bool.false_eq_true, Bool.true_eq_false, Bool.not_eq_true', decide_eq_false_iff_not, not_false_eq_true, not_true_eq_false, reduceCtorEq, bx_e, al_e, fa_e, ld_e, ad_e, su_e, mu_e, lt_e, le_e, gt_e, ge_e, eqi_e, nei_e, qu_e, re_e, cv_e, nt_e, pk_t, pk_f, pk_e, eqb_e, neb_e, nc_e, ex_e, lnl_e, lns_e, idv_e, cl_e, cnd_e, gd_e, gd_u, gdu_e, rt_e, jn_e, dr_q, kp_e, mnm_e, mxm_e, mif_e, asrt_e, eqs_e, nes_e, cond_true, cond_false, Bool.true_and, Bool.and_true, Bool.false_and, Bool.and_false, decide_not, ks, htd, kn', ks']
      have hcc : (if (64 : Int) < (if cut < 0 then 0 else cut) then 64 else (if cut < 0 then 0 else cut)) = (((min (max cut 0) 64).toNat : Nat) : Int) := by omega
      have hc64 : (min (max cut 0) 64).toNat ≤ 64 := by omega
      have hnw : nw keep tn cut x k = torn x.now x.s (min (max cut 0) 64).toNat := by unfold nw; rw [if_pos ht]
      rw [hcc]
      generalize (min (max cut 0) 64).toNat = c0 at *
      have zs := x.s.2
      have zn := x.now.2
      refine ⟨_, 0, c0, rfl, ⟨.i64, _, rfl, by omega, by omega, by rw [Int.toNat_natCast]⟩, rfl, ?_⟩
      simp only [↓bx_e, ↓al_e, ↓fa_e, ↓ld_e, ↓ad_e, ↓su_e, ↓mu_e, ↓lt_e, ↓le_e, ↓gt_e, ↓ge_e, ↓eqi_e, ↓nei_e, ↓qu_e, ↓re_e, ↓cv_e, ↓nt_e, ↓pk_t, ↓pk_f, ↓pk_e, ↓eqb_e, ↓neb_e, ↓nc_e, ↓ex_e, ↓lnl_e, ↓lns_e, ↓idv_e, ↓cl_e, ↓cnd_e, ↓gd_e, ↓gd_u, ↓gdu_e, ↓rt_e, ↓jn_e, ↓dr_q, ↓kp_e, ↓mnm_e, ↓mxm_e, ↓mif_e, ↓asrt_e, ↓eqs_e, ↓nes_e, Value.cells, add_lit, cell_psh_new, cell_drw, Nat.zero_add, Nat.reduceAdd, get4_0, get4_1, get4_2, get4_3, get3_0, get3_1, get3_2, get2_0, get2_1, get1_0, Option.some.injEq, exists_eq_left', decide_true, decide_false, decide_eq_true_eq, if_true, if_false, Bool.not_true, Bool.not_false, Bool.false_eq_true, Bool.true_eq_false, Bool.not_eq_true', decide_eq_false_iff_not, not_false_eq_true, not_true_eq_false, reduceCtorEq, bx_e, al_e, fa_e, ld_e, ad_e, su_e, mu_e, lt_e, le_e, gt_e, ge_e, eqi_e, nei_e, qu_e, re_e, cv_e, nt_e, pk_t, pk_f, pk_e, eqb_e, neb_e, nc_e, ex_e, lnl_e, lns_e, idv_e, cl_e, cnd_e, gd_e, gd_u, gdu_e, rt_e, jn_e, dr_q, kp_e, mnm_e, mxm_e, mif_e, asrt_e, eqs_e, nes_e, cond_true, cond_false, Bool.true_and, Bool.and_true, Bool.false_and, Bool.and_false, decide_not, ks']
      refine ⟨_, c0, x.s.1.size, rfl, rfl, ⟨.i64, _, rfl, by omega, by omega, by rw [Int.toNat_natCast]⟩, ?_⟩
      refine ⟨_, _, rfl, rfl, by rw [ByteArray.size_extract, ByteArray.size_extract]; omega, ?_⟩
      try simp only [↓bx_e, ↓al_e, ↓fa_e, ↓ld_e, ↓ad_e, ↓su_e, ↓mu_e, ↓lt_e, ↓le_e, ↓gt_e, ↓ge_e, ↓eqi_e, ↓nei_e, ↓qu_e, ↓re_e, ↓cv_e, ↓nt_e, ↓pk_t, ↓pk_f, ↓pk_e, ↓eqb_e, ↓neb_e, ↓nc_e, ↓ex_e, ↓lnl_e, ↓lns_e, ↓idv_e, ↓cl_e, ↓cnd_e, ↓gd_e, ↓gd_u, ↓gdu_e, ↓rt_e, ↓jn_e, ↓dr_q, ↓kp_e, ↓mnm_e, ↓mxm_e, ↓mif_e, ↓asrt_e, ↓eqs_e, ↓nes_e, Value.cells, add_lit, cell_psh_new, cell_drw, Nat.zero_add, Nat.reduceAdd, get4_0, get4_1, get4_2, get4_3, get3_0, get3_1, get3_2, get2_0, get2_1, get1_0, Option.some.injEq, exists_eq_left', decide_true, decide_false, decide_eq_true_eq, if_true, if_false, Bool.not_true, Bool.not_false, Bool.false_eq_true, Bool.true_eq_false, Bool.not_eq_true', decide_eq_false_iff_not, not_false_eq_true, not_true_eq_false, reduceCtorEq, bx_e, al_e, fa_e, ld_e, ad_e, su_e, mu_e, lt_e, le_e, gt_e, ge_e, eqi_e, nei_e, qu_e, re_e, cv_e, nt_e, pk_t, pk_f, pk_e, eqb_e, neb_e, nc_e, ex_e, lnl_e, lns_e, idv_e, cl_e, cnd_e, gd_e, gd_u, gdu_e, rt_e, jn_e, dr_q, kp_e, mnm_e, mxm_e, mif_e, asrt_e, eqs_e, nes_e, cond_true, cond_false, Bool.true_and, Bool.and_true, Bool.false_and, Bool.and_false, decide_not]
      exact fin _ (.inr rfl) _ (by rw [torn_str _ _ hc64, hnw])
    · have htd : decide ((k : Int) = tn) = false := decide_eq_false ht
      obtain ⟨pk', ck, hvk⟩ := rdS_len hk
      have hkp := rdS_below bR_st hbW2 hk
      have hlnl : ∀ (K : Value → M) (w' : World), lnl vk K w' Q = K (.int .i64 (keep.length : Nat)) w' Q := fun K w' => by rw [hvk, lnl_e]
      rcases Nat.eq_zero_or_pos keep.length with hk0 | hkpos
      · have hz : nw keep tn cut x k = x.s := by
          unfold nw
          rw [if_neg ht, List.length_eq_zero_iff.1 hk0]
          rfl
        have hlk' : ¬ (0 : Int) < (keep.length : Nat) := by omega
        simp only [↓bx_e, ↓al_e, ↓fa_e, ↓ld_e, ↓ad_e, ↓su_e, ↓mu_e, ↓lt_e, ↓le_e, ↓gt_e, ↓ge_e, ↓eqi_e, ↓nei_e, ↓qu_e, ↓re_e, ↓cv_e, ↓nt_e, ↓pk_t, ↓pk_f, ↓pk_e, ↓eqb_e, ↓neb_e, ↓nc_e, ↓ex_e, ↓lnl_e, ↓lns_e, ↓idv_e, ↓cl_e, ↓cnd_e, ↓gd_e, ↓gd_u, ↓gdu_e, ↓rt_e, ↓jn_e, ↓dr_q, ↓kp_e, ↓mnm_e, ↓mxm_e, ↓mif_e, ↓asrt_e, ↓eqs_e, ↓nes_e, Value.cells, add_lit, cell_psh_new, cell_drw, Nat.zero_add, Nat.reduceAdd, get4_0, get4_1, get4_2, get4_3, get3_0, get3_1, get3_2, get2_0, get2_1, get1_0, Option.some.injEq, exists_eq_left', decide_true, decide_false, decide_eq_true_eq, if_true, if_false, Bool.not_true, Bool.not_false, Bool.false_eq_true, Bool.true_eq_false, Bool.not_eq_true', decide_eq_false_iff_not, not_false_eq_true, not_true_eq_false, reduceCtorEq, bx_e, al_e, fa_e, ld_e, ad_e, su_e, mu_e, lt_e, le_e, gt_e, ge_e, eqi_e, nei_e, qu_e, re_e, cv_e, nt_e, pk_t, pk_f, pk_e, eqb_e, neb_e, nc_e, ex_e, lnl_e, lns_e, idv_e, cl_e, cnd_e, gd_e, gd_u, gdu_e, rt_e, jn_e, dr_q, kp_e, mnm_e, mxm_e, mif_e, asrt_e, eqs_e, nes_e, cond_true, cond_false, Bool.true_and, Bool.and_true, Bool.false_and, Bool.and_false, decide_not, ks, htd, hlnl, hlk']
        exact fin _ (.inl rfl) _ (by rw [hz])
      · have hmod : k % keep.length < keep.length := Nat.mod_lt _ hkpos
        obtain ⟨adk, es, he1', he2', he3', hiak⟩ := rdS_at hkp hmod
        have hcb : w2.cell? adk = some (.bool keep[k % keep.length]) := by
          have := he2' 0 (.bool keep[k % keep.length]) (by rw [he3']; rfl)
          rw [add_zero'] at this; exact this
        have htm : ((k : Int).tmod (keep.length : Int)) = ((k % keep.length : Nat) : Int) := (Int.ofNat_tmod k keep.length).symm
        have hlp : (0 : Int) < (keep.length : Int) := by omega
        by_cases hbb : keep[k % keep.length] = true
        · rw [hbb] at hcb
          have hnw : nw keep tn cut x k = x.now := by
            unfold nw
            rw [if_neg ht, List.getElem?_eq_getElem hmod, hbb, if_pos rfl]
          simp only [↓bx_e, ↓al_e, ↓fa_e, ↓ld_e, ↓ad_e, ↓su_e, ↓mu_e, ↓lt_e, ↓le_e, ↓gt_e, ↓ge_e, ↓eqi_e, ↓nei_e, ↓qu_e, ↓re_e, ↓cv_e, ↓nt_e, ↓pk_t, ↓pk_f, ↓pk_e, ↓eqb_e, ↓neb_e, ↓nc_e, ↓ex_e, ↓lnl_e, ↓lns_e, ↓idv_e, ↓cl_e, ↓cnd_e, ↓gd_e, ↓gd_u, ↓gdu_e, ↓rt_e, ↓jn_e, ↓dr_q, ↓kp_e, ↓mnm_e, ↓mxm_e, ↓mif_e, ↓asrt_e, ↓eqs_e, ↓nes_e, Value.cells, add_lit, cell_psh_new, cell_drw, Nat.zero_add, Nat.reduceAdd, get4_0, get4_1, get4_2, get4_3, get3_0, get3_1, get3_2, get2_0, get2_1, get1_0, Option.some.injEq, exists_eq_left', decide_true, decide_false, decide_eq_true_eq, if_true, if_false, Bool.not_true, Bool.not_false, Bool.false_eq_true, Bool.true_eq_false, Bool.not_eq_true', decide_eq_false_iff_not, not_false_eq_true, not_true_eq_false, reduceCtorEq, bx_e, al_e, fa_e, ld_e, ad_e, su_e, mu_e, lt_e, le_e, gt_e, ge_e, eqi_e, nei_e, qu_e, re_e, cv_e, nt_e, pk_t, pk_f, pk_e, eqb_e, neb_e, nc_e, ex_e, lnl_e, lns_e, idv_e, cl_e, cnd_e, gd_e, gd_u, gdu_e, rt_e, jn_e, dr_q, kp_e, mnm_e, mxm_e, mif_e, asrt_e, eqs_e, nes_e, cond_true, cond_false, Bool.true_and, Bool.and_true, Bool.false_and, Bool.and_false, decide_not, ks, htd, hlnl, hlp, htm, hiak, hcb, kn]
          exact ⟨by omega, fin _ (.inl rfl) _ (by rw [hnw])⟩
        · have hbf : keep[k % keep.length] = false := by simpa using hbb
          rw [hbf] at hcb
          have hz : nw keep tn cut x k = x.s := by
            unfold nw
            rw [if_neg ht, List.getElem?_eq_getElem hmod, hbf, if_neg (by simp)]
          simp only [↓bx_e, ↓al_e, ↓fa_e, ↓ld_e, ↓ad_e, ↓su_e, ↓mu_e, ↓lt_e, ↓le_e, ↓gt_e, ↓ge_e, ↓eqi_e, ↓nei_e, ↓qu_e, ↓re_e, ↓cv_e, ↓nt_e, ↓pk_t, ↓pk_f, ↓pk_e, ↓eqb_e, ↓neb_e, ↓nc_e, ↓ex_e, ↓lnl_e, ↓lns_e, ↓idv_e, ↓cl_e, ↓cnd_e, ↓gd_e, ↓gd_u, ↓gdu_e, ↓rt_e, ↓jn_e, ↓dr_q, ↓kp_e, ↓mnm_e, ↓mxm_e, ↓mif_e, ↓asrt_e, ↓eqs_e, ↓nes_e, Value.cells, add_lit, cell_psh_new, cell_drw, Nat.zero_add, Nat.reduceAdd, get4_0, get4_1, get4_2, get4_3, get3_0, get3_1, get3_2, get2_0, get2_1, get1_0, Option.some.injEq, exists_eq_left', decide_true, decide_false, decide_eq_true_eq, if_true, if_false, Bool.not_true, Bool.not_false, Bool.false_eq_true, Bool.true_eq_false, Bool.not_eq_true', decide_eq_false_iff_not, not_false_eq_true, not_true_eq_false, reduceCtorEq, bx_e, al_e, fa_e, ld_e, ad_e, su_e, mu_e, lt_e, le_e, gt_e, ge_e, eqi_e, nei_e, qu_e, re_e, cv_e, nt_e, pk_t, pk_f, pk_e, eqb_e, neb_e, nc_e, ex_e, lnl_e, lns_e, idv_e, cl_e, cnd_e, gd_e, gd_u, gdu_e, rt_e, jn_e, dr_q, kp_e, mnm_e, mxm_e, mif_e, asrt_e, eqs_e, nes_e, cond_true, cond_false, Bool.true_and, Bool.and_true, Bool.false_and, Bool.and_false, decide_not, ks, htd, hlnl, hlp, htm, hiak, hcb]
          exact ⟨by omega, fin _ (.inl rfl) _ (by rw [hz])⟩
theorem f34_s {W : World} {A : List Sec} (hk : rdS 1 bR W vk keep) (hb : Below W.heap.size W w) (hWB : W.heap.size ≤ B) (r : RQ B w q u (A.map pl) c h) (kk : ∀ w', RQ B w' q u ((crashL (fun _ => none) keep tn cut A (uns A) 0).map pl) c (-1) → ChgS (fpR q u) w w' → Q (.tuple #[]) w') : f34 (pv q) vk (.int .i64 tn) (.int .i64 cut) w Q := by
  unfold f34
  simp only [↓bx_e, ↓al_e, ↓fa_e, ↓ld_e, ↓ad_e, ↓su_e, ↓mu_e, ↓lt_e, ↓le_e, ↓gt_e, ↓ge_e, ↓eqi_e, ↓nei_e, ↓qu_e, ↓re_e, ↓cv_e, ↓nt_e, ↓pk_t, ↓pk_f, ↓pk_e, ↓eqb_e, ↓neb_e, ↓nc_e, ↓ex_e, ↓lnl_e, ↓lns_e, ↓idv_e, ↓cl_e, ↓cnd_e, ↓gd_e, ↓gd_u, ↓gdu_e, ↓rt_e, ↓jn_e, ↓dr_q, ↓kp_e, ↓mnm_e, ↓mxm_e, ↓mif_e, ↓asrt_e, ↓eqs_e, ↓nes_e, Value.cells, add_lit, cell_psh_new, cell_drw, Nat.zero_add, Nat.reduceAdd, get4_0, get4_1, get4_2, get4_3, get3_0, get3_1, get3_2, get2_0, get2_1, get1_0, Option.some.injEq, exists_eq_left', decide_true, decide_false, decide_eq_true_eq, if_true, if_false, Bool.not_true, Bool.not_false, Bool.false_eq_true, Bool.true_eq_false, Bool.not_eq_true', decide_eq_false_iff_not, not_false_eq_true, not_true_eq_false, reduceCtorEq, bx_e, al_e, fa_e, ld_e, ad_e, su_e, mu_e, lt_e, le_e, gt_e, ge_e, eqi_e, nei_e, qu_e, re_e, cv_e, nt_e, pk_t, pk_f, pk_e, eqb_e, neb_e, nc_e, ex_e, lnl_e, lns_e, idv_e, cl_e, cnd_e, gd_e, gd_u, gdu_e, rt_e, jn_e, dr_q, kp_e, mnm_e, mxm_e, mif_e, asrt_e, eqs_e, nes_e, cond_true, cond_false, Bool.true_and, Bool.and_true, Bool.false_and, Bool.and_false, decide_not]
  refine f21_s r fun w1 v ho hb1 => ?_
  rw [unsPL_pl] at ho
  have r1 := r.below hb1
  have hn : A.length ≤ 4096 := by have := r.n; rwa [List.length_map] at this
  try simp only [↓bx_e, ↓al_e, ↓fa_e, ↓ld_e, ↓ad_e, ↓su_e, ↓mu_e, ↓lt_e, ↓le_e, ↓gt_e, ↓ge_e, ↓eqi_e, ↓nei_e, ↓qu_e, ↓re_e, ↓cv_e, ↓nt_e, ↓pk_t, ↓pk_f, ↓pk_e, ↓eqb_e, ↓neb_e, ↓nc_e, ↓ex_e, ↓lnl_e, ↓lns_e, ↓idv_e, ↓cl_e, ↓cnd_e, ↓gd_e, ↓gd_u, ↓gdu_e, ↓rt_e, ↓jn_e, ↓dr_q, ↓kp_e, ↓mnm_e, ↓mxm_e, ↓mif_e, ↓asrt_e, ↓eqs_e, ↓nes_e, Value.cells, add_lit, cell_psh_new, cell_drw, Nat.zero_add, Nat.reduceAdd, get4_0, get4_1, get4_2, get4_3, get3_0, get3_1, get3_2, get2_0, get2_1, get1_0, Option.some.injEq, exists_eq_left', decide_true, decide_false, decide_eq_true_eq, if_true, if_false, Bool.not_true, Bool.not_false, Bool.false_eq_true, Bool.true_eq_false, Bool.not_eq_true', decide_eq_false_iff_not, not_false_eq_true, not_true_eq_false, reduceCtorEq, bx_e, al_e, fa_e, ld_e, ad_e, su_e, mu_e, lt_e, le_e, gt_e, ge_e, eqi_e, nei_e, qu_e, re_e, cv_e, nt_e, pk_t, pk_f, pk_e, eqb_e, neb_e, nc_e, ex_e, lnl_e, lns_e, idv_e, cl_e, cnd_e, gd_e, gd_u, gdu_e, rt_e, jn_e, dr_q, kp_e, mnm_e, mxm_e, mif_e, asrt_e, eqs_e, nes_e, cond_true, cond_false, Bool.true_and, Bool.and_true, Bool.false_and, Bool.and_false, decide_not]
  refine ⟨_, f34_loop (W := W) (B := B) A hk hWB hn f34_j1 (uns A).length ((uns A).length + 1) 0 w1 A (by omega) (by omega) (bt hb hb1) r1 ho rfl (fun _ _ _ => rfl) fun w2 r2 c2 => ?_⟩
  rw [List.drop_zero] at r2
  unfold f34_j1
  simp only [↓bx_e, ↓al_e, ↓fa_e, ↓ld_e, ↓ad_e, ↓su_e, ↓mu_e, ↓lt_e, ↓le_e, ↓gt_e, ↓ge_e, ↓eqi_e, ↓nei_e, ↓qu_e, ↓re_e, ↓cv_e, ↓nt_e, ↓pk_t, ↓pk_f, ↓pk_e, ↓eqb_e, ↓neb_e, ↓nc_e, ↓ex_e, ↓lnl_e, ↓lns_e, ↓idv_e, ↓cl_e, ↓cnd_e, ↓gd_e, ↓gd_u, ↓gdu_e, ↓rt_e, ↓jn_e, ↓dr_q, ↓kp_e, ↓mnm_e, ↓mxm_e, ↓mif_e, ↓asrt_e, ↓eqs_e, ↓nes_e, Value.cells, add_lit, cell_psh_new, cell_drw, Nat.zero_add, Nat.reduceAdd, get4_0, get4_1, get4_2, get4_3, get3_0, get3_1, get3_2, get2_0, get2_1, get1_0, Option.some.injEq, exists_eq_left', decide_true, decide_false, decide_eq_true_eq, if_true, if_false, Bool.not_true, Bool.not_false, Bool.false_eq_true, Bool.true_eq_false, Bool.not_eq_true', decide_eq_false_iff_not, not_false_eq_true, not_true_eq_false, reduceCtorEq, bx_e, al_e, fa_e, ld_e, ad_e, su_e, mu_e, lt_e, le_e, gt_e, ge_e, eqi_e, nei_e, qu_e, re_e, cv_e, nt_e, pk_t, pk_f, pk_e, eqb_e, neb_e, nc_e, ex_e, lnl_e, lns_e, idv_e, cl_e, cnd_e, gd_e, gd_u, gdu_e, rt_e, jn_e, dr_q, kp_e, mnm_e, mxm_e, mif_e, asrt_e, eqs_e, nes_e, cond_true, cond_false, Bool.true_and, Bool.and_true, Bool.false_and, Bool.and_false, decide_not]
  refine st_box r2.hq (o := 2) (v := .int .i64 (-1)) (by simp) rfl fun w4 h4 hu4 => ?_
  simp only [↓bx_e, ↓al_e, ↓fa_e, ↓ld_e, ↓ad_e, ↓su_e, ↓mu_e, ↓lt_e, ↓le_e, ↓gt_e, ↓ge_e, ↓eqi_e, ↓nei_e, ↓qu_e, ↓re_e, ↓cv_e, ↓nt_e, ↓pk_t, ↓pk_f, ↓pk_e, ↓eqb_e, ↓neb_e, ↓nc_e, ↓ex_e, ↓lnl_e, ↓lns_e, ↓idv_e, ↓cl_e, ↓cnd_e, ↓gd_e, ↓gd_u, ↓gdu_e, ↓rt_e, ↓jn_e, ↓dr_q, ↓kp_e, ↓mnm_e, ↓mxm_e, ↓mif_e, ↓asrt_e, ↓eqs_e, ↓nes_e, Value.cells, add_lit, cell_psh_new, cell_drw, Nat.zero_add, Nat.reduceAdd, get4_0, get4_1, get4_2, get4_3, get3_0, get3_1, get3_2, get2_0, get2_1, get1_0, Option.some.injEq, exists_eq_left', decide_true, decide_false, decide_eq_true_eq, if_true, if_false, Bool.not_true, Bool.not_false, Bool.false_eq_true, Bool.true_eq_false, Bool.not_eq_true', decide_eq_false_iff_not, not_false_eq_true, not_true_eq_false, reduceCtorEq, bx_e, al_e, fa_e, ld_e, ad_e, su_e, mu_e, lt_e, le_e, gt_e, ge_e, eqi_e, nei_e, qu_e, re_e, cv_e, nt_e, pk_t, pk_f, pk_e, eqb_e, neb_e, nc_e, ex_e, lnl_e, lns_e, idv_e, cl_e, cnd_e, gd_e, gd_u, gdu_e, rt_e, jn_e, dr_q, kp_e, mnm_e, mxm_e, mif_e, asrt_e, eqs_e, nes_e, cond_true, cond_false, Bool.true_and, Bool.and_true, Bool.false_and, Bool.and_false, decide_not]
  refine kk w4 (r2.upd h4 hu4) ?_
  have s1 : ChgS (fpR q u) w w1 := ChgS.of_below hb1
  exact (s1.trans c2 (fun _ _ h => h)).trans (ChgS.of_upd hu4 (S := fpR q u) (.inl rfl)) (fun _ _ h => h)
end
end Go.Proofs.Ytjaiodbonffciaa
