/- A crash: the walk. -/
import Derived.Test.YtjaiodbonffciaaD5
set_option linter.unusedVariables false
set_option linter.unusedSimpArgs false
set_option linter.unusedSectionVars false
namespace Go.Proofs.Ytjaiodbonffciaa
open Sh RowKit Go.MapKept
section
variable {B : Nat} {w : World} {p b : Nat} {v : Value} {D : Dv} {Q : Value → World → Prop} {keep : List Bool} {tn cut : Int} {vk : Value}
theorem keep_ok {w' : World} (h : rdS 1 bR w vk keep) (hb : Below w.heap.size w w') : rdS 1 bR w' vk keep := rdS_below bR_st hb h
theorem uns_num {A : List Sec} {k : Nat} (hk : k < (unsL A).length) : (unsL A)[k] = (((uns A)[k]'(by simpa [unsL] using hk) : Nat) : Int) := by simp [unsL]
theorem mapA_eq {A : List Sec} {i : Nat} {x : Sec} (h : A[i]? = some x) : ∃ hi : i < (A.map (·.s)).length, (A.map (·.s))[i] = x.s := by
  obtain ⟨h1, h2⟩ := List.getElem?_eq_some_iff.1 h
  exact ⟨by simpa using h1, by rw [List.getElem_map, h2]⟩
theorem own_ne {e : TypeId} {B2 : Nat} {u : Value} {l : List Int} {g : Nat} {cur : Array Value} (h : ownI B2 3 .i64 w u l) (hg : w.heap[g]? = some (.cells cur e (0, 0))) (he : e ≠ 3) : u.ownBlock ≠ some g := by
  intro c
  obtain ⟨h1, h2⟩ := h
  rcases h2 with ⟨rfl, _⟩ | ⟨g', cap, cur', rfl, hg', hb', _⟩
  · cases c
  · cases c; rw [hb'] at hg; cases hg; exact he rfl
theorem run_ne_eS {x y : Operand} (a c : Sct) (w : World) : ((do eqGuard .neq 63 x y (.agg (encS a).toArray) (.agg (encS c).toArray); binOp .neq 63 (.agg (encS a).toArray) (.agg (encS c).toArray) : Sem Value)).run Try.prog w = .ok (.bool (!decide (a = c))) w := by
  have h := run_ne_arr (P := Try.prog) (w := w) (t := 63) (e := 5) (n := 64) (k := .u8) (x := x) (y := y) (xa0 := byL a.1) (xb0 := byL c.1) Try.underlying63 u5 (by kernel_rfl) (by kernel_rfl) (by kernel_rfl) (by rw [byL_len, a.2]) (by rw [byL_len, c.2])
  have e : decide (byL a.1 = byL c.1) = decide (a = c) := by
    rw [Bool.eq_iff_iff, decide_eq_true_iff, decide_eq_true_iff]
    exact ⟨fun h => Subtype.ext (byL_inj h), fun h => by rw [h]⟩
  rw [e] at h
  exact h
theorem f24_loop {W : World} {u : Value} {B2 : Nat} (A0 : List Sec) (hk : rdS 1 bR W vk keep) (hWB : W.heap.size ≤ B) (hn : A0.length ≤ 4096) (j1 : Value → M) : ∀ (d m k : Nat) (w : World) (D : Dv), k + d = (uns A0).length → d < m → Below W.heap.size W w →
    DevAt B w p v b D → ownI B2 3 .i64 w u (unsL A0) → D.A.length = A0.length → (∀ m' (hm : m' < (uns A0).length), k ≤ m' → D.A[(uns A0)[m']]? = A0[(uns A0)[m']]?) →
    (∀ w', DevAt B w' p v b { D with A := crashL id keep tn cut D.A ((uns A0).drop k) k } → ChgS (fpD p v b) w w' → j1 (pv p) w' Q) →
    itr (fun _ _ _ _ _ _ _ => bot) (f24_b2 j1) m (pv p) vk (.int .i64 tn) (.int .i64 cut) u (.int .i64 ((uns A0).length : Nat)) (.int .i64 (k : Int)) w Q := by
  intro d
  induction d with
  | zero =>
    intro m k w D hkd hm hb hd ho hlen hsame kk
    obtain ⟨m, rfl⟩ : ∃ x, m = x + 1 := ⟨m - 1, by omega⟩
    show f24_b2 j1 _ _ _ _ _ _ _ _ w Q
    unfold f24_b2
    have c : ¬ (k : Int) < ((uns A0).length : Nat) := by omega
    simp only [↓bx_e, ↓al_e, ↓fa_e, ↓ld_e, ↓ad_e, ↓su_e, ↓mu_e, ↓lt_e, ↓le_e, ↓gt_e, ↓ge_e, ↓eqi_e, ↓nei_e, ↓qu_e, ↓re_e, ↓cv_e, ↓nt_e, ↓pk_t, ↓pk_f, ↓pk_e, ↓eqb_e, ↓neb_e, ↓nc_e, ↓ex_e, ↓lnl_e, ↓lns_e, ↓idv_e, ↓cl_e, ↓cnd_e, ↓gd_e, ↓gd_u, ↓gdu_e, ↓rt_e, ↓jn_e, ↓dr_q, ↓kp_e, ↓mnm_e, ↓mxm_e, ↓mif_e, ↓asrt_e, ↓eqs_e, ↓nes_e, Value.cells, add_lit, cell_psh_new, cell_drw, Nat.zero_add, Nat.reduceAdd, get4_0, get4_1, get4_2, get4_3, get3_0, get3_1, get3_2, get2_0, get2_1, get1_0, Option.some.injEq, exists_eq_left', decide_true, decide_false, decide_eq_true_eq, if_true, if_false, Bool.not_true, Bool.not_false, Bool.false_eq_true, Bool.true_eq_false, Bool.not_eq_true', decide_eq_false_iff_not, not_false_eq_true, not_true_eq_false, reduceCtorEq, bx_e, al_e, fa_e, ld_e, ad_e, su_e, mu_e, lt_e, le_e, gt_e, ge_e, eqi_e, nei_e, qu_e, re_e, cv_e, nt_e, pk_t, pk_f, pk_e, eqb_e, neb_e, nc_e, ex_e, lnl_e, lns_e, idv_e, cl_e, cnd_e, gd_e, gd_u, gdu_e, rt_e, jn_e, dr_q, kp_e, mnm_e, mxm_e, mif_e, asrt_e, eqs_e, nes_e, cond_true, cond_false, Bool.true_and, Bool.and_true, Bool.false_and, Bool.and_false, decide_not, c]
    refine kk w ?_ (ChgS.refl _ w)
    rw [List.drop_of_length_le (by omega)]
    exact hd
  | succ d ih =>
    intro m k w D hkd hm hb hd ho hlen hsame kk
    obtain ⟨m, rfl⟩ : ∃ x, m = x + 1 := ⟨m - 1, by omega⟩
    show f24_b2 j1 _ _ _ _ _ _ _ _ w Q
    unfold f24_b2
    have c : (k : Int) < ((uns A0).length : Nat) := by omega
    have hku : k < (unsL A0).length := by unfold unsL; rw [List.length_map]; omega
    have hkk : k < (uns A0).length := by omega
    obtain ⟨ad, hc, hia⟩ := rdI_at (ownI_rd ho) hku
    rw [uns_num hku] at hc
    generalize hi : (uns A0)[k] = i at *
    have hiA : i < A0.length := uns_lt (hi ▸ List.getElem_mem hkk)
    obtain ⟨x, y, hx0, hxu⟩ := uns_mem.1 (show i ∈ uns A0 from hi ▸ List.getElem_mem hkk)
    have hx : D.A[i]? = some x := by
      have := hsame k hkk (Nat.le_refl _)
      rw [hi] at this
      rw [this]; exact hx0
    have hat : D.at (i : Int) = some x := by unfold Dv.at; rw [if_pos (by omega), Int.toNat_natCast]; exact hx
    have hnow : x.now = y := by unfold Sec.now; rw [hxu]; rfl
    have c1 := hd.c1
    obtain ⟨L, hmp, hl⟩ := hd.mp
    simp only [↓bx_e, ↓al_e, ↓fa_e, ↓ld_e, ↓ad_e, ↓su_e, ↓mu_e, ↓lt_e, ↓le_e, ↓gt_e, ↓ge_e, ↓eqi_e, ↓nei_e, ↓qu_e, ↓re_e, ↓cv_e, ↓nt_e, ↓pk_t, ↓pk_f, ↓pk_e, ↓eqb_e, ↓neb_e, ↓nc_e, ↓ex_e, ↓lnl_e, ↓lns_e, ↓idv_e, ↓cl_e, ↓cnd_e, ↓gd_e, ↓gd_u, ↓gdu_e, ↓rt_e, ↓jn_e, ↓dr_q, ↓kp_e, ↓mnm_e, ↓mxm_e, ↓mif_e, ↓asrt_e, ↓eqs_e, ↓nes_e, Value.cells, add_lit, cell_psh_new, cell_drw, Nat.zero_add, Nat.reduceAdd, get4_0, get4_1, get4_2, get4_3, get3_0, get3_1, get3_2, get2_0, get2_1, get1_0, Option.some.injEq, exists_eq_left', decide_true, decide_false, decide_eq_true_eq, if_true, if_false, Bool.not_true, Bool.not_false, Bool.false_eq_true, Bool.true_eq_false, Bool.not_eq_true', decide_eq_false_iff_not, not_false_eq_true, not_true_eq_false, reduceCtorEq, bx_e, al_e, fa_e, ld_e, ad_e, su_e, mu_e, lt_e, le_e, gt_e, ge_e, eqi_e, nei_e, qu_e, re_e, cv_e, nt_e, pk_t, pk_f, pk_e, eqb_e, neb_e, nc_e, ex_e, lnl_e, lns_e, idv_e, cl_e, cnd_e, gd_e, gd_u, gdu_e, rt_e, jn_e, dr_q, kp_e, mnm_e, mxm_e, mif_e, asrt_e, eqs_e, nes_e, cond_true, cond_false, Bool.true_and, Bool.and_true, Bool.false_and, Bool.and_false, decide_not, c, hia, hc, c1]
    refine Eq.mpr (look_v (kv := kI) KK hmp z63 (i : Int)) ?_
    rw [lk_dev hmp hl, hat]
    simp only [↓bx_e, ↓al_e, ↓fa_e, ↓ld_e, ↓ad_e, ↓su_e, ↓mu_e, ↓lt_e, ↓le_e, ↓gt_e, ↓ge_e, ↓eqi_e, ↓nei_e, ↓qu_e, ↓re_e, ↓cv_e, ↓nt_e, ↓pk_t, ↓pk_f, ↓pk_e, ↓eqb_e, ↓neb_e, ↓nc_e, ↓ex_e, ↓lnl_e, ↓lns_e, ↓idv_e, ↓cl_e, ↓cnd_e, ↓gd_e, ↓gd_u, ↓gdu_e, ↓rt_e, ↓jn_e, ↓dr_q, ↓kp_e, ↓mnm_e, ↓mxm_e, ↓mif_e, ↓asrt_e, ↓eqs_e, ↓nes_e, Value.cells, add_lit, cell_psh_new, cell_drw, Nat.zero_add, Nat.reduceAdd, get4_0, get4_1, get4_2, get4_3, get3_0, get3_1, get3_2, get2_0, get2_1, get1_0, Option.some.injEq, exists_eq_left', decide_true, decide_false, decide_eq_true_eq, if_true, if_false, Bool.not_true, Bool.not_false, Bool.false_eq_true, Bool.true_eq_false, Bool.not_eq_true', decide_eq_false_iff_not, not_false_eq_true, not_true_eq_false, reduceCtorEq, bx_e, al_e, fa_e, ld_e, ad_e, su_e, mu_e, lt_e, le_e, gt_e, ge_e, eqi_e, nei_e, qu_e, re_e, cv_e, nt_e, pk_t, pk_f, pk_e, eqb_e, neb_e, nc_e, ex_e, lnl_e, lns_e, idv_e, cl_e, cnd_e, gd_e, gd_u, gdu_e, rt_e, jn_e, dr_q, kp_e, mnm_e, mxm_e, mif_e, asrt_e, eqs_e, nes_e, cond_true, cond_false, Bool.true_and, Bool.and_true, Bool.false_and, Bool.and_false, decide_not, Option.bind_some, hxu, Option.map_some, Option.getD_some]
    have b2 := b_psh w (.cells (Array.replicate 64 (.int .u8 0)) 63)
    have blk := blk_psh_new (w := w) (o := .cells (Array.replicate 64 (.int .u8 0)) 63)
    refine stn_box blk (by simp) (by simp [encS_len]) (by simpa using encS_one y) fun w2 h2 hu2 => ?_
    have hb2 : Below w.heap.size w w2 := b2.trans (hu2.below (Nat.le_refl _))
    have d2 := hd.below hb2
    have o2 := ownI_below ho hb2
    have hbW2 : Below W.heap.size W w2 := bt hb hb2
    have s2 : ChgS (fpD p v b) w w2 := ChgS.of_below hb2
    have hw2 : w.heap.size < w2.heap.size := blk_lt h2
    -- what is behind this round
    have hdrop : (uns A0).drop k = i :: (uns A0).drop (k + 1) := by rw [List.drop_eq_getElem_cons hkk, hi]
    have h3 : IntKind.i64.wrap ((k : Int) + 1) = ((k + 1 : Nat) : Int) := by
      have := uns_len A0
      rw [w64 (by omega) (by omega)]; rfl
    have next : ∀ w3 (D3 : Dv), DevAt B w3 p v b D3 → D3 = { D with A := crash1 id keep tn cut D.A i k } → ChgS (fpD p v b) w2 w3 → ownI B2 3 .i64 w3 u (unsL A0) →
        f24_j3 (itr (fun _ _ _ _ _ _ _ => bot) (f24_b2 j1) m) (pv p) vk (.int .i64 tn) (.int .i64 cut) u (.int .i64 ((uns A0).length : Nat)) (.int .i64 (k : Int)) w3 Q := by
      intro w3 D3 d3 e3 s3 o3
      subst e3
      unfold f24_j3
      simp only [↓bx_e, ↓al_e, ↓fa_e, ↓ld_e, ↓ad_e, ↓su_e, ↓mu_e, ↓lt_e, ↓le_e, ↓gt_e, ↓ge_e, ↓eqi_e, ↓nei_e, ↓qu_e, ↓re_e, ↓cv_e, ↓nt_e, ↓pk_t, ↓pk_f, ↓pk_e, ↓eqb_e, ↓neb_e, ↓nc_e, ↓ex_e, ↓lnl_e, ↓lns_e, ↓idv_e, ↓cl_e, ↓cnd_e, ↓gd_e, ↓gd_u, ↓gdu_e, ↓rt_e, ↓jn_e, ↓dr_q, ↓kp_e, ↓mnm_e, ↓mxm_e, ↓mif_e, ↓asrt_e, ↓eqs_e, ↓nes_e, Value.cells, add_lit, cell_psh_new, cell_drw, Nat.zero_add, Nat.reduceAdd, get4_0, get4_1, get4_2, get4_3, get3_0, get3_1, get3_2, get2_0, get2_1, get1_0, Option.some.injEq, exists_eq_left', decide_true, decide_false, decide_eq_true_eq, if_true, if_false, Bool.not_true, Bool.not_false, Bool.false_eq_true, Bool.true_eq_false, Bool.not_eq_true', decide_eq_false_iff_not, not_false_eq_true, not_true_eq_false, reduceCtorEq, bx_e, al_e, fa_e, ld_e, ad_e, su_e, mu_e, lt_e, le_e, gt_e, ge_e, eqi_e, nei_e, qu_e, re_e, cv_e, nt_e, pk_t, pk_f, pk_e, eqb_e, neb_e, nc_e, ex_e, lnl_e, lns_e, idv_e, cl_e, cnd_e, gd_e, gd_u, gdu_e, rt_e, jn_e, dr_q, kp_e, mnm_e, mxm_e, mif_e, asrt_e, eqs_e, nes_e, cond_true, cond_false, Bool.true_and, Bool.and_true, Bool.false_and, Bool.and_false, decide_not, h3]
      refine ih m (k + 1) w3 _ (by omega) (by omega) (bs hbW2 (S := fpD p v b) (fun k' hk' => Nat.le_trans hWB (fpD_B d2 k' hk')) hbW2.size s3) d3 o3 (by rw [crash1_len]; exact hlen) (fun m' hm' hle => ?_) fun w' hd' hc' => kk w' ?_ ((s2.trans s3 (fun _ _ h => h)).trans hc' (fun _ _ h => h))
      · show (crash1 id keep tn cut D.A i k)[(uns A0)[m']]? = _
        rw [crash1_get hx, if_neg ?_]
        · exact hsame m' hm' (by omega)
        · intro e
          have := (List.getElem?_inj hm' (uns_nodup A0)).1 (show (uns A0)[m']? = (uns A0)[k]? by rw [List.getElem?_eq_getElem hm', List.getElem?_eq_getElem hkk, e, hi])
          omega
      · rw [hdrop]
        exact hd'
    have hsetA : ∀ z, nw keep tn cut x k = z → (D.set i ⟨z, x.u⟩) = { D with A := crash1 id keep tn cut D.A i k } := by
      intro z hz
      unfold Dv.set crash1
      simp only [hx, hz]; rfl
    obtain ⟨hiS, hsx⟩ := mapA_eq hx
    obtain ⟨g, cap, cur, hv, hob, hgB, hblk, hcap, hmx, hsz, htk⟩ := ownE_open d2.own (by omega)
    have hgne : u.ownBlock ≠ some g := own_ne o2 hblk (by decide)
    have s2d : ChgS (fpD p v b) w2 (drw w2) := (ChgS.refl _ w2).drw
    have fin : ∀ w3 z, nw keep tn cut x k = z → ownE B 63 64 encS w3 v ((D.A.map (·.s)).set i z) → Upd g (drw w2) w3 →
        f24_j3 (itr (fun _ _ _ _ _ _ _ => bot) (f24_b2 j1) m) (pv p) vk (.int .i64 tn) (.int .i64 cut) u (.int .i64 ((uns A0).length : Nat)) (.int .i64 (k : Int)) w3 Q := fun w3 z hz hoz hu3 =>
      next w3 _ (d2.drw.setS hx hoz hob hu3) (hsetA z hz) (s2d.trans (ChgS.of_upd hu3 (.inr (.inr hob))) (fun _ _ h => h)) (ownI_chg (w := drw w2) o2 hu3.chg hgne)
    have fin0 : ∀ w3, (w3 = w2 ∨ w3 = drw w2) → nw keep tn cut x k = x.s →
        f24_j3 (itr (fun _ _ _ _ _ _ _ => bot) (f24_b2 j1) m) (pv p) vk (.int .i64 tn) (.int .i64 cut) u (.int .i64 ((uns A0).length : Nat)) (.int .i64 (k : Int)) w3 Q := fun w3 hw hz => by
      have e : D = { D with A := crash1 id keep tn cut D.A i k } := by
        rw [← hsetA x.s hz]
        unfold Dv.set
        have : D.A.set i ⟨x.s, x.u⟩ = D.A := by
          apply List.ext_getElem?
          intro j
          rw [List.getElem?_set]
          split
          · rename_i e; subst e; rw [if_pos (by omega), hx]
          · rfl
        rw [this]
      rcases hw with rfl | rfl
      · exact next _ D d2 e (ChgS.refl _ _) o2
      · exact next _ D d2.drw e s2d o2
    have k0 : (drw w2).cell? ⟨p, 0, none⟩ = some v := d2.c0
    by_cases ht : (k : Int) = tn
    · have htd : decide ((k : Int) = tn) = true := decide_eq_true ht
      simp only [↓bx_e, ↓al_e, ↓fa_e, ↓ld_e, ↓ad_e, ↓su_e, ↓mu_e, ↓lt_e, ↓le_e, ↓gt_e, ↓ge_e, ↓eqi_e, ↓nei_e, ↓qu_e, ↓re_e, ↓cv_e, ↓nt_e, ↓pk_t, ↓pk_f, ↓pk_e, ↓eqb_e, ↓neb_e, ↓nc_e, ↓ex_e, ↓lnl_e, ↓lns_e, ↓idv_e, ↓cl_e, ↓cnd_e, ↓gd_e, ↓gd_u, ↓gdu_e, ↓rt_e, ↓jn_e, ↓dr_q, ↓kp_e, ↓mnm_e, ↓mxm_e, ↓mif_e, ↓asrt_e, ↓eqs_e, ↓nes_e, Value.cells, add_lit, cell_psh_new, cell_drw, Nat.zero_add, Nat.reduceAdd, get4_0, get4_1, get4_2, get4_3, get3_0, get3_1, get3_2, get2_0, get2_1, get1_0, Option.some.injEq, exists_eq_left', decide_true, decide_false, decide_eq_true_eq, if_true, if_false, Bool.not_true, Bool.not_false, Bool.false_eq_true, Bool.true_eq_false, Bool.not_eq_true', decide_eq_false_iff_not, not_false_eq_true, not_true_eq_false, reduceCtorEq, bx_e, al_e, fa_e, ld_e, ad_e, su_e, mu_e, lt_e, le_e, gt_e, ge_e, eqi_e, nei_e, qu_e, re_e, cv_e, nt_e, pk_t, pk_f, pk_e, eqb_e, neb_e, nc_e, ex_e, lnl_e, lns_e, idv_e, cl_e, cnd_e, gd_e, gd_u, gdu_e, rt_e, jn_e, dr_q, kp_e, mnm_e, mxm_e, mif_e, asrt_e, eqs_e, nes_e, cond_true, cond_false, Bool.true_and, Bool.and_true, Bool.false_and, Bool.and_false, decide_not, htd, k0]
      rw [hv, ia_E (by rw [List.length_map]; omega)]
      simp only [↓bx_e, ↓al_e, ↓fa_e, ↓ld_e, ↓ad_e, ↓su_e, ↓mu_e, ↓lt_e, ↓le_e, ↓gt_e, ↓ge_e, ↓eqi_e, ↓nei_e, ↓qu_e, ↓re_e, ↓cv_e, ↓nt_e, ↓pk_t, ↓pk_f, ↓pk_e, ↓eqb_e, ↓neb_e, ↓nc_e, ↓ex_e, ↓lnl_e, ↓lns_e, ↓idv_e, ↓cl_e, ↓cnd_e, ↓gd_e, ↓gd_u, ↓gdu_e, ↓rt_e, ↓jn_e, ↓dr_q, ↓kp_e, ↓mnm_e, ↓mxm_e, ↓mif_e, ↓asrt_e, ↓eqs_e, ↓nes_e, Value.cells, add_lit, cell_psh_new, cell_drw, Nat.zero_add, Nat.reduceAdd, get4_0, get4_1, get4_2, get4_3, get3_0, get3_1, get3_2, get2_0, get2_1, get1_0, Option.some.injEq, exists_eq_left', decide_true, decide_false, decide_eq_true_eq, if_true, if_false, Bool.not_true, Bool.not_false, Bool.false_eq_true, Bool.true_eq_false, Bool.not_eq_true', decide_eq_false_iff_not, not_false_eq_true, not_true_eq_false, reduceCtorEq, bx_e, al_e, fa_e, ld_e, ad_e, su_e, mu_e, lt_e, le_e, gt_e, ge_e, eqi_e, nei_e, qu_e, re_e, cv_e, nt_e, pk_t, pk_f, pk_e, eqb_e, neb_e, nc_e, ex_e, lnl_e, lns_e, idv_e, cl_e, cnd_e, gd_e, gd_u, gdu_e, rt_e, jn_e, dr_q, kp_e, mnm_e, mxm_e, mif_e, asrt_e, eqs_e, nes_e, cond_true, cond_false, Bool.true_and, Bool.and_true, Bool.false_and, Bool.and_false, decide_not]
      have hcc : (if (64 : Int) < (if cut < 0 then 0 else cut) then 64 else (if cut < 0 then 0 else cut)) = (((min (max cut 0) 64).toNat : Nat) : Int) := by omega
      have hc64 : (min (max cut 0) 64).toNat ≤ 64 := by omega
      have hnw : nw keep tn cut x k = torn y x.s (min (max cut 0) 64).toNat := by unfold nw; rw [if_pos ht, hnow]
      generalize (min (max cut 0) 64).toNat = cc at *
      refine sla_to (c := cc) (by decide) hc64 hcc ?_
      refine sla_all (by decide) ?_
      have hin : i * 64 + 64 ≤ cur.size := by
        rw [hsz]
        have := Nat.mul_le_mul_right 64 (show i + 1 ≤ cap by rw [List.length_map] at hcap; omega)
        omega
      refine cpy (m := cc) (g2 := w.heap.size) (cur2 := (encS y).toArray) Try.underlying61 (by kernel_rfl) (show (drw w2).heap[g]? = _ from hblk) (show (drw w2).heap[_]? = _ from h2) hc64 (by simpa [encS_len] using hc64) (by omega) (by simpa using encS_one y) fun w3 h3b hu3 => ?_
      refine fin w3 _ hnw ?_ hu3
      refine ownE_put (w := drw w2) (o := 0) (cs := (encS y).take cc) encS_len d2.own hiS (by rw [List.length_take]; omega) (by rw [encS_torn _ _ hc64, hsx]) (fun g' cur' e1 e2 => ?_)
      rw [hob] at e1; cases e1
      rw [show (drw w2).heap[g]? = _ from hblk] at e2; cases e2
      exact ⟨_, h3b, by simp⟩
    · have htd : decide ((k : Int) = tn) = false := decide_eq_false ht
      obtain ⟨pk', ck, hvk⟩ := rdS_len hk
      have hkp := rdS_below bR_st hbW2 hk
      have hlnl : ∀ (K : Value → M) (w' : World), lnl vk K w' Q = K (.int .i64 (keep.length : Nat)) w' Q := fun K w' => by rw [hvk, lnl_e]
      rcases Nat.eq_zero_or_pos keep.length with hk0 | hkpos
      · have hz : nw keep tn cut x k = x.s := by
          unfold nw
          rw [if_neg ht, List.length_eq_zero_iff.1 hk0]
          rfl
        have hlk : ((keep.length : Nat) : Int) = 0 := by omega
        have hlk' : ¬ (0 : Int) < (keep.length : Nat) := by omega
        simp only [↓bx_e, ↓al_e, ↓fa_e, ↓ld_e, ↓ad_e, ↓su_e, ↓mu_e, ↓lt_e, ↓le_e, ↓gt_e, ↓ge_e, ↓eqi_e, ↓nei_e, ↓qu_e, ↓re_e, ↓cv_e, ↓nt_e, ↓pk_t, ↓pk_f, ↓pk_e, ↓eqb_e, ↓neb_e, ↓nc_e, ↓ex_e, ↓lnl_e, ↓lns_e, ↓idv_e, ↓cl_e, ↓cnd_e, ↓gd_e, ↓gd_u, ↓gdu_e, ↓rt_e, ↓jn_e, ↓dr_q, ↓kp_e, ↓mnm_e, ↓mxm_e, ↓mif_e, ↓asrt_e, ↓eqs_e, ↓nes_e, Value.cells, add_lit, cell_psh_new, cell_drw, Nat.zero_add, Nat.reduceAdd, get4_0, get4_1, get4_2, get4_3, get3_0, get3_1, get3_2, get2_0, get2_1, get1_0, Option.some.injEq, exists_eq_left', decide_true, decide_false, decide_eq_true_eq, if_true, if_false, Bool.not_true, Bool.not_false, Bool.false_eq_true, Bool.true_eq_false, Bool.not_eq_true', decide_eq_false_iff_not, not_false_eq_true, not_true_eq_false, reduceCtorEq, bx_e, al_e, fa_e, ld_e, ad_e, su_e, mu_e, lt_e, le_e, gt_e, ge_e, eqi_e, nei_e, qu_e, re_e, cv_e, nt_e, pk_t, pk_f, pk_e, eqb_e, neb_e, nc_e, ex_e, lnl_e, lns_e, idv_e, cl_e, cnd_e, gd_e, gd_u, gdu_e, rt_e, jn_e, dr_q, kp_e, mnm_e, mxm_e, mif_e, asrt_e, eqs_e, nes_e, cond_true, cond_false, Bool.true_and, Bool.and_true, Bool.false_and, Bool.and_false, decide_not, htd, hlnl, hlk']
        exact fin0 _ (.inr rfl) hz
      · have hmod : k % keep.length < keep.length := Nat.mod_lt _ hkpos
        obtain ⟨adk, es, he1, he2, he3, hiak⟩ := rdS_at hkp hmod
        have hcb : (drw w2).cell? adk = some (.bool keep[k % keep.length]) := by
          have := he2 0 (.bool keep[k % keep.length]) (by rw [he3]; rfl)
          rw [add_zero'] at this; exact this
        have htm : ((k : Int).tmod (keep.length : Int)) = ((k % keep.length : Nat) : Int) := (Int.ofNat_tmod k keep.length).symm
        have hlp : (0 : Int) < (keep.length : Int) := by omega
        have hl0 : ¬ ((keep.length : Nat) : Int) = 0 := by omega
        by_cases hbb : keep[k % keep.length] = true
        · rw [hbb] at hcb
          have hnw : nw keep tn cut x k = y := by
            unfold nw
            rw [if_neg ht, List.getElem?_eq_getElem hmod, hbb, if_pos rfl, hnow]
          obtain ⟨ads, es2, hs1, hs2, hs3, hias⟩ := rdS_at (ownE_rd encS_len (by decide) d2.own) hiS
          have hs3 : es2 = encS x.s := by rw [hs3, hsx]
          subst hs3
          simp only [↓bx_e, ↓al_e, ↓fa_e, ↓ld_e, ↓ad_e, ↓su_e, ↓mu_e, ↓lt_e, ↓le_e, ↓gt_e, ↓ge_e, ↓eqi_e, ↓nei_e, ↓qu_e, ↓re_e, ↓cv_e, ↓nt_e, ↓pk_t, ↓pk_f, ↓pk_e, ↓eqb_e, ↓neb_e, ↓nc_e, ↓ex_e, ↓lnl_e, ↓lns_e, ↓idv_e, ↓cl_e, ↓cnd_e, ↓gd_e, ↓gd_u, ↓gdu_e, ↓rt_e, ↓jn_e, ↓dr_q, ↓kp_e, ↓mnm_e, ↓mxm_e, ↓mif_e, ↓asrt_e, ↓eqs_e, ↓nes_e, Value.cells, add_lit, cell_psh_new, cell_drw, Nat.zero_add, Nat.reduceAdd, get4_0, get4_1, get4_2, get4_3, get3_0, get3_1, get3_2, get2_0, get2_1, get1_0, Option.some.injEq, exists_eq_left', decide_true, decide_false, decide_eq_true_eq, if_true, if_false, Bool.not_true, Bool.not_false, Bool.false_eq_true, Bool.true_eq_false, Bool.not_eq_true', decide_eq_false_iff_not, not_false_eq_true, not_true_eq_false, reduceCtorEq, bx_e, al_e, fa_e, ld_e, ad_e, su_e, mu_e, lt_e, le_e, gt_e, ge_e, eqi_e, nei_e, qu_e, re_e, cv_e, nt_e, pk_t, pk_f, pk_e, eqb_e, neb_e, nc_e, ex_e, lnl_e, lns_e, idv_e, cl_e, cnd_e, gd_e, gd_u, gdu_e, rt_e, jn_e, dr_q, kp_e, mnm_e, mxm_e, mif_e, asrt_e, eqs_e, nes_e, cond_true, cond_false, Bool.true_and, Bool.and_true, Bool.false_and, Bool.and_false, decide_not, htd, hlnl, hlp, hl0, htm, hiak, hcb, k0, hias]
          refine ⟨by omega, ldn_box (show (drw w2).heap[_]? = _ from h2) (by simp [encS_len]) ?_⟩
          simp only [↓bx_e, ↓al_e, ↓fa_e, ↓ld_e, ↓ad_e, ↓su_e, ↓mu_e, ↓lt_e, ↓le_e, ↓gt_e, ↓ge_e, ↓eqi_e, ↓nei_e, ↓qu_e, ↓re_e, ↓cv_e, ↓nt_e, ↓pk_t, ↓pk_f, ↓pk_e, ↓eqb_e, ↓neb_e, ↓nc_e, ↓ex_e, ↓lnl_e, ↓lns_e, ↓idv_e, ↓cl_e, ↓cnd_e, ↓gd_e, ↓gd_u, ↓gdu_e, ↓rt_e, ↓jn_e, ↓dr_q, ↓kp_e, ↓mnm_e, ↓mxm_e, ↓mif_e, ↓asrt_e, ↓eqs_e, ↓nes_e, Value.cells, add_lit, cell_psh_new, cell_drw, Nat.zero_add, Nat.reduceAdd, get4_0, get4_1, get4_2, get4_3, get3_0, get3_1, get3_2, get2_0, get2_1, get1_0, Option.some.injEq, exists_eq_left', decide_true, decide_false, decide_eq_true_eq, if_true, if_false, Bool.not_true, Bool.not_false, Bool.false_eq_true, Bool.true_eq_false, Bool.not_eq_true', decide_eq_false_iff_not, not_false_eq_true, not_true_eq_false, reduceCtorEq, bx_e, al_e, fa_e, ld_e, ad_e, su_e, mu_e, lt_e, le_e, gt_e, ge_e, eqi_e, nei_e, qu_e, re_e, cv_e, nt_e, pk_t, pk_f, pk_e, eqb_e, neb_e, nc_e, ex_e, lnl_e, lns_e, idv_e, cl_e, cnd_e, gd_e, gd_u, gdu_e, rt_e, jn_e, dr_q, kp_e, mnm_e, mxm_e, mif_e, asrt_e, eqs_e, nes_e, cond_true, cond_false, Bool.true_and, Bool.and_true, Bool.false_and, Bool.and_false, decide_not, k0, hias]
          refine ldn_at (show cellsAt (drw w2) ads (encS x.s) from hs2) (encS_len _) ?_
          have hne := run_ne_eS (x := .tmp 57) (y := .tmp 64) y x.s (drw w2)
          simp only [↓bx_e, ↓al_e, ↓fa_e, ↓ld_e, ↓ad_e, ↓su_e, ↓mu_e, ↓lt_e, ↓le_e, ↓gt_e, ↓ge_e, ↓eqi_e, ↓nei_e, ↓qu_e, ↓re_e, ↓cv_e, ↓nt_e, ↓pk_t, ↓pk_f, ↓pk_e, ↓eqb_e, ↓neb_e, ↓nc_e, ↓ex_e, ↓lnl_e, ↓lns_e, ↓idv_e, ↓cl_e, ↓cnd_e, ↓gd_e, ↓gd_u, ↓gdu_e, ↓rt_e, ↓jn_e, ↓dr_q, ↓kp_e, ↓mnm_e, ↓mxm_e, ↓mif_e, ↓asrt_e, ↓eqs_e, ↓nes_e, Value.cells, add_lit, cell_psh_new, cell_drw, Nat.zero_add, Nat.reduceAdd, get4_0, get4_1, get4_2, get4_3, get3_0, get3_1, get3_2, get2_0, get2_1, get1_0, Option.some.injEq, exists_eq_left', decide_true, decide_false, decide_eq_true_eq, if_true, if_false, Bool.not_true, Bool.not_false, Bool.false_eq_true, Bool.true_eq_false, Bool.not_eq_true', decide_eq_false_iff_not, not_false_eq_true, not_true_eq_false, reduceCtorEq, bx_e, al_e, fa_e, ld_e, ad_e, su_e, mu_e, lt_e, le_e, gt_e, ge_e, eqi_e, nei_e, qu_e, re_e, cv_e, nt_e, pk_t, pk_f, pk_e, eqb_e, neb_e, nc_e, ex_e, lnl_e, lns_e, idv_e, cl_e, cnd_e, gd_e, gd_u, gdu_e, rt_e, jn_e, dr_q, kp_e, mnm_e, mxm_e, mif_e, asrt_e, eqs_e, nes_e, cond_true, cond_false, Bool.true_and, Bool.and_true, Bool.false_and, Bool.and_false, decide_not]
          refine Eq.mpr (smr_run hne) ?_
          by_cases hyx : y = x.s
          · simp only [↓bx_e, ↓al_e, ↓fa_e, ↓ld_e, ↓ad_e, ↓su_e, ↓mu_e, ↓lt_e, ↓le_e, ↓gt_e, ↓ge_e, ↓eqi_e, ↓nei_e, ↓qu_e, ↓re_e, ↓cv_e, ↓nt_e, ↓pk_t, ↓pk_f, ↓pk_e, ↓eqb_e, ↓neb_e, ↓nc_e, ↓ex_e, ↓lnl_e, ↓lns_e, ↓idv_e, ↓cl_e, ↓cnd_e, ↓gd_e, ↓gd_u, ↓gdu_e, ↓rt_e, ↓jn_e, ↓dr_q, ↓kp_e, ↓mnm_e, ↓mxm_e, ↓mif_e, ↓asrt_e, ↓eqs_e, ↓nes_e, Value.cells, add_lit, cell_psh_new, cell_drw, Nat.zero_add, Nat.reduceAdd, get4_0, get4_1, get4_2, get4_3, get3_0, get3_1, get3_2, get2_0, get2_1, get1_0, Option.some.injEq, exists_eq_left', decide_true, decide_false, decide_eq_true_eq, if_true, if_false, Bool.not_true, Bool.not_false, Bool.false_eq_true, Bool.true_eq_false, Bool.not_eq_true', decide_eq_false_iff_not, not_false_eq_true, not_true_eq_false, reduceCtorEq, bx_e, al_e, fa_e, ld_e, ad_e, su_e, mu_e, lt_e, le_e, gt_e, ge_e, eqi_e, nei_e, qu_e, re_e, cv_e, nt_e, pk_t, pk_f, pk_e, eqb_e, neb_e, nc_e, ex_e, lnl_e, lns_e, idv_e, cl_e, cnd_e, gd_e, gd_u, gdu_e, rt_e, jn_e, dr_q, kp_e, mnm_e, mxm_e, mif_e, asrt_e, eqs_e, nes_e, cond_true, cond_false, Bool.true_and, Bool.and_true, Bool.false_and, Bool.and_false, decide_not, hyx, decide_true]
            exact fin0 _ (.inr rfl) (by rw [hnw, hyx])
          · simp only [↓bx_e, ↓al_e, ↓fa_e, ↓ld_e, ↓ad_e, ↓su_e, ↓mu_e, ↓lt_e, ↓le_e, ↓gt_e, ↓ge_e, ↓eqi_e, ↓nei_e, ↓qu_e, ↓re_e, ↓cv_e, ↓nt_e, ↓pk_t, ↓pk_f, ↓pk_e, ↓eqb_e, ↓neb_e, ↓nc_e, ↓ex_e, ↓lnl_e, ↓lns_e, ↓idv_e, ↓cl_e, ↓cnd_e, ↓gd_e, ↓gd_u, ↓gdu_e, ↓rt_e, ↓jn_e, ↓dr_q, ↓kp_e, ↓mnm_e, ↓mxm_e, ↓mif_e, ↓asrt_e, ↓eqs_e, ↓nes_e, Value.cells, add_lit, cell_psh_new, cell_drw, Nat.zero_add, Nat.reduceAdd, get4_0, get4_1, get4_2, get4_3, get3_0, get3_1, get3_2, get2_0, get2_1, get1_0, Option.some.injEq, exists_eq_left', decide_true, decide_false, decide_eq_true_eq, if_true, if_false, Bool.not_true, Bool.not_false, Bool.false_eq_true, Bool.true_eq_false, Bool.not_eq_true', decide_eq_false_iff_not, not_false_eq_true, not_true_eq_false, reduceCtorEq, bx_e, al_e, fa_e, ld_e, ad_e, su_e, mu_e, lt_e, le_e, gt_e, ge_e, eqi_e, nei_e, qu_e, re_e, cv_e, nt_e, pk_t, pk_f, pk_e, eqb_e, neb_e, nc_e, ex_e, lnl_e, lns_e, idv_e, cl_e, cnd_e, gd_e, gd_u, gdu_e, rt_e, jn_e, dr_q, kp_e, mnm_e, mxm_e, mif_e, asrt_e, eqs_e, nes_e, cond_true, cond_false, Bool.true_and, Bool.and_true, Bool.false_and, Bool.and_false, decide_not, decide_eq_false hyx, k0]
            refine ldn_box (show (drw w2).heap[_]? = _ from h2) (by simp [encS_len]) ?_
            refine ia_stnE (w := drw (drw w2)) (j := .i64) (i := i) (y := y) encS_len encS_one d2.own hiS fun w3 g' hg' ho3 hu3 => ?_
            rw [hob] at hg'; cases hg'
            exact fin w3 y hnw ho3 ⟨hu3.os, hu3.tape, hu3.output, hu3.size, hu3.block⟩
        · have hbf : keep[k % keep.length] = false := by simpa using hbb
          rw [hbf] at hcb
          have hz : nw keep tn cut x k = x.s := by
            unfold nw
            rw [if_neg ht, List.getElem?_eq_getElem hmod, hbf, if_neg (by simp)]
          simp only [↓bx_e, ↓al_e, ↓fa_e, ↓ld_e, ↓ad_e, ↓su_e, ↓mu_e, ↓lt_e, ↓le_e, ↓gt_e, ↓ge_e, ↓eqi_e, ↓nei_e, ↓qu_e, ↓re_e, ↓cv_e, ↓nt_e, ↓pk_t, ↓pk_f, ↓pk_e, ↓eqb_e, ↓neb_e, ↓nc_e, ↓ex_e, ↓lnl_e, ↓lns_e, ↓idv_e, ↓cl_e, ↓cnd_e, ↓gd_e, ↓gd_u, ↓gdu_e, ↓rt_e, ↓jn_e, ↓dr_q, ↓kp_e, ↓mnm_e, ↓mxm_e, ↓mif_e, ↓asrt_e, ↓eqs_e, ↓nes_e, Value.cells, add_lit, cell_psh_new, cell_drw, Nat.zero_add, Nat.reduceAdd, get4_0, get4_1, get4_2, get4_3, get3_0, get3_1, get3_2, get2_0, get2_1, get1_0, Option.some.injEq, exists_eq_left', decide_true, decide_false, decide_eq_true_eq, if_true, if_false, Bool.not_true, Bool.not_false, Bool.false_eq_true, Bool.true_eq_false, Bool.not_eq_true', decide_eq_false_iff_not, not_false_eq_true, not_true_eq_false, reduceCtorEq, bx_e, al_e, fa_e, ld_e, ad_e, su_e, mu_e, lt_e, le_e, gt_e, ge_e, eqi_e, nei_e, qu_e, re_e, cv_e, nt_e, pk_t, pk_f, pk_e, eqb_e, neb_e, nc_e, ex_e, lnl_e, lns_e, idv_e, cl_e, cnd_e, gd_e, gd_u, gdu_e, rt_e, jn_e, dr_q, kp_e, mnm_e, mxm_e, mif_e, asrt_e, eqs_e, nes_e, cond_true, cond_false, Bool.true_and, Bool.and_true, Bool.false_and, Bool.and_false, decide_not, htd, hlnl, hlp, hl0, htm, hiak, hcb]
          exact ⟨by omega, fin0 _ (.inr rfl) hz⟩
theorem f24_s {W : World} (hk : rdS 1 bR W vk keep) (hb : Below W.heap.size W w) (hWB : W.heap.size ≤ B) (hd : DevAt B w p v b D) (h : ∀ w', DevAt B w' p v b (D.crash keep tn cut) → ChgS (fpD p v b) w w' → Q (.tuple #[]) w') : f24 (pv p) vk (.int .i64 tn) (.int .i64 cut) w Q := by
  unfold f24
  rw [pn_eq pt23]
  simp only [↓bx_e, ↓al_e, ↓fa_e, ↓ld_e, ↓ad_e, ↓su_e, ↓mu_e, ↓lt_e, ↓le_e, ↓gt_e, ↓ge_e, ↓eqi_e, ↓nei_e, ↓qu_e, ↓re_e, ↓cv_e, ↓nt_e, ↓pk_t, ↓pk_f, ↓pk_e, ↓eqb_e, ↓neb_e, ↓nc_e, ↓ex_e, ↓lnl_e, ↓lns_e, ↓idv_e, ↓cl_e, ↓cnd_e, ↓gd_e, ↓gd_u, ↓gdu_e, ↓rt_e, ↓jn_e, ↓dr_q, ↓kp_e, ↓mnm_e, ↓mxm_e, ↓mif_e, ↓asrt_e, ↓eqs_e, ↓nes_e, Value.cells, add_lit, cell_psh_new, cell_drw, Nat.zero_add, Nat.reduceAdd, get4_0, get4_1, get4_2, get4_3, get3_0, get3_1, get3_2, get2_0, get2_1, get1_0, Option.some.injEq, exists_eq_left', decide_true, decide_false, decide_eq_true_eq, if_true, if_false, Bool.not_true, Bool.not_false, Bool.false_eq_true, Bool.true_eq_false, Bool.not_eq_true', decide_eq_false_iff_not, not_false_eq_true, not_true_eq_false, reduceCtorEq, bx_e, al_e, fa_e, ld_e, ad_e, su_e, mu_e, lt_e, le_e, gt_e, ge_e, eqi_e, nei_e, qu_e, re_e, cv_e, nt_e, pk_t, pk_f, pk_e, eqb_e, neb_e, nc_e, ex_e, lnl_e, lns_e, idv_e, cl_e, cnd_e, gd_e, gd_u, gdu_e, rt_e, jn_e, dr_q, kp_e, mnm_e, mxm_e, mif_e, asrt_e, eqs_e, nes_e, cond_true, cond_false, Bool.true_and, Bool.and_true, Bool.false_and, Bool.and_false, decide_not, Option.isNone]
  refine f14_s hd fun w1 u ho hb1 => ?_
  have d1 := hd.below hb1
  obtain ⟨pu, cu, hvu, _⟩ := ownI_rd ho
  have hl : (unsL D.A).length = (uns D.A).length := by unfold unsL; rw [List.length_map]
  rw [hl] at hvu
  have hlnl : ∀ (K : Value → M) (w' : World), lnl u K w' Q = K (.int .i64 ((uns D.A).length : Nat)) w' Q := fun K w' => by rw [hvu, lnl_e]
  simp only [↓bx_e, ↓al_e, ↓fa_e, ↓ld_e, ↓ad_e, ↓su_e, ↓mu_e, ↓lt_e, ↓le_e, ↓gt_e, ↓ge_e, ↓eqi_e, ↓nei_e, ↓qu_e, ↓re_e, ↓cv_e, ↓nt_e, ↓pk_t, ↓pk_f, ↓pk_e, ↓eqb_e, ↓neb_e, ↓nc_e, ↓ex_e, ↓lnl_e, ↓lns_e, ↓idv_e, ↓cl_e, ↓cnd_e, ↓gd_e, ↓gd_u, ↓gdu_e, ↓rt_e, ↓jn_e, ↓dr_q, ↓kp_e, ↓mnm_e, ↓mxm_e, ↓mif_e, ↓asrt_e, ↓eqs_e, ↓nes_e, Value.cells, add_lit, cell_psh_new, cell_drw, Nat.zero_add, Nat.reduceAdd, get4_0, get4_1, get4_2, get4_3, get3_0, get3_1, get3_2, get2_0, get2_1, get1_0, Option.some.injEq, exists_eq_left', decide_true, decide_false, decide_eq_true_eq, if_true, if_false, Bool.not_true, Bool.not_false, Bool.false_eq_true, Bool.true_eq_false, Bool.not_eq_true', decide_eq_false_iff_not, not_false_eq_true, not_true_eq_false, reduceCtorEq, bx_e, al_e, fa_e, ld_e, ad_e, su_e, mu_e, lt_e, le_e, gt_e, ge_e, eqi_e, nei_e, qu_e, re_e, cv_e, nt_e, pk_t, pk_f, pk_e, eqb_e, neb_e, nc_e, ex_e, lnl_e, lns_e, idv_e, cl_e, cnd_e, gd_e, gd_u, gdu_e, rt_e, jn_e, dr_q, kp_e, mnm_e, mxm_e, mif_e, asrt_e, eqs_e, nes_e, cond_true, cond_false, Bool.true_and, Bool.and_true, Bool.false_and, Bool.and_false, decide_not, hlnl]
  refine ⟨_, f24_loop (W := W) (B := B) D.A hk hWB d1.n f24_j1 (uns D.A).length ((uns D.A).length + 1) 0 w1 D (by omega) (by omega) (bt hb hb1) d1 ho rfl (fun _ _ _ => rfl) fun w2 d2 c2 => ?_⟩
  rw [List.drop_zero] at d2
  unfold f24_j1
  have k1 := d2.c1
  obtain ⟨L, hm, hl2⟩ := d2.mp
  simp only [↓bx_e, ↓al_e, ↓fa_e, ↓ld_e, ↓ad_e, ↓su_e, ↓mu_e, ↓lt_e, ↓le_e, ↓gt_e, ↓ge_e, ↓eqi_e, ↓nei_e, ↓qu_e, ↓re_e, ↓cv_e, ↓nt_e, ↓pk_t, ↓pk_f, ↓pk_e, ↓eqb_e, ↓neb_e, ↓nc_e, ↓ex_e, ↓lnl_e, ↓lns_e, ↓idv_e, ↓cl_e, ↓cnd_e, ↓gd_e, ↓gd_u, ↓gdu_e, ↓rt_e, ↓jn_e, ↓dr_q, ↓kp_e, ↓mnm_e, ↓mxm_e, ↓mif_e, ↓asrt_e, ↓eqs_e, ↓nes_e, Value.cells, add_lit, cell_psh_new, cell_drw, Nat.zero_add, Nat.reduceAdd, get4_0, get4_1, get4_2, get4_3, get3_0, get3_1, get3_2, get2_0, get2_1, get1_0, Option.some.injEq, exists_eq_left', decide_true, decide_false, decide_eq_true_eq, if_true, if_false, Bool.not_true, Bool.not_false, Bool.false_eq_true, Bool.true_eq_false, Bool.not_eq_true', decide_eq_false_iff_not, not_false_eq_true, not_true_eq_false, reduceCtorEq, bx_e, al_e, fa_e, ld_e, ad_e, su_e, mu_e, lt_e, le_e, gt_e, ge_e, eqi_e, nei_e, qu_e, re_e, cv_e, nt_e, pk_t, pk_f, pk_e, eqb_e, neb_e, nc_e, ex_e, lnl_e, lns_e, idv_e, cl_e, cnd_e, gd_e, gd_u, gdu_e, rt_e, jn_e, dr_q, kp_e, mnm_e, mxm_e, mif_e, asrt_e, eqs_e, nes_e, cond_true, cond_false, Bool.true_and, Bool.and_true, Bool.false_and, Bool.and_false, decide_not, k1]
  refine clear_map (kv := kI) KK hm fun w3 hm3 hu3 => ?_
  have d3 := d2.clear hm3 hu3 (A' := crashL (fun _ => none) keep tn cut D.A (uns D.A) 0) (crash_two D.A).symm (crash_none D.A)
  simp only [↓bx_e, ↓al_e, ↓fa_e, ↓ld_e, ↓ad_e, ↓su_e, ↓mu_e, ↓lt_e, ↓le_e, ↓gt_e, ↓ge_e, ↓eqi_e, ↓nei_e, ↓qu_e, ↓re_e, ↓cv_e, ↓nt_e, ↓pk_t, ↓pk_f, ↓pk_e, ↓eqb_e, ↓neb_e, ↓nc_e, ↓ex_e, ↓lnl_e, ↓lns_e, ↓idv_e, ↓cl_e, ↓cnd_e, ↓gd_e, ↓gd_u, ↓gdu_e, ↓rt_e, ↓jn_e, ↓dr_q, ↓kp_e, ↓mnm_e, ↓mxm_e, ↓mif_e, ↓asrt_e, ↓eqs_e, ↓nes_e, Value.cells, add_lit, cell_psh_new, cell_drw, Nat.zero_add, Nat.reduceAdd, get4_0, get4_1, get4_2, get4_3, get3_0, get3_1, get3_2, get2_0, get2_1, get1_0, Option.some.injEq, exists_eq_left', decide_true, decide_false, decide_eq_true_eq, if_true, if_false, Bool.not_true, Bool.not_false, Bool.false_eq_true, Bool.true_eq_false, Bool.not_eq_true', decide_eq_false_iff_not, not_false_eq_true, not_true_eq_false, reduceCtorEq, bx_e, al_e, fa_e, ld_e, ad_e, su_e, mu_e, lt_e, le_e, gt_e, ge_e, eqi_e, nei_e, qu_e, re_e, cv_e, nt_e, pk_t, pk_f, pk_e, eqb_e, neb_e, nc_e, ex_e, lnl_e, lns_e, idv_e, cl_e, cnd_e, gd_e, gd_u, gdu_e, rt_e, jn_e, dr_q, kp_e, mnm_e, mxm_e, mif_e, asrt_e, eqs_e, nes_e, cond_true, cond_false, Bool.true_and, Bool.and_true, Bool.false_and, Bool.and_false, decide_not]
  refine st_box d3.hp (o := 3) (v := .int .i64 4611686018427387904) (by simp) rfl fun w4 h4 hu4 => ?_
  simp only [↓bx_e, ↓al_e, ↓fa_e, ↓ld_e, ↓ad_e, ↓su_e, ↓mu_e, ↓lt_e, ↓le_e, ↓gt_e, ↓ge_e, ↓eqi_e, ↓nei_e, ↓qu_e, ↓re_e, ↓cv_e, ↓nt_e, ↓pk_t, ↓pk_f, ↓pk_e, ↓eqb_e, ↓neb_e, ↓nc_e, ↓ex_e, ↓lnl_e, ↓lns_e, ↓idv_e, ↓cl_e, ↓cnd_e, ↓gd_e, ↓gd_u, ↓gdu_e, ↓rt_e, ↓jn_e, ↓dr_q, ↓kp_e, ↓mnm_e, ↓mxm_e, ↓mif_e, ↓asrt_e, ↓eqs_e, ↓nes_e, Value.cells, add_lit, cell_psh_new, cell_drw, Nat.zero_add, Nat.reduceAdd, get4_0, get4_1, get4_2, get4_3, get3_0, get3_1, get3_2, get2_0, get2_1, get1_0, Option.some.injEq, exists_eq_left', decide_true, decide_false, decide_eq_true_eq, if_true, if_false, Bool.not_true, Bool.not_false, Bool.false_eq_true, Bool.true_eq_false, Bool.not_eq_true', decide_eq_false_iff_not, not_false_eq_true, not_true_eq_false, reduceCtorEq, bx_e, al_e, fa_e, ld_e, ad_e, su_e, mu_e, lt_e, le_e, gt_e, ge_e, eqi_e, nei_e, qu_e, re_e, cv_e, nt_e, pk_t, pk_f, pk_e, eqb_e, neb_e, nc_e, ex_e, lnl_e, lns_e, idv_e, cl_e, cnd_e, gd_e, gd_u, gdu_e, rt_e, jn_e, dr_q, kp_e, mnm_e, mxm_e, mif_e, asrt_e, eqs_e, nes_e, cond_true, cond_false, Bool.true_and, Bool.and_true, Bool.false_and, Bool.and_false, decide_not]
  refine h w4 (d3.upd (D' := D.crash keep tn cut) rfl h4 hu4) ?_
  have s1 : ChgS (fpD p v b) w w1 := ChgS.of_below hb1
  exact ((s1.trans c2 (fun _ _ h => h)).trans (ChgS.of_upd hu3 (S := fpD p v b) (.inr (.inl rfl))) (fun _ _ h => h)).trans (ChgS.of_upd hu4 (S := fpD p v b) (.inl rfl)) (fun _ _ h => h)
theorem f24_n (tn cut : Int) (h : Q (.tuple #[]) w) : f24 (.pointer none) vk (.int .i64 tn) (.int .i64 cut) w Q := by
  unfold f24
  rw [pn_eq pt23]
  simp only [↓bx_e, ↓al_e, ↓fa_e, ↓ld_e, ↓ad_e, ↓su_e, ↓mu_e, ↓lt_e, ↓le_e, ↓gt_e, ↓ge_e, ↓eqi_e, ↓nei_e, ↓qu_e, ↓re_e, ↓cv_e, ↓nt_e, ↓pk_t, ↓pk_f, ↓pk_e, ↓eqb_e, ↓neb_e, ↓nc_e, ↓ex_e, ↓lnl_e, ↓lns_e, ↓idv_e, ↓cl_e, ↓cnd_e, ↓gd_e, ↓gd_u, ↓gdu_e, ↓rt_e, ↓jn_e, ↓dr_q, ↓kp_e, ↓mnm_e, ↓mxm_e, ↓mif_e, ↓asrt_e, ↓eqs_e, ↓nes_e, Value.cells, add_lit, cell_psh_new, cell_drw, Nat.zero_add, Nat.reduceAdd, get4_0, get4_1, get4_2, get4_3, get3_0, get3_1, get3_2, get2_0, get2_1, get1_0, Option.some.injEq, exists_eq_left', decide_true, decide_false, decide_eq_true_eq, if_true, if_false, Bool.not_true, Bool.not_false, Bool.false_eq_true, Bool.true_eq_false, Bool.not_eq_true', decide_eq_false_iff_not, not_false_eq_true, not_true_eq_false, reduceCtorEq, bx_e, al_e, fa_e, ld_e, ad_e, su_e, mu_e, lt_e, le_e, gt_e, ge_e, eqi_e, nei_e, qu_e, re_e, cv_e, nt_e, pk_t, pk_f, pk_e, eqb_e, neb_e, nc_e, ex_e, lnl_e, lns_e, idv_e, cl_e, cnd_e, gd_e, gd_u, gdu_e, rt_e, jn_e, dr_q, kp_e, mnm_e, mxm_e, mif_e, asrt_e, eqs_e, nes_e, cond_true, cond_false, Bool.true_and, Bool.and_true, Bool.false_and, Bool.and_false, decide_not, Option.isNone]
  exact h
end
end Go.Proofs.Ytjaiodbonffciaa
