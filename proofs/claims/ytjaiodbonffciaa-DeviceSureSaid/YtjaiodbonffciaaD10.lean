/- Steps, of both. -/
import Derived.Test.YtjaiodbonffciaaD9
set_option linter.unusedVariables false
set_option linter.unusedSimpArgs false
set_option linter.unusedSectionVars false
namespace Go.Proofs.Ytjaiodbonffciaa
open Sh RowKit Go.MapKept
structure Op4 where
  kind : Int
  i : Int
  s : ByteArray
  keep : List Bool
  cut : Int
  vk : Value
def Op4.cells (o : Op4) : List Value := [.int .i64 o.kind, .int .i64 o.i, .string o.s, o.vk, .int .i64 o.cut]
def oR4 : RepT Op4 := fun w cs o => cs = o.cells ∧ rdS 1 bR w o.vk o.keep
theorem oR4_st : Stable oR4 := fun w w' es x hb h => ⟨h.1, rdS_below bR_st hb h.2⟩
def kdO (o : Op4) : Nat := (IntKind.u64.wrap o.kind % 4).toNat
theorem kdO_lt (o : Op4) : kdO o < 4 := by unfold kdO; omega
def Dv.op (D : Dv) (o : Op4) : Int × Dv := if kdO o = 0 then D.wr o.i o.s else if kdO o = 1 then D.sync else if kdO o = 2 then (0, D.stop o.i) else (0, D.crash o.keep o.i o.cut)
def hR (h : Int) : Int := if h = 4611686018427387904 then -1 else h
abbrev RefAt (B : Nat) (w : World) (q : Nat) (u : Value) (D : Dv) : Prop := RQ B w q u (D.A.map pl) D.c (hR D.h)
/-- what is true of a device all along, c calls at most -/
structure DI (D : Dv) (n : Int) : Prop where
  c0 : 0 ≤ D.c
  c1 : D.c ≤ n
  h0 : 0 ≤ D.h
theorem hR_iff {D : Dv} {n : Int} (h : DI D n) (hn : n ≤ 1000000) : (0 ≤ hR D.h ∧ hR D.h ≤ D.c) ↔ D.h < D.c + 1 := by
  have := h.c1; have := h.c0; have := h.h0
  unfold hR
  split <;> omega
theorem wr_A (D : Dv) (i : Int) (s : ByteArray) : (D.wr i s).2.c = D.c + 1 ∧ (D.wr i s).2.h = D.h ∧ (D.wr i s).2.A.length = D.A.length := by
  unfold Dv.wr
  split
  · exact ⟨rfl, rfl, rfl⟩
  · split
    · exact ⟨rfl, rfl, rfl⟩
    · split
      · exact ⟨rfl, rfl, rfl⟩
      · exact ⟨rfl, rfl, by simp [Dv.set, Dv.tick]⟩
theorem sync_A (D : Dv) : D.sync.2.c = D.c + 1 ∧ D.sync.2.h = D.h ∧ D.sync.2.A.length = D.A.length := by
  unfold Dv.sync
  split
  · exact ⟨rfl, rfl, rfl⟩
  · exact ⟨rfl, rfl, by simp⟩
theorem crashA_len (D : Dv) (keep : List Bool) (tn cut : Int) : (D.crash keep tn cut).A.length = D.A.length :=
  (crashL_get (uns D.A) D.A 0 (uns_nodup D.A) (fun i hi => uns_lt hi)).1
theorem stop_h {D : Dv} {n m : Int} (h : DI D n) (hn : n ≤ 1000000) : 0 ≤ (D.stop m).h ∧ hR (D.stop m).h = if m < 0 ∨ 1099511627776 < m then -1 else D.c + m := by
  have := h.c1; have := h.c0
  unfold Dv.stop hR
  split
  · exact ⟨by simp, rfl⟩
  · refine ⟨by simp only; omega, ?_⟩
    simp only
    rw [if_neg (by omega)]
theorem DI.op {D : Dv} {n : Int} (h : DI D n) (hn : n ≤ 1000000) (o : Op4) : DI (D.op o).2 (n + 1) := by
  have h1 := h.c0; have h2 := h.c1; have h3 := h.h0
  unfold Dv.op
  split
  · obtain ⟨a, b, _⟩ := wr_A D o.i o.s
    exact ⟨by omega, by omega, by omega⟩
  · split
    · obtain ⟨a, b, _⟩ := sync_A D
      exact ⟨by omega, by omega, by omega⟩
    · split
      · exact ⟨h1, by show D.c ≤ _; omega, (stop_h h hn).1⟩
      · exact ⟨h1, by show D.c ≤ _; omega, by show (0 : Int) ≤ 4611686018427387904; omega⟩
theorem op_len (D : Dv) (o : Op4) : (D.op o).2.A.length = D.A.length := by
  unfold Dv.op
  split
  · exact (wr_A D o.i o.s).2.2
  · split
    · exact (sync_A D).2.2
    · split
      · rfl
      · exact crashA_len D _ _ _
theorem wr_ref {D : Dv} {i : Int} {s : ByteArray} {n : Int} (h : DI D n) (hn : n ≤ 1000000) :
    (if 0 ≤ hR D.h ∧ hR D.h ≤ D.c then (9, D.A.map pl) else wrP (D.A.map pl) i s) = ((D.wr i s).1, (D.wr i s).2.A.map pl) := by
  unfold Dv.wr wrP Dv.at
  by_cases c : D.h < D.c + 1
  · rw [if_pos ((hR_iff h hn).2 c), if_pos c]; rfl
  · rw [if_neg (fun a => c ((hR_iff h hn).1 a)), if_neg c]
    by_cases hi : i < 0
    · rw [if_pos hi, if_neg (by omega)]; rfl
    · rw [if_neg hi, if_pos (by omega), List.getElem?_map]
      cases D.A[i.toNat]? with
      | none => rfl
      | some x =>
        simp only [Option.map_some]
        split
        · rfl
        · show (0, (D.A.map pl).set i.toNat _) = (0, (D.A.set i.toNat _).map pl)
          rw [List.map_set]; rfl
theorem syn_ref {D : Dv} {n : Int} (h : DI D n) (hn : n ≤ 1000000) :
    (if 0 ≤ hR D.h ∧ hR D.h ≤ D.c then (9, D.A.map pl) else (0, (D.A.map pl).map synP)) = (D.sync.1, D.sync.2.A.map pl) := by
  unfold Dv.sync
  by_cases c : D.h < D.c + 1
  · rw [if_pos ((hR_iff h hn).2 c), if_pos c]; rfl
  · rw [if_neg (fun a => c ((hR_iff h hn).1 a)), if_neg c]
    simp only [Prod.mk.injEq, true_and, List.map_map]
    exact List.map_congr_left fun x _ => rfl
section
variable {B : Nat} {w w' : World} {p b q : Nat} {v u : Value} {D D' : Dv} {Q : Value → World → Prop}
theorem RQ.keepD {P : List Plc} {c h : Int} (r : RQ B w q u P c h) (hd : DevAt B w p v b D) (hc : ChgS (fpD p v b) w w') : RQ B w' q u P c h := by
  obtain ⟨L, ⟨es, clock, hm, _⟩, _⟩ := hd.mp
  have hq : ¬ fpD p v b q := by
    rintro (rfl | rfl | hg)
    · have := r.hq; rw [hd.hp] at this; cases this
    · have := r.hq; rw [hm] at this; cases this
    · obtain ⟨_, _, cur, h3⟩ := ownE_blk hd.own q hg
      rw [r.hq] at h3; cases h3
  refine ⟨r.qB, r.n, hc.keep r.hq hq, ownE_stay r.own (fun g hg => hc.block g (r.gblk g hg).2.2 ?_)⟩
  obtain ⟨_, _, cur, h3⟩ := ownE_blk r.own g hg
  rintro (rfl | rfl | hg')
  · rw [hd.hp] at h3; cases h3
  · rw [hm] at h3; cases h3
  · obtain ⟨_, _, cur', h3'⟩ := ownE_blk hd.own g hg'
    rw [h3] at h3'; cases h3'
theorem DevAt.keepR {P : List Plc} {c h : Int} (hd : DevAt B w p v b D) (r : RQ B w q u P c h) (hc : ChgS (fpR q u) w w') : DevAt B w' p v b D := by
  obtain ⟨L, hmm, hl⟩ := hd.mp
  have hm := hmm
  obtain ⟨es, clock, hm, _⟩ := hm
  have no : ∀ k o, w.heap[k]? = some o → (∀ cur, o ≠ .cells cur 44 (0, 0)) → (∀ cur, o ≠ .cells cur 70 (0, 0)) → ¬ fpR q u k := by
    intro k o hk h1 h2 hf
    rcases hf with rfl | hg
    · rw [r.hq] at hk; cases hk; exact h1 _ rfl
    · obtain ⟨_, _, cur, h3⟩ := ownE_blk r.own k hg
      rw [hk] at h3; cases h3; exact h2 _ rfl
  refine ⟨hd.pB, hd.bB, hd.n, hc.keep hd.hp (no _ _ hd.hp (by simp) (by simp)), ownE_stay hd.own (fun g hg => ?_), L, hmm.stay (hc.block b (blk_lt hm) (no _ _ hm (by simp) (by simp))), hl⟩
  obtain ⟨_, hlt, cur, h3⟩ := ownE_blk hd.own g hg
  exact hc.block g hlt (no _ _ h3 (by simp) (by simp))
theorem f26_s (o : Op4) (h : ∀ w', Below w.heap.size w w' → Q (.int .i64 (kdO o : Nat)) w') : f26 (.agg o.cells.toArray) w Q := by
  unfold f26
  have h := h _ (b_psh w (.cells (Value.agg o.cells.toArray).cells 40))
  have e1 : (IntKind.u64.wrap o.kind).tmod 4 = ((kdO o : Nat) : Int) := by
    rw [Int.tmod_eq_emod_of_nonneg (by rw [wrap_u64]; omega)]
    unfold kdO; omega
  have e2 : IntKind.i64.wrap ((kdO o : Nat) : Int) = ((kdO o : Nat) : Int) := by have := kdO_lt o; exact w64 (by omega) (by omega)
  have c0 : (Value.agg o.cells.toArray).cells[0]? = some (.int .i64 o.kind) := rfl
  simp only [↓bx_e, fa_e, add_lit, ld_e, cell_psh_new, c0, Nat.add_zero, Option.some.injEq, exists_eq_left', cv_e, re_e, e1, e2, rt_e, ne_eq]
  exact ⟨by decide, h⟩
/-- a boxed step -/
theorem opc {o : Op4} {g : Nat} {t : TypeId} {fr : Nat × Nat} (h : w.heap[g]? = some (.cells (Value.agg o.cells.toArray).cells t fr)) :
    w.cell? ⟨g, 0, none⟩ = some (.int .i64 o.kind) ∧ w.cell? ⟨g, 1, none⟩ = some (.int .i64 o.i) ∧ w.cell? ⟨g, 2, none⟩ = some (.string o.s) ∧ w.cell? ⟨g, 3, none⟩ = some o.vk ∧ w.cell? ⟨g, 4, none⟩ = some (.int .i64 o.cut) := by
  refine ⟨?_, ?_, ?_, ?_, ?_⟩ <;> (rw [cell_of_blk h]; rfl)
theorem f18_s {W : World} {n : Int} {o : Op4} (hk : rdS 1 bR W o.vk o.keep) (hb : Below W.heap.size W w) (hWB : W.heap.size ≤ B) (hd : DevAt B w p v b D) (hi : DI D n) (hn : n ≤ 1000000)
    (h : ∀ w', DevAt B w' p v b (D.op o).2 → ChgS (fpD p v b) w w' → Q (.int .i64 (D.op o).1) w') : f18 (pv p) (.agg o.cells.toArray) w Q := by
  unfold f18
  have hb1 := b_psh w (.cells (Value.agg o.cells.toArray).cells 40)
  have blk := blk_psh_new (w := w) (o := .cells (Value.agg o.cells.toArray).cells 40)
  rw [bx_e]
  generalize psh w (.cells (Value.agg o.cells.toArray).cells 40) = w1 at *
  refine ldn_box blk rfl ?_
  simp only [↓bx_e, ↓al_e, ↓fa_e, ↓ld_e, ↓ad_e, ↓su_e, ↓mu_e, ↓lt_e, ↓le_e, ↓gt_e, ↓ge_e, ↓eqi_e, ↓nei_e, ↓qu_e, ↓re_e, ↓cv_e, ↓nt_e, ↓pk_t, ↓pk_f, ↓pk_e, ↓eqb_e, ↓neb_e, ↓nc_e, ↓ex_e, ↓lnl_e, ↓lns_e, ↓idv_e, ↓cl_e, ↓cnd_e, ↓gd_e, ↓gd_u, ↓gdu_e, ↓rt_e, ↓jn_e, ↓dr_q, ↓kp_e, ↓mnm_e, ↓mxm_e, ↓mif_e, ↓asrt_e, ↓eqs_e, ↓nes_e, Value.cells, add_lit, cell_psh_new, cell_drw, Nat.zero_add, Nat.reduceAdd, get4_0, get4_1, get4_2, get4_3, get3_0, get3_1, get3_2, get2_0, get2_1, get1_0, Option.some.injEq, exists_eq_left', decide_true, decide_false, decide_eq_true_eq, if_true, if_false, Bool.not_true, Bool.not_false, Bool.false_eq_true, Bool.true_eq_false, Bool.not_eq_true', decide_eq_false_iff_not, not_false_eq_true, not_true_eq_false, reduceCtorEq, bx_e, al_e, fa_e, ld_e, ad_e, su_e, mu_e, lt_e, le_e, gt_e, ge_e, eqi_e, nei_e, qu_e, re_e, cv_e, nt_e, pk_t, pk_f, pk_e, eqb_e, neb_e, nc_e, ex_e, lnl_e, lns_e, idv_e, cl_e, cnd_e, gd_e, gd_u, gdu_e, rt_e, jn_e, dr_q, kp_e, mnm_e, mxm_e, mif_e, asrt_e, eqs_e, nes_e, cond_true, cond_false, Bool.true_and, Bool.and_true, Bool.false_and, Bool.and_false, decide_not]
  refine f26_s o fun w2 hb2 => ?_
  have b12 := bt hb1 hb2
  have d2 := hd.below b12
  obtain ⟨_, q1, q2, q3, q4⟩ := opc (stay hb2 blk)
  have s2 : ChgS (fpD p v b) w w2 := ChgS.of_below b12
  have hc0 := hi.c0
  have hc1 := hi.c1
  have hlt := kdO_lt o
  by_cases k0 : kdO o = 0
  · have e : D.op o = D.wr o.i o.s := by unfold Dv.op; rw [if_pos k0]
    rw [e] at h
    have z : ((kdO o : Nat) : Int) = 0 := by omega
    simp only [↓bx_e, ↓al_e, ↓fa_e, ↓ld_e, ↓ad_e, ↓su_e, ↓mu_e, ↓lt_e, ↓le_e, ↓gt_e, ↓ge_e, ↓eqi_e, ↓nei_e, ↓qu_e, ↓re_e, ↓cv_e, ↓nt_e, ↓pk_t, ↓pk_f, ↓pk_e, ↓eqb_e, ↓neb_e, ↓nc_e, ↓ex_e, ↓lnl_e, ↓lns_e, ↓idv_e, ↓cl_e, ↓cnd_e, ↓gd_e, ↓gd_u, ↓gdu_e, ↓rt_e, ↓jn_e, ↓dr_q, ↓kp_e, ↓mnm_e, ↓mxm_e, ↓mif_e, ↓asrt_e, ↓eqs_e, ↓nes_e, Value.cells, add_lit, cell_psh_new, cell_drw, Nat.zero_add, Nat.reduceAdd, get4_0, get4_1, get4_2, get4_3, get3_0, get3_1, get3_2, get2_0, get2_1, get1_0, Option.some.injEq, exists_eq_left', decide_true, decide_false, decide_eq_true_eq, if_true, if_false, Bool.not_true, Bool.not_false, Bool.false_eq_true, Bool.true_eq_false, Bool.not_eq_true', decide_eq_false_iff_not, not_false_eq_true, not_true_eq_false, reduceCtorEq, bx_e, al_e, fa_e, ld_e, ad_e, su_e, mu_e, lt_e, le_e, gt_e, ge_e, eqi_e, nei_e, qu_e, re_e, cv_e, nt_e, pk_t, pk_f, pk_e, eqb_e, neb_e, nc_e, ex_e, lnl_e, lns_e, idv_e, cl_e, cnd_e, gd_e, gd_u, gdu_e, rt_e, jn_e, dr_q, kp_e, mnm_e, mxm_e, mif_e, asrt_e, eqs_e, nes_e, cond_true, cond_false, Bool.true_and, Bool.and_true, Bool.false_and, Bool.and_false, decide_not, z, q1, q2]
    exact f28_s d2 hc0 (by omega) o.i o.s fun w3 d3 s3 => h w3 d3 (s2.trans s3 (fun _ _ h => h))
  by_cases k1 : kdO o = 1
  · have e : D.op o = D.sync := by unfold Dv.op; rw [if_neg k0, if_pos k1]
    rw [e] at h
    have z : ((kdO o : Nat) : Int) = 1 := by omega
    simp only [↓bx_e, ↓al_e, ↓fa_e, ↓ld_e, ↓ad_e, ↓su_e, ↓mu_e, ↓lt_e, ↓le_e, ↓gt_e, ↓ge_e, ↓eqi_e, ↓nei_e, ↓qu_e, ↓re_e, ↓cv_e, ↓nt_e, ↓pk_t, ↓pk_f, ↓pk_e, ↓eqb_e, ↓neb_e, ↓nc_e, ↓ex_e, ↓lnl_e, ↓lns_e, ↓idv_e, ↓cl_e, ↓cnd_e, ↓gd_e, ↓gd_u, ↓gdu_e, ↓rt_e, ↓jn_e, ↓dr_q, ↓kp_e, ↓mnm_e, ↓mxm_e, ↓mif_e, ↓asrt_e, ↓eqs_e, ↓nes_e, Value.cells, add_lit, cell_psh_new, cell_drw, Nat.zero_add, Nat.reduceAdd, get4_0, get4_1, get4_2, get4_3, get3_0, get3_1, get3_2, get2_0, get2_1, get1_0, Option.some.injEq, exists_eq_left', decide_true, decide_false, decide_eq_true_eq, if_true, if_false, Bool.not_true, Bool.not_false, Bool.false_eq_true, Bool.true_eq_false, Bool.not_eq_true', decide_eq_false_iff_not, not_false_eq_true, not_true_eq_false, reduceCtorEq, bx_e, al_e, fa_e, ld_e, ad_e, su_e, mu_e, lt_e, le_e, gt_e, ge_e, eqi_e, nei_e, qu_e, re_e, cv_e, nt_e, pk_t, pk_f, pk_e, eqb_e, neb_e, nc_e, ex_e, lnl_e, lns_e, idv_e, cl_e, cnd_e, gd_e, gd_u, gdu_e, rt_e, jn_e, dr_q, kp_e, mnm_e, mxm_e, mif_e, asrt_e, eqs_e, nes_e, cond_true, cond_false, Bool.true_and, Bool.and_true, Bool.false_and, Bool.and_false, decide_not, z, Int.reduceEq]
    exact f25_s d2 hc0 (by omega) fun w3 d3 s3 => h w3 d3 (s2.trans s3 (fun _ _ h => h))
  by_cases k2 : kdO o = 2
  · have e : D.op o = (0, D.stop o.i) := by unfold Dv.op; rw [if_neg k0, if_neg k1, if_pos k2]
    rw [e] at h
    have z : ((kdO o : Nat) : Int) = 2 := by omega
    simp only [↓bx_e, ↓al_e, ↓fa_e, ↓ld_e, ↓ad_e, ↓su_e, ↓mu_e, ↓lt_e, ↓le_e, ↓gt_e, ↓ge_e, ↓eqi_e, ↓nei_e, ↓qu_e, ↓re_e, ↓cv_e, ↓nt_e, ↓pk_t, ↓pk_f, ↓pk_e, ↓eqb_e, ↓neb_e, ↓nc_e, ↓ex_e, ↓lnl_e, ↓lns_e, ↓idv_e, ↓cl_e, ↓cnd_e, ↓gd_e, ↓gd_u, ↓gdu_e, ↓rt_e, ↓jn_e, ↓dr_q, ↓kp_e, ↓mnm_e, ↓mxm_e, ↓mif_e, ↓asrt_e, ↓eqs_e, ↓nes_e, Value.cells, add_lit, cell_psh_new, cell_drw, Nat.zero_add, Nat.reduceAdd, get4_0, get4_1, get4_2, get4_3, get3_0, get3_1, get3_2, get2_0, get2_1, get1_0, Option.some.injEq, exists_eq_left', decide_true, decide_false, decide_eq_true_eq, if_true, if_false, Bool.not_true, Bool.not_false, Bool.false_eq_true, Bool.true_eq_false, Bool.not_eq_true', decide_eq_false_iff_not, not_false_eq_true, not_true_eq_false, reduceCtorEq, bx_e, al_e, fa_e, ld_e, ad_e, su_e, mu_e, lt_e, le_e, gt_e, ge_e, eqi_e, nei_e, qu_e, re_e, cv_e, nt_e, pk_t, pk_f, pk_e, eqb_e, neb_e, nc_e, ex_e, lnl_e, lns_e, idv_e, cl_e, cnd_e, gd_e, gd_u, gdu_e, rt_e, jn_e, dr_q, kp_e, mnm_e, mxm_e, mif_e, asrt_e, eqs_e, nes_e, cond_true, cond_false, Bool.true_and, Bool.and_true, Bool.false_and, Bool.and_false, decide_not, z, Int.reduceEq, q1]
    refine f27_s d2 hc0 (by omega) o.i fun w3 d3 u3 => ?_
    unfold f18_j1
    simp only [↓bx_e, ↓al_e, ↓fa_e, ↓ld_e, ↓ad_e, ↓su_e, ↓mu_e, ↓lt_e, ↓le_e, ↓gt_e, ↓ge_e, ↓eqi_e, ↓nei_e, ↓qu_e, ↓re_e, ↓cv_e, ↓nt_e, ↓pk_t, ↓pk_f, ↓pk_e, ↓eqb_e, ↓neb_e, ↓nc_e, ↓ex_e, ↓lnl_e, ↓lns_e, ↓idv_e, ↓cl_e, ↓cnd_e, ↓gd_e, ↓gd_u, ↓gdu_e, ↓rt_e, ↓jn_e, ↓dr_q, ↓kp_e, ↓mnm_e, ↓mxm_e, ↓mif_e, ↓asrt_e, ↓eqs_e, ↓nes_e, Value.cells, add_lit, cell_psh_new, cell_drw, Nat.zero_add, Nat.reduceAdd, get4_0, get4_1, get4_2, get4_3, get3_0, get3_1, get3_2, get2_0, get2_1, get1_0, Option.some.injEq, exists_eq_left', decide_true, decide_false, decide_eq_true_eq, if_true, if_false, Bool.not_true, Bool.not_false, Bool.false_eq_true, Bool.true_eq_false, Bool.not_eq_true', decide_eq_false_iff_not, not_false_eq_true, not_true_eq_false, reduceCtorEq, bx_e, al_e, fa_e, ld_e, ad_e, su_e, mu_e, lt_e, le_e, gt_e, ge_e, eqi_e, nei_e, qu_e, re_e, cv_e, nt_e, pk_t, pk_f, pk_e, eqb_e, neb_e, nc_e, ex_e, lnl_e, lns_e, idv_e, cl_e, cnd_e, gd_e, gd_u, gdu_e, rt_e, jn_e, dr_q, kp_e, mnm_e, mxm_e, mif_e, asrt_e, eqs_e, nes_e, cond_true, cond_false, Bool.true_and, Bool.and_true, Bool.false_and, Bool.and_false, decide_not]
    exact h w3 d3 (s2.trans (ChgS.of_upd u3 (S := fpD p v b) (.inl rfl)) (fun _ _ h => h))
  · have e : D.op o = (0, D.crash o.keep o.i o.cut) := by unfold Dv.op; rw [if_neg k0, if_neg k1, if_neg k2]
    rw [e] at h
    have z : ((kdO o : Nat) : Int) = 3 := by omega
    simp only [↓bx_e, ↓al_e, ↓fa_e, ↓ld_e, ↓ad_e, ↓su_e, ↓mu_e, ↓lt_e, ↓le_e, ↓gt_e, ↓ge_e, ↓eqi_e, ↓nei_e, ↓qu_e, ↓re_e, ↓cv_e, ↓nt_e, ↓pk_t, ↓pk_f, ↓pk_e, ↓eqb_e, ↓neb_e, ↓nc_e, ↓ex_e, ↓lnl_e, ↓lns_e, ↓idv_e, ↓cl_e, ↓cnd_e, ↓gd_e, ↓gd_u, ↓gdu_e, ↓rt_e, ↓jn_e, ↓dr_q, ↓kp_e, ↓mnm_e, ↓mxm_e, ↓mif_e, ↓asrt_e, ↓eqs_e, ↓nes_e, Value.cells, add_lit, cell_psh_new, cell_drw, Nat.zero_add, Nat.reduceAdd, get4_0, get4_1, get4_2, get4_3, get3_0, get3_1, get3_2, get2_0, get2_1, get1_0, Option.some.injEq, exists_eq_left', decide_true, decide_false, decide_eq_true_eq, if_true, if_false, Bool.not_true, Bool.not_false, Bool.false_eq_true, Bool.true_eq_false, Bool.not_eq_true', decide_eq_false_iff_not, not_false_eq_true, not_true_eq_false, reduceCtorEq, bx_e, al_e, fa_e, ld_e, ad_e, su_e, mu_e, lt_e, le_e, gt_e, ge_e, eqi_e, nei_e, qu_e, re_e, cv_e, nt_e, pk_t, pk_f, pk_e, eqb_e, neb_e, nc_e, ex_e, lnl_e, lns_e, idv_e, cl_e, cnd_e, gd_e, gd_u, gdu_e, rt_e, jn_e, dr_q, kp_e, mnm_e, mxm_e, mif_e, asrt_e, eqs_e, nes_e, cond_true, cond_false, Bool.true_and, Bool.and_true, Bool.false_and, Bool.and_false, decide_not, z, Int.reduceEq, q1, q3, q4]
    refine f24_s (W := W) hk (bt hb b12) hWB d2 fun w3 d3 s3 => ?_
    unfold f18_j1
    simp only [↓bx_e, ↓al_e, ↓fa_e, ↓ld_e, ↓ad_e, ↓su_e, ↓mu_e, ↓lt_e, ↓le_e, ↓gt_e, ↓ge_e, ↓eqi_e, ↓nei_e, ↓qu_e, ↓re_e, ↓cv_e, ↓nt_e, ↓pk_t, ↓pk_f, ↓pk_e, ↓eqb_e, ↓neb_e, ↓nc_e, ↓ex_e, ↓lnl_e, ↓lns_e, ↓idv_e, ↓cl_e, ↓cnd_e, ↓gd_e, ↓gd_u, ↓gdu_e, ↓rt_e, ↓jn_e, ↓dr_q, ↓kp_e, ↓mnm_e, ↓mxm_e, ↓mif_e, ↓asrt_e, ↓eqs_e, ↓nes_e, Value.cells, add_lit, cell_psh_new, cell_drw, Nat.zero_add, Nat.reduceAdd, get4_0, get4_1, get4_2, get4_3, get3_0, get3_1, get3_2, get2_0, get2_1, get1_0, Option.some.injEq, exists_eq_left', decide_true, decide_false, decide_eq_true_eq, if_true, if_false, Bool.not_true, Bool.not_false, Bool.false_eq_true, Bool.true_eq_false, Bool.not_eq_true', decide_eq_false_iff_not, not_false_eq_true, not_true_eq_false, reduceCtorEq, bx_e, al_e, fa_e, ld_e, ad_e, su_e, mu_e, lt_e, le_e, gt_e, ge_e, eqi_e, nei_e, qu_e, re_e, cv_e, nt_e, pk_t, pk_f, pk_e, eqb_e, neb_e, nc_e, ex_e, lnl_e, lns_e, idv_e, cl_e, cnd_e, gd_e, gd_u, gdu_e, rt_e, jn_e, dr_q, kp_e, mnm_e, mxm_e, mif_e, asrt_e, eqs_e, nes_e, cond_true, cond_false, Bool.true_and, Bool.and_true, Bool.false_and, Bool.and_false, decide_not]
    exact h w3 d3 (s2.trans s3 (fun _ _ h => h))
theorem f19_s {W : World} {n : Int} {o : Op4} (hk : rdS 1 bR W o.vk o.keep) (hb : Below W.heap.size W w) (hWB : W.heap.size ≤ B) (r : RefAt B w q u D) (hi : DI D n) (hn : n ≤ 1000000)
    (h : ∀ w', RefAt B w' q u (D.op o).2 → ChgS (fpR q u) w w' → Q (.int .i64 (D.op o).1) w') : f19 (pv q) (.agg o.cells.toArray) w Q := by
  unfold f19
  have hb1 := b_psh w (.cells (Value.agg o.cells.toArray).cells 40)
  have blk := blk_psh_new (w := w) (o := .cells (Value.agg o.cells.toArray).cells 40)
  rw [bx_e]
  generalize psh w (.cells (Value.agg o.cells.toArray).cells 40) = w1 at *
  refine ldn_box blk rfl ?_
  simp only [↓bx_e, ↓al_e, ↓fa_e, ↓ld_e, ↓ad_e, ↓su_e, ↓mu_e, ↓lt_e, ↓le_e, ↓gt_e, ↓ge_e, ↓eqi_e, ↓nei_e, ↓qu_e, ↓re_e, ↓cv_e, ↓nt_e, ↓pk_t, ↓pk_f, ↓pk_e, ↓eqb_e, ↓neb_e, ↓nc_e, ↓ex_e, ↓lnl_e, ↓lns_e, ↓idv_e, ↓cl_e, ↓cnd_e, ↓gd_e, ↓gd_u, ↓gdu_e, ↓rt_e, ↓jn_e, ↓dr_q, ↓kp_e, ↓mnm_e, ↓mxm_e, ↓mif_e, ↓asrt_e, ↓eqs_e, ↓nes_e, Value.cells, add_lit, cell_psh_new, cell_drw, Nat.zero_add, Nat.reduceAdd, get4_0, get4_1, get4_2, get4_3, get3_0, get3_1, get3_2, get2_0, get2_1, get1_0, Option.some.injEq, exists_eq_left', decide_true, decide_false, decide_eq_true_eq, if_true, if_false, Bool.not_true, Bool.not_false, Bool.false_eq_true, Bool.true_eq_false, Bool.not_eq_true', decide_eq_false_iff_not, not_false_eq_true, not_true_eq_false, reduceCtorEq, bx_e, al_e, fa_e, ld_e, ad_e, su_e, mu_e, lt_e, le_e, gt_e, ge_e, eqi_e, nei_e, qu_e, re_e, cv_e, nt_e, pk_t, pk_f, pk_e, eqb_e, neb_e, nc_e, ex_e, lnl_e, lns_e, idv_e, cl_e, cnd_e, gd_e, gd_u, gdu_e, rt_e, jn_e, dr_q, kp_e, mnm_e, mxm_e, mif_e, asrt_e, eqs_e, nes_e, cond_true, cond_false, Bool.true_and, Bool.and_true, Bool.false_and, Bool.and_false, decide_not]
  refine f26_s o fun w2 hb2 => ?_
  have b12 := bt hb1 hb2
  have r2 := r.below b12
  obtain ⟨_, q1, q2, q3, q4⟩ := opc (stay hb2 blk)
  have s2 : ChgS (fpR q u) w w2 := ChgS.of_below b12
  have hc0 := hi.c0
  have hc1 := hi.c1
  have hlt := kdO_lt o
  by_cases k0 : kdO o = 0
  · have e : D.op o = D.wr o.i o.s := by unfold Dv.op; rw [if_pos k0]
    rw [e] at h
    have z : ((kdO o : Nat) : Int) = 0 := by omega
    simp only [↓bx_e, ↓al_e, ↓fa_e, ↓ld_e, ↓ad_e, ↓su_e, ↓mu_e, ↓lt_e, ↓le_e, ↓gt_e, ↓ge_e, ↓eqi_e, ↓nei_e, ↓qu_e, ↓re_e, ↓cv_e, ↓nt_e, ↓pk_t, ↓pk_f, ↓pk_e, ↓eqb_e, ↓neb_e, ↓nc_e, ↓ex_e, ↓lnl_e, ↓lns_e, ↓idv_e, ↓cl_e, ↓cnd_e, ↓gd_e, ↓gd_u, ↓gdu_e, ↓rt_e, ↓jn_e, ↓dr_q, ↓kp_e, ↓mnm_e, ↓mxm_e, ↓mif_e, ↓asrt_e, ↓eqs_e, ↓nes_e, Value.cells, add_lit, cell_psh_new, cell_drw, Nat.zero_add, Nat.reduceAdd, get4_0, get4_1, get4_2, get4_3, get3_0, get3_1, get3_2, get2_0, get2_1, get1_0, Option.some.injEq, exists_eq_left', decide_true, decide_false, decide_eq_true_eq, if_true, if_false, Bool.not_true, Bool.not_false, Bool.false_eq_true, Bool.true_eq_false, Bool.not_eq_true', decide_eq_false_iff_not, not_false_eq_true, not_true_eq_false, reduceCtorEq, bx_e, al_e, fa_e, ld_e, ad_e, su_e, mu_e, lt_e, le_e, gt_e, ge_e, eqi_e, nei_e, qu_e, re_e, cv_e, nt_e, pk_t, pk_f, pk_e, eqb_e, neb_e, nc_e, ex_e, lnl_e, lns_e, idv_e, cl_e, cnd_e, gd_e, gd_u, gdu_e, rt_e, jn_e, dr_q, kp_e, mnm_e, mxm_e, mif_e, asrt_e, eqs_e, nes_e, cond_true, cond_false, Bool.true_and, Bool.and_true, Bool.false_and, Bool.and_false, decide_not, z, q1, q2]
    refine f31_s r2 hc0 (by omega) o.i o.s fun w3 r3 s3 => ?_
    unfold f19_j1
    have e2 := wr_ref (i := o.i) (s := o.s) hi hn
    obtain ⟨ec, eh, _⟩ := wr_A D o.i o.s
    have e3 : (if 0 ≤ hR D.h ∧ hR D.h ≤ D.c then 9 else (wrP (D.A.map pl) o.i o.s).1) = (D.wr o.i o.s).1 := by
      have := congrArg Prod.fst e2
      split at this
      · rename_i c; rw [if_pos c]; exact this
      · rename_i c; rw [if_neg c]; exact this
    have e4 : (if 0 ≤ hR D.h ∧ hR D.h ≤ D.c then D.A.map pl else (wrP (D.A.map pl) o.i o.s).2) = (D.wr o.i o.s).2.A.map pl := by
      have := congrArg Prod.snd e2
      split at this
      · rename_i c; rw [if_pos c]; exact this
      · rename_i c; rw [if_neg c]; exact this
    rw [e3]
    rw [e4] at r3
    simp only [↓bx_e, ↓al_e, ↓fa_e, ↓ld_e, ↓ad_e, ↓su_e, ↓mu_e, ↓lt_e, ↓le_e, ↓gt_e, ↓ge_e, ↓eqi_e, ↓nei_e, ↓qu_e, ↓re_e, ↓cv_e, ↓nt_e, ↓pk_t, ↓pk_f, ↓pk_e, ↓eqb_e, ↓neb_e, ↓nc_e, ↓ex_e, ↓lnl_e, ↓lns_e, ↓idv_e, ↓cl_e, ↓cnd_e, ↓gd_e, ↓gd_u, ↓gdu_e, ↓rt_e, ↓jn_e, ↓dr_q, ↓kp_e, ↓mnm_e, ↓mxm_e, ↓mif_e, ↓asrt_e, ↓eqs_e, ↓nes_e, Value.cells, add_lit, cell_psh_new, cell_drw, Nat.zero_add, Nat.reduceAdd, get4_0, get4_1, get4_2, get4_3, get3_0, get3_1, get3_2, get2_0, get2_1, get1_0, Option.some.injEq, exists_eq_left', decide_true, decide_false, decide_eq_true_eq, if_true, if_false, Bool.not_true, Bool.not_false, Bool.false_eq_true, Bool.true_eq_false, Bool.not_eq_true', decide_eq_false_iff_not, not_false_eq_true, not_true_eq_false, reduceCtorEq, bx_e, al_e, fa_e, ld_e, ad_e, su_e, mu_e, lt_e, le_e, gt_e, ge_e, eqi_e, nei_e, qu_e, re_e, cv_e, nt_e, pk_t, pk_f, pk_e, eqb_e, neb_e, nc_e, ex_e, lnl_e, lns_e, idv_e, cl_e, cnd_e, gd_e, gd_u, gdu_e, rt_e, jn_e, dr_q, kp_e, mnm_e, mxm_e, mif_e, asrt_e, eqs_e, nes_e, cond_true, cond_false, Bool.true_and, Bool.and_true, Bool.false_and, Bool.and_false, decide_not]
    refine h w3 ?_ (s2.trans s3 (fun _ _ h => h))
    unfold RefAt
    rw [ec, eh]
    exact r3
  by_cases k1 : kdO o = 1
  · have e : D.op o = D.sync := by unfold Dv.op; rw [if_neg k0, if_pos k1]
    rw [e] at h
    have z : ((kdO o : Nat) : Int) = 1 := by omega
    simp only [↓bx_e, ↓al_e, ↓fa_e, ↓ld_e, ↓ad_e, ↓su_e, ↓mu_e, ↓lt_e, ↓le_e, ↓gt_e, ↓ge_e, ↓eqi_e, ↓nei_e, ↓qu_e, ↓re_e, ↓cv_e, ↓nt_e, ↓pk_t, ↓pk_f, ↓pk_e, ↓eqb_e, ↓neb_e, ↓nc_e, ↓ex_e, ↓lnl_e, ↓lns_e, ↓idv_e, ↓cl_e, ↓cnd_e, ↓gd_e, ↓gd_u, ↓gdu_e, ↓rt_e, ↓jn_e, ↓dr_q, ↓kp_e, ↓mnm_e, ↓mxm_e, ↓mif_e, ↓asrt_e, ↓eqs_e, ↓nes_e, Value.cells, add_lit, cell_psh_new, cell_drw, Nat.zero_add, Nat.reduceAdd, get4_0, get4_1, get4_2, get4_3, get3_0, get3_1, get3_2, get2_0, get2_1, get1_0, Option.some.injEq, exists_eq_left', decide_true, decide_false, decide_eq_true_eq, if_true, if_false, Bool.not_true, Bool.not_false, Bool.false_eq_true, Bool.true_eq_false, Bool.not_eq_true', decide_eq_false_iff_not, not_false_eq_true, not_true_eq_false, reduceCtorEq, bx_e, al_e, fa_e, ld_e, ad_e, su_e, mu_e, lt_e, le_e, gt_e, ge_e, eqi_e, nei_e, qu_e, re_e, cv_e, nt_e, pk_t, pk_f, pk_e, eqb_e, neb_e, nc_e, ex_e, lnl_e, lns_e, idv_e, cl_e, cnd_e, gd_e, gd_u, gdu_e, rt_e, jn_e, dr_q, kp_e, mnm_e, mxm_e, mif_e, asrt_e, eqs_e, nes_e, cond_true, cond_false, Bool.true_and, Bool.and_true, Bool.false_and, Bool.and_false, decide_not, z, Int.reduceEq]
    refine f32_s r2 hc0 (by omega) fun w3 r3 s3 => ?_
    unfold f19_j1
    have e2 := syn_ref hi hn
    obtain ⟨ec, eh, _⟩ := sync_A D
    have e3 : (if 0 ≤ hR D.h ∧ hR D.h ≤ D.c then (9 : Int) else 0) = D.sync.1 := by
      have := congrArg Prod.fst e2
      split at this
      · rename_i c; rw [if_pos c]; exact this
      · rename_i c; rw [if_neg c]; exact this
    have e4 : (if 0 ≤ hR D.h ∧ hR D.h ≤ D.c then D.A.map pl else (D.A.map pl).map synP) = D.sync.2.A.map pl := by
      have := congrArg Prod.snd e2
      split at this
      · rename_i c; rw [if_pos c]; exact this
      · rename_i c; rw [if_neg c]; exact this
    rw [e3]
    rw [e4] at r3
    simp only [↓bx_e, ↓al_e, ↓fa_e, ↓ld_e, ↓ad_e, ↓su_e, ↓mu_e, ↓lt_e, ↓le_e, ↓gt_e, ↓ge_e, ↓eqi_e, ↓nei_e, ↓qu_e, ↓re_e, ↓cv_e, ↓nt_e, ↓pk_t, ↓pk_f, ↓pk_e, ↓eqb_e, ↓neb_e, ↓nc_e, ↓ex_e, ↓lnl_e, ↓lns_e, ↓idv_e, ↓cl_e, ↓cnd_e, ↓gd_e, ↓gd_u, ↓gdu_e, ↓rt_e, ↓jn_e, ↓dr_q, ↓kp_e, ↓mnm_e, ↓mxm_e, ↓mif_e, ↓asrt_e, ↓eqs_e, ↓nes_e, Value.cells, add_lit, cell_psh_new, cell_drw, Nat.zero_add, Nat.reduceAdd, get4_0, get4_1, get4_2, get4_3, get3_0, get3_1, get3_2, get2_0, get2_1, get1_0, Option.some.injEq, exists_eq_left', decide_true, decide_false, decide_eq_true_eq, if_true, if_false, Bool.not_true, Bool.not_false, Bool.false_eq_true, Bool.true_eq_false, Bool.not_eq_true', decide_eq_false_iff_not, not_false_eq_true, not_true_eq_false, reduceCtorEq, bx_e, al_e, fa_e, ld_e, ad_e, su_e, mu_e, lt_e, le_e, gt_e, ge_e, eqi_e, nei_e, qu_e, re_e, cv_e, nt_e, pk_t, pk_f, pk_e, eqb_e, neb_e, nc_e, ex_e, lnl_e, lns_e, idv_e, cl_e, cnd_e, gd_e, gd_u, gdu_e, rt_e, jn_e, dr_q, kp_e, mnm_e, mxm_e, mif_e, asrt_e, eqs_e, nes_e, cond_true, cond_false, Bool.true_and, Bool.and_true, Bool.false_and, Bool.and_false, decide_not]
    refine h w3 ?_ (s2.trans s3 (fun _ _ h => h))
    unfold RefAt
    rw [ec, eh]
    exact r3
  by_cases k2 : kdO o = 2
  · have e : D.op o = (0, D.stop o.i) := by unfold Dv.op; rw [if_neg k0, if_neg k1, if_pos k2]
    rw [e] at h
    have z : ((kdO o : Nat) : Int) = 2 := by omega
    simp only [↓bx_e, ↓al_e, ↓fa_e, ↓ld_e, ↓ad_e, ↓su_e, ↓mu_e, ↓lt_e, ↓le_e, ↓gt_e, ↓ge_e, ↓eqi_e, ↓nei_e, ↓qu_e, ↓re_e, ↓cv_e, ↓nt_e, ↓pk_t, ↓pk_f, ↓pk_e, ↓eqb_e, ↓neb_e, ↓nc_e, ↓ex_e, ↓lnl_e, ↓lns_e, ↓idv_e, ↓cl_e, ↓cnd_e, ↓gd_e, ↓gd_u, ↓gdu_e, ↓rt_e, ↓jn_e, ↓dr_q, ↓kp_e, ↓mnm_e, ↓mxm_e, ↓mif_e, ↓asrt_e, ↓eqs_e, ↓nes_e, Value.cells, add_lit, cell_psh_new, cell_drw, Nat.zero_add, Nat.reduceAdd, get4_0, get4_1, get4_2, get4_3, get3_0, get3_1, get3_2, get2_0, get2_1, get1_0, Option.some.injEq, exists_eq_left', decide_true, decide_false, decide_eq_true_eq, if_true, if_false, Bool.not_true, Bool.not_false, Bool.false_eq_true, Bool.true_eq_false, Bool.not_eq_true', decide_eq_false_iff_not, not_false_eq_true, not_true_eq_false, reduceCtorEq, bx_e, al_e, fa_e, ld_e, ad_e, su_e, mu_e, lt_e, le_e, gt_e, ge_e, eqi_e, nei_e, qu_e, re_e, cv_e, nt_e, pk_t, pk_f, pk_e, eqb_e, neb_e, nc_e, ex_e, lnl_e, lns_e, idv_e, cl_e, cnd_e, gd_e, gd_u, gdu_e, rt_e, jn_e, dr_q, kp_e, mnm_e, mxm_e, mif_e, asrt_e, eqs_e, nes_e, cond_true, cond_false, Bool.true_and, Bool.and_true, Bool.false_and, Bool.and_false, decide_not, z, Int.reduceEq, q1]
    refine f33_s r2 hc0 (by omega) o.i fun w3 r3 s3 => ?_
    unfold f19_j1
    rw [← (stop_h (m := o.i) hi hn).2] at r3
    simp only [↓bx_e, ↓al_e, ↓fa_e, ↓ld_e, ↓ad_e, ↓su_e, ↓mu_e, ↓lt_e, ↓le_e, ↓gt_e, ↓ge_e, ↓eqi_e, ↓nei_e, ↓qu_e, ↓re_e, ↓cv_e, ↓nt_e, ↓pk_t, ↓pk_f, ↓pk_e, ↓eqb_e, ↓neb_e, ↓nc_e, ↓ex_e, ↓lnl_e, ↓lns_e, ↓idv_e, ↓cl_e, ↓cnd_e, ↓gd_e, ↓gd_u, ↓gdu_e, ↓rt_e, ↓jn_e, ↓dr_q, ↓kp_e, ↓mnm_e, ↓mxm_e, ↓mif_e, ↓asrt_e, ↓eqs_e, ↓nes_e, Value.cells, add_lit, cell_psh_new, cell_drw, Nat.zero_add, Nat.reduceAdd, get4_0, get4_1, get4_2, get4_3, get3_0, get3_1, get3_2, get2_0, get2_1, get1_0, Option.some.injEq, exists_eq_left', decide_true, decide_false, decide_eq_true_eq, if_true, if_false, Bool.not_true, Bool.not_false, Bool.false_eq_true, Bool.true_eq_false, Bool.not_eq_true', decide_eq_false_iff_not, not_false_eq_true, not_true_eq_false, reduceCtorEq, bx_e, al_e, fa_e, ld_e, ad_e, su_e, mu_e, lt_e, le_e, gt_e, ge_e, eqi_e, nei_e, qu_e, re_e, cv_e, nt_e, pk_t, pk_f, pk_e, eqb_e, neb_e, nc_e, ex_e, lnl_e, lns_e, idv_e, cl_e, cnd_e, gd_e, gd_u, gdu_e, rt_e, jn_e, dr_q, kp_e, mnm_e, mxm_e, mif_e, asrt_e, eqs_e, nes_e, cond_true, cond_false, Bool.true_and, Bool.and_true, Bool.false_and, Bool.and_false, decide_not]
    exact h w3 r3 (s2.trans s3 (fun _ _ h => h))
  · have e : D.op o = (0, D.crash o.keep o.i o.cut) := by unfold Dv.op; rw [if_neg k0, if_neg k1, if_neg k2]
    rw [e] at h
    have z : ((kdO o : Nat) : Int) = 3 := by omega
    simp only [↓bx_e, ↓al_e, ↓fa_e, ↓ld_e, ↓ad_e, ↓su_e, ↓mu_e, ↓lt_e, ↓le_e, ↓gt_e, ↓ge_e, ↓eqi_e, ↓nei_e, ↓qu_e, ↓re_e, ↓cv_e, ↓nt_e, ↓pk_t, ↓pk_f, ↓pk_e, ↓eqb_e, ↓neb_e, ↓nc_e, ↓ex_e, ↓lnl_e, ↓lns_e, ↓idv_e, ↓cl_e, ↓cnd_e, ↓gd_e, ↓gd_u, ↓gdu_e, ↓rt_e, ↓jn_e, ↓dr_q, ↓kp_e, ↓mnm_e, ↓mxm_e, ↓mif_e, ↓asrt_e, ↓eqs_e, ↓nes_e, Value.cells, add_lit, cell_psh_new, cell_drw, Nat.zero_add, Nat.reduceAdd, get4_0, get4_1, get4_2, get4_3, get3_0, get3_1, get3_2, get2_0, get2_1, get1_0, Option.some.injEq, exists_eq_left', decide_true, decide_false, decide_eq_true_eq, if_true, if_false, Bool.not_true, Bool.not_false, Bool.false_eq_true, Bool.true_eq_false, Bool.not_eq_true', decide_eq_false_iff_not, not_false_eq_true, not_true_eq_false, reduceCtorEq, bx_e, al_e, fa_e, ld_e, ad_e, su_e, mu_e, lt_e, le_e, gt_e, ge_e, eqi_e, nei_e, qu_e, re_e, cv_e, nt_e, pk_t, pk_f, pk_e, eqb_e, neb_e, nc_e, ex_e, lnl_e, lns_e, idv_e, cl_e, cnd_e, gd_e, gd_u, gdu_e, rt_e, jn_e, dr_q, kp_e, mnm_e, mxm_e, mif_e, asrt_e, eqs_e, nes_e, cond_true, cond_false, Bool.true_and, Bool.and_true, Bool.false_and, Bool.and_false, decide_not, z, Int.reduceEq, q1, q3, q4]
    refine f34_s (W := W) hk (bt hb b12) hWB r2 fun w3 r3 s3 => ?_
    unfold f19_j1
    simp only [↓bx_e, ↓al_e, ↓fa_e, ↓ld_e, ↓ad_e, ↓su_e, ↓mu_e, ↓lt_e, ↓le_e, ↓gt_e, ↓ge_e, ↓eqi_e, ↓nei_e, ↓qu_e, ↓re_e, ↓cv_e, ↓nt_e, ↓pk_t, ↓pk_f, ↓pk_e, ↓eqb_e, ↓neb_e, ↓nc_e, ↓ex_e, ↓lnl_e, ↓lns_e, ↓idv_e, ↓cl_e, ↓cnd_e, ↓gd_e, ↓gd_u, ↓gdu_e, ↓rt_e, ↓jn_e, ↓dr_q, ↓kp_e, ↓mnm_e, ↓mxm_e, ↓mif_e, ↓asrt_e, ↓eqs_e, ↓nes_e, Value.cells, add_lit, cell_psh_new, cell_drw, Nat.zero_add, Nat.reduceAdd, get4_0, get4_1, get4_2, get4_3, get3_0, get3_1, get3_2, get2_0, get2_1, get1_0, Option.some.injEq, exists_eq_left', decide_true, decide_false, decide_eq_true_eq, if_true, if_false, Bool.not_true, Bool.not_false, Bool.false_eq_true, Bool.true_eq_false, Bool.not_eq_true', decide_eq_false_iff_not, not_false_eq_true, not_true_eq_false, reduceCtorEq, bx_e, al_e, fa_e, ld_e, ad_e, su_e, mu_e, lt_e, le_e, gt_e, ge_e, eqi_e, nei_e, qu_e, re_e, cv_e, nt_e, pk_t, pk_f, pk_e, eqb_e, neb_e, nc_e, ex_e, lnl_e, lns_e, idv_e, cl_e, cnd_e, gd_e, gd_u, gdu_e, rt_e, jn_e, dr_q, kp_e, mnm_e, mxm_e, mif_e, asrt_e, eqs_e, nes_e, cond_true, cond_false, Bool.true_and, Bool.and_true, Bool.false_and, Bool.and_false, decide_not]
    exact h w3 r3 (s2.trans s3 (fun _ _ h => h))
end
end Go.Proofs.Ytjaiodbonffciaa
