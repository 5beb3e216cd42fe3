/- The calls of the layer timers, over what timers hold. -/
import Derived.Test.YtpjffilejnemmaaT4
set_option linter.unusedVariables false
set_option linter.unusedSimpArgs false
set_option linter.unusedSectionVars false
namespace Go.Proofs.Ytpjffilejnemmaa
open Sh RowKit Go.MapKept

theorem u25 : Try.prog.underlying 25 = some (.pointer (Try.prog.pointee 25)) := by kernel_rfl
theorem u55 : Try.prog.underlying 55 = some (.pointer (Try.prog.pointee 55)) := by kernel_rfl
theorem kk50 : KeyK Try.prog 50 3 55 (.int .i64) (Value.int .i64) := ⟨by kernel_rfl, by kernel_rfl, fun _ => rfl, fun a b h => by cases h; rfl⟩
theorem zz55 : zeroIs Try.prog 55 (.pointer none) := by unfold zeroIs; kernel_rfl
abbrev kvI : Int → Value := Value.int .i64
/-- timers in memory: in block p, all blocks at or above B, what they hold, their blocks -/
structure TS (B : Nat) (w : World) (p : Nat) (R : List Pr) (F : Nat → Prop) : Prop where
  ex : ∃ (m : Nat) (qv : Value) (l : List Tm) (L : List (Int × Value)), QR B w p (.map (some m)) qv l ∧ Hp.HP ltT l l.length ∧ (l.map kp).Perm R ∧ Srt R ∧ MapAt kvI w m L ∧ L.Perm (l.map fun t => (t.id, pv t.blk)) ∧ B ≤ m ∧ (∀ k, F k ↔ fpQ p qv l k ∨ k = m)
theorem map_off {B : Nat} {w : World} {p m : Nat} {mv qv : Value} {l : List Tm} {L : List (Int × Value)} (hq : QR B w p mv qv l) (hm : MapAt kvI w m L) : ¬ fpQ p qv l m := by
  obtain ⟨es, clock, h1, _⟩ := hm
  rintro (rfl | h | h)
  · rw [hq.hp] at h1; cases h1
  · obtain ⟨_, _, cur, hc⟩ := ownV_lt hq.own m h
    rw [hc] at h1; cases h1
  · obtain ⟨t, ht, rfl⟩ := List.mem_map.1 h
    obtain ⟨i, hi, e⟩ := List.mem_iff_getElem.1 ht
    have := hq.tm i hi
    rw [e, h1] at this; cases this
theorem TS.ge {B : Nat} {w : World} {p : Nat} {R : List Pr} {F : Nat → Prop} (h : TS B w p R F) : ∀ k, F k → B ≤ k ∧ k < w.heap.size := by
  obtain ⟨m, qv, l, L, hq, hh, hp, hs, hm, hL, hB, hF⟩ := h.ex
  intro k hk
  rcases (hF k).1 hk with h | rfl
  · exact hq.ge k h
  · exact ⟨hB, hm.lt⟩
theorem TS.stay {B : Nat} {w w' : World} {p : Nat} {R : List Pr} {F : Nat → Prop} (h : TS B w p R F) (hk : ∀ k, F k → w'.heap[k]? = w.heap[k]?) : TS B w' p R F := by
  obtain ⟨m, qv, l, L, hq, hh, hp, hs, hm, hL, hB, hF⟩ := h.ex
  exact ⟨m, qv, l, L, hq.stay (fun k a => hk k ((hF k).2 (.inl a))), hh, hp, hs, hm.stay (hk m ((hF m).2 (.inr rfl))), hL, hB, hF⟩
theorem TS.below {B : Nat} {w w' : World} {p : Nat} {R : List Pr} {F : Nat → Prop} (h : TS B w p R F) (hb : Below w.heap.size w w') : TS B w' p R F := h.stay fun k hk => hb.block k (h.ge k hk).2
theorem TS.chg {B : Nat} {w w' : World} {p : Nat} {R : List Pr} {F S : Nat → Prop} (h : TS B w p R F) (hc : ChgS S w w') (hd : ∀ k, F k → ¬ S k) : TS B w' p R F := h.stay fun k hk => hc.block k (h.ge k hk).2 (hd k hk)
theorem TS.srt {B : Nat} {w : World} {p : Nat} {R : List Pr} {F : Nat → Prop} (h : TS B w p R F) : Srt R := by obtain ⟨m, qv, l, L, hq, hh, hp, hs, _⟩ := h.ex; exact hs
theorem lk_l {l : List Tm} {L : List (Int × Value)} (hL : L.Perm (l.map fun t => (t.id, pv t.blk))) (hn : (L.map (·.1)).Nodup) {i : Nat} (hi : i < l.length) : lk L l[i].id = some (pv l[i].blk) :=
  mem_lk hn (hL.mem_iff.2 (List.mem_map.2 ⟨_, List.getElem_mem hi, rfl⟩))
theorem lk_no {l : List Tm} {L : List (Int × Value)} (hL : L.Perm (l.map fun t => (t.id, pv t.blk))) {id : Int} (h : id ∉ l.map (·.id)) : lk L id = none := by
  rw [lk_none]
  intro q hq e
  obtain ⟨t, ht, e2⟩ := List.mem_map.1 (hL.mem_iff.1 hq)
  rw [← e2] at e
  exact h (e ▸ List.mem_map.2 ⟨t, ht, rfl⟩)
theorem kp_mem {l : List Tm} {R : List Pr} (hp : (l.map kp).Perm R) {id : Int} : id ∈ l.map (·.id) ↔ id ∈ R.map (·.2) := by
  rw [← (hp.map _).mem_iff]
  simp [kp]
section
variable {B : Nat} {p : Nat} {Q : Value → World → Prop} {w : World} {R : List Pr} {F : Nat → Prop}
theorem build58 (a b : Int) (w : World) : (Instr.build 58 #[(0, .int .i64 a), (1, .int .i64 b)]).run Try.prog w = .ok (.agg #[.int .i64 a, .int .i64 b, .int .i64 0]) w := by
  kernel_rfl
theorem build54 (m : Nat) (w : World) : (Instr.build 54 #[(1, .map (some m))]).run Try.prog w = .ok (.agg #[.slice none 0 0, .map (some m)]) w := by
  kernel_rfl
theorem new_s (hB : B ≤ w.heap.size) (kk : ∀ p w' F, TS B w' p [] F → (∀ k, F k → w.heap.size ≤ k) → Below w.heap.size w w' → Q (pv p) w') : f9 w Q := by
  unfold f9
  refine mm_map (kv := kvI) fun w1 hm hb => ?_
  rw [smr_run (build54 _ w1)]
  try simp only [↓bx_e, ↓al_e, ↓fa_e, ↓ld_e, ↓ad_e, ↓su_e, ↓mu_e, ↓lt_e, ↓le_e, ↓gt_e, ↓ge_e, ↓eqi_e, ↓nei_e, ↓qu_e, ↓re_e, ↓cv_e, ↓nt_e, ↓pk_t, ↓pk_f, ↓pk_e, ↓eqb_e, ↓neb_e, ↓nc_e, ↓ex_e, ↓lnl_e, ↓lns_e, ↓idv_e, ↓cl_e, ↓cnd_e, ↓gd_e, ↓gd_u, ↓gdu_e, ↓rt_e, ↓jn_e, ↓dr_q, ↓kp_e, ↓mnm_e, ↓mxm_e, ↓mif_e, ↓asrt_e, ↓eqs_e, ↓nes_e, Value.cells, add_lit, cell_psh_new, cell_drw, Nat.zero_add, Nat.reduceAdd, get4_0, get4_1, get4_2, get4_3, get3_0, get3_1, get3_2, get2_0, get2_1, get1_0, Option.some.injEq, exists_eq_left', decide_true, decide_false, decide_eq_true_eq, if_true, if_false, Bool.not_true, Bool.not_false, Bool.false_eq_true, Bool.true_eq_false, Bool.not_eq_true', decide_eq_false_iff_not, not_false_eq_true, not_true_eq_false, reduceCtorEq, bx_e, al_e, fa_e, ld_e, ad_e, su_e, mu_e, lt_e, le_e, gt_e, ge_e, eqi_e, nei_e, qu_e, re_e, cv_e, nt_e, pk_t, pk_f, pk_e, eqb_e, neb_e, nc_e, ex_e, lnl_e, lns_e, idv_e, cl_e, cnd_e, gd_e, gd_u, gdu_e, rt_e, jn_e, dr_q, kp_e, mnm_e, mxm_e, mif_e, asrt_e, eqs_e, nes_e, cond_true, cond_false, Bool.true_and, Bool.and_true, Bool.false_and, Bool.and_false, decide_not]
  have hlt := hm.lt
  have hp := blk_psh_new (w := w1) (o := .cells #[.slice none 0 0, .map (some w.heap.size)] 54)
  have hb2 := b_psh w1 (.cells #[.slice none 0 0, .map (some w.heap.size)] 54)
  have hs := hb.size
  refine kk _ _ (fun k => fpQ w1.heap.size (.slice none 0 0) [] k ∨ k = w.heap.size) ⟨w.heap.size, .slice none 0 0, [], [], ⟨hp, ownV_nil, fun i hi => by simp at hi, by simp, by omega, by simp⟩, fun k a b => by simp at b, by simp, ⟨by simp, by simp⟩, hm.below hb2, by simp, hB, fun k => Iff.rfl⟩ ?_ (bt hb hb2)
  rintro k (h | rfl)
  · rcases h with rfl | h | h
    · omega
    · cases h
    · simp at h
  · omega
theorem len_nil (h : Q (.int .i64 0) w) : f13 (.pointer none) w Q := by
  unfold f13
  rw [pn_eq u25]
  simp only [↓bx_e, ↓al_e, ↓fa_e, ↓ld_e, ↓ad_e, ↓su_e, ↓mu_e, ↓lt_e, ↓le_e, ↓gt_e, ↓ge_e, ↓eqi_e, ↓nei_e, ↓qu_e, ↓re_e, ↓cv_e, ↓nt_e, ↓pk_t, ↓pk_f, ↓pk_e, ↓eqb_e, ↓neb_e, ↓nc_e, ↓ex_e, ↓lnl_e, ↓lns_e, ↓idv_e, ↓cl_e, ↓cnd_e, ↓gd_e, ↓gd_u, ↓gdu_e, ↓rt_e, ↓jn_e, ↓dr_q, ↓kp_e, ↓mnm_e, ↓mxm_e, ↓mif_e, ↓asrt_e, ↓eqs_e, ↓nes_e, Value.cells, add_lit, cell_psh_new, cell_drw, Nat.zero_add, Nat.reduceAdd, get4_0, get4_1, get4_2, get4_3, get3_0, get3_1, get3_2, get2_0, get2_1, get1_0, Option.some.injEq, exists_eq_left', decide_true, decide_false, decide_eq_true_eq, if_true, if_false, Bool.not_true, Bool.not_false, Bool.false_eq_true, Bool.true_eq_false, Bool.not_eq_true', decide_eq_false_iff_not, not_false_eq_true, not_true_eq_false, reduceCtorEq, bx_e, al_e, fa_e, ld_e, ad_e, su_e, mu_e, lt_e, le_e, gt_e, ge_e, eqi_e, nei_e, qu_e, re_e, cv_e, nt_e, pk_t, pk_f, pk_e, eqb_e, neb_e, nc_e, ex_e, lnl_e, lns_e, idv_e, cl_e, cnd_e, gd_e, gd_u, gdu_e, rt_e, jn_e, dr_q, kp_e, mnm_e, mxm_e, mif_e, asrt_e, eqs_e, nes_e, cond_true, cond_false, Bool.true_and, Bool.and_true, Bool.false_and, Bool.and_false, decide_not, Option.isNone_none]
  exact h
theorem tlen_s (ht : TS B w p R F) (h : Q (.int .i64 (R.length : Int)) w) : f13 (pv p) w Q := by
  obtain ⟨m, qv, l, L, hq, hh, hp, hs, hm, hL, hB, hF⟩ := ht.ex
  unfold f13 pv
  rw [pn_eq u25]
  have c0 := cell_of_blk (n := 0) hq.hp
  simp only [↓bx_e, ↓al_e, ↓fa_e, ↓ld_e, ↓ad_e, ↓su_e, ↓mu_e, ↓lt_e, ↓le_e, ↓gt_e, ↓ge_e, ↓eqi_e, ↓nei_e, ↓qu_e, ↓re_e, ↓cv_e, ↓nt_e, ↓pk_t, ↓pk_f, ↓pk_e, ↓eqb_e, ↓neb_e, ↓nc_e, ↓ex_e, ↓lnl_e, ↓lns_e, ↓idv_e, ↓cl_e, ↓cnd_e, ↓gd_e, ↓gd_u, ↓gdu_e, ↓rt_e, ↓jn_e, ↓dr_q, ↓kp_e, ↓mnm_e, ↓mxm_e, ↓mif_e, ↓asrt_e, ↓eqs_e, ↓nes_e, Value.cells, add_lit, cell_psh_new, cell_drw, Nat.zero_add, Nat.reduceAdd, get4_0, get4_1, get4_2, get4_3, get3_0, get3_1, get3_2, get2_0, get2_1, get1_0, Option.some.injEq, exists_eq_left', decide_true, decide_false, decide_eq_true_eq, if_true, if_false, Bool.not_true, Bool.not_false, Bool.false_eq_true, Bool.true_eq_false, Bool.not_eq_true', decide_eq_false_iff_not, not_false_eq_true, not_true_eq_false, reduceCtorEq, bx_e, al_e, fa_e, ld_e, ad_e, su_e, mu_e, lt_e, le_e, gt_e, ge_e, eqi_e, nei_e, qu_e, re_e, cv_e, nt_e, pk_t, pk_f, pk_e, eqb_e, neb_e, nc_e, ex_e, lnl_e, lns_e, idv_e, cl_e, cnd_e, gd_e, gd_u, gdu_e, rt_e, jn_e, dr_q, kp_e, mnm_e, mxm_e, mif_e, asrt_e, eqs_e, nes_e, cond_true, cond_false, Bool.true_and, Bool.and_true, Bool.false_and, Bool.and_false, decide_not, Option.isNone_some, c0]
  refine lnl_V hq.own ?_
  rw [List.length_map]
  have : l.length = R.length := by have := hp.length_eq; simpa using this
  simp only [↓bx_e, ↓al_e, ↓fa_e, ↓ld_e, ↓ad_e, ↓su_e, ↓mu_e, ↓lt_e, ↓le_e, ↓gt_e, ↓ge_e, ↓eqi_e, ↓nei_e, ↓qu_e, ↓re_e, ↓cv_e, ↓nt_e, ↓pk_t, ↓pk_f, ↓pk_e, ↓eqb_e, ↓neb_e, ↓nc_e, ↓ex_e, ↓lnl_e, ↓lns_e, ↓idv_e, ↓cl_e, ↓cnd_e, ↓gd_e, ↓gd_u, ↓gdu_e, ↓rt_e, ↓jn_e, ↓dr_q, ↓kp_e, ↓mnm_e, ↓mxm_e, ↓mif_e, ↓asrt_e, ↓eqs_e, ↓nes_e, Value.cells, add_lit, cell_psh_new, cell_drw, Nat.zero_add, Nat.reduceAdd, get4_0, get4_1, get4_2, get4_3, get3_0, get3_1, get3_2, get2_0, get2_1, get1_0, Option.some.injEq, exists_eq_left', decide_true, decide_false, decide_eq_true_eq, if_true, if_false, Bool.not_true, Bool.not_false, Bool.false_eq_true, Bool.true_eq_false, Bool.not_eq_true', decide_eq_false_iff_not, not_false_eq_true, not_true_eq_false, reduceCtorEq, bx_e, al_e, fa_e, ld_e, ad_e, su_e, mu_e, lt_e, le_e, gt_e, ge_e, eqi_e, nei_e, qu_e, re_e, cv_e, nt_e, pk_t, pk_f, pk_e, eqb_e, neb_e, nc_e, ex_e, lnl_e, lns_e, idv_e, cl_e, cnd_e, gd_e, gd_u, gdu_e, rt_e, jn_e, dr_q, kp_e, mnm_e, mxm_e, mif_e, asrt_e, eqs_e, nes_e, cond_true, cond_false, Bool.true_and, Bool.and_true, Bool.false_and, Bool.and_false, decide_not, this]
  exact h
theorem next_nil (h : Q (.tuple #[.int .i64 0, .int .i64 0, .bool false]) w) : f11 (.pointer none) w Q := by
  unfold f11
  rw [cl_e]
  refine len_nil ?_
  try simp only [↓bx_e, ↓al_e, ↓fa_e, ↓ld_e, ↓ad_e, ↓su_e, ↓mu_e, ↓lt_e, ↓le_e, ↓gt_e, ↓ge_e, ↓eqi_e, ↓nei_e, ↓qu_e, ↓re_e, ↓cv_e, ↓nt_e, ↓pk_t, ↓pk_f, ↓pk_e, ↓eqb_e, ↓neb_e, ↓nc_e, ↓ex_e, ↓lnl_e, ↓lns_e, ↓idv_e, ↓cl_e, ↓cnd_e, ↓gd_e, ↓gd_u, ↓gdu_e, ↓rt_e, ↓jn_e, ↓dr_q, ↓kp_e, ↓mnm_e, ↓mxm_e, ↓mif_e, ↓asrt_e, ↓eqs_e, ↓nes_e, Value.cells, add_lit, cell_psh_new, cell_drw, Nat.zero_add, Nat.reduceAdd, get4_0, get4_1, get4_2, get4_3, get3_0, get3_1, get3_2, get2_0, get2_1, get1_0, Option.some.injEq, exists_eq_left', decide_true, decide_false, decide_eq_true_eq, if_true, if_false, Bool.not_true, Bool.not_false, Bool.false_eq_true, Bool.true_eq_false, Bool.not_eq_true', decide_eq_false_iff_not, not_false_eq_true, not_true_eq_false, reduceCtorEq, bx_e, al_e, fa_e, ld_e, ad_e, su_e, mu_e, lt_e, le_e, gt_e, ge_e, eqi_e, nei_e, qu_e, re_e, cv_e, nt_e, pk_t, pk_f, pk_e, eqb_e, neb_e, nc_e, ex_e, lnl_e, lns_e, idv_e, cl_e, cnd_e, gd_e, gd_u, gdu_e, rt_e, jn_e, dr_q, kp_e, mnm_e, mxm_e, mif_e, asrt_e, eqs_e, nes_e, cond_true, cond_false, Bool.true_and, Bool.and_true, Bool.false_and, Bool.and_false, decide_not]
  exact h
def nextP : List Pr → Int × Int × Bool
  | [] => (0, 0, false)
  | x :: _ => (x.1, x.2, true)
theorem next_s (ht : TS B w p R F) (h : ∀ w', w'.heap = w.heap → Below w.heap.size w w' → Q (.tuple #[.int .i64 (nextP R).1, .int .i64 (nextP R).2.1, .bool (nextP R).2.2]) w') : f11 (pv p) w Q := by
  unfold f11
  rw [cl_e]
  refine tlen_s ht ?_
  obtain ⟨m, qv, l, L, hq, hh, hp, hs, hm, hL, hB, hF⟩ := ht.ex
  have hlen : l.length = R.length := by have := hp.length_eq; simpa using this
  by_cases c : R.length = 0
  · have : R = [] := List.length_eq_zero_iff.1 c
    subst this
    simp only [↓bx_e, ↓al_e, ↓fa_e, ↓ld_e, ↓ad_e, ↓su_e, ↓mu_e, ↓lt_e, ↓le_e, ↓gt_e, ↓ge_e, ↓eqi_e, ↓nei_e, ↓qu_e, ↓re_e, ↓cv_e, ↓nt_e, ↓pk_t, ↓pk_f, ↓pk_e, ↓eqb_e, ↓neb_e, ↓nc_e, ↓ex_e, ↓lnl_e, ↓lns_e, ↓idv_e, ↓cl_e, ↓cnd_e, ↓gd_e, ↓gd_u, ↓gdu_e, ↓rt_e, ↓jn_e, ↓dr_q, ↓kp_e, ↓mnm_e, ↓mxm_e, ↓mif_e, ↓asrt_e, ↓eqs_e, ↓nes_e, Value.cells, add_lit, cell_psh_new, cell_drw, Nat.zero_add, Nat.reduceAdd, get4_0, get4_1, get4_2, get4_3, get3_0, get3_1, get3_2, get2_0, get2_1, get1_0, Option.some.injEq, exists_eq_left', decide_true, decide_false, decide_eq_true_eq, if_true, if_false, Bool.not_true, Bool.not_false, Bool.false_eq_true, Bool.true_eq_false, Bool.not_eq_true', decide_eq_false_iff_not, not_false_eq_true, not_true_eq_false, reduceCtorEq, bx_e, al_e, fa_e, ld_e, ad_e, su_e, mu_e, lt_e, le_e, gt_e, ge_e, eqi_e, nei_e, qu_e, re_e, cv_e, nt_e, pk_t, pk_f, pk_e, eqb_e, neb_e, nc_e, ex_e, lnl_e, lns_e, idv_e, cl_e, cnd_e, gd_e, gd_u, gdu_e, rt_e, jn_e, dr_q, kp_e, mnm_e, mxm_e, mif_e, asrt_e, eqs_e, nes_e, cond_true, cond_false, Bool.true_and, Bool.and_true, Bool.false_and, Bool.and_false, decide_not, List.length_nil, Int.natCast_zero]
    exact h w rfl (Below.refl _ _)
  · have c' : ¬ ((R.length : Nat) : Int) = 0 := by omega
    have h0 : 0 < l.length := by omega
    obtain ⟨R', hR⟩ := head_is hh hp hs h0
    obtain ⟨g, cap, hqv, hob, hgB, ⟨cur, hcur⟩, hcell⟩ := hq.slice h0
    have c00 : (drw w).cell? ⟨p, 0, none⟩ = some qv := cell_of_blk (n := 0) hq.hp
    have cg : (drw w).cell? ⟨g, 0, none⟩ = some (pv l[0].blk) := hcell 0 h0
    have t0 : (drw w).cell? ⟨l[0].blk, 0, none⟩ = some (.int .i64 l[0].id) := cell_of_blk (n := 0) (hq.tm 0 h0)
    have t1 : (drw w).cell? ⟨l[0].blk, 1, none⟩ = some (.int .i64 l[0].till) := cell_of_blk (n := 1) (hq.tm 0 h0)
    have i0 : ∀ {K : Value → M} {w Q}, ia 1 (.slice (some ⟨g, 0, none⟩) l.length cap) (.int .i64 0) K w Q = K (.pointer (some ⟨g, 0, none⟩)) w Q := fun {K w Q} => ia_at (i := 0) h0
    simp only [↓bx_e, ↓al_e, ↓fa_e, ↓ld_e, ↓ad_e, ↓su_e, ↓mu_e, ↓lt_e, ↓le_e, ↓gt_e, ↓ge_e, ↓eqi_e, ↓nei_e, ↓qu_e, ↓re_e, ↓cv_e, ↓nt_e, ↓pk_t, ↓pk_f, ↓pk_e, ↓eqb_e, ↓neb_e, ↓nc_e, ↓ex_e, ↓lnl_e, ↓lns_e, ↓idv_e, ↓cl_e, ↓cnd_e, ↓gd_e, ↓gd_u, ↓gdu_e, ↓rt_e, ↓jn_e, ↓dr_q, ↓kp_e, ↓mnm_e, ↓mxm_e, ↓mif_e, ↓asrt_e, ↓eqs_e, ↓nes_e, Value.cells, add_lit, cell_psh_new, cell_drw, Nat.zero_add, Nat.reduceAdd, get4_0, get4_1, get4_2, get4_3, get3_0, get3_1, get3_2, get2_0, get2_1, get1_0, Option.some.injEq, exists_eq_left', decide_true, decide_false, decide_eq_true_eq, if_true, if_false, Bool.not_true, Bool.not_false, Bool.false_eq_true, Bool.true_eq_false, Bool.not_eq_true', decide_eq_false_iff_not, not_false_eq_true, not_true_eq_false, reduceCtorEq, bx_e, al_e, fa_e, ld_e, ad_e, su_e, mu_e, lt_e, le_e, gt_e, ge_e, eqi_e, nei_e, qu_e, re_e, cv_e, nt_e, pk_t, pk_f, pk_e, eqb_e, neb_e, nc_e, ex_e, lnl_e, lns_e, idv_e, cl_e, cnd_e, gd_e, gd_u, gdu_e, rt_e, jn_e, dr_q, kp_e, mnm_e, mxm_e, mif_e, asrt_e, eqs_e, nes_e, cond_true, cond_false, Bool.true_and, Bool.and_true, Bool.false_and, Bool.and_false, decide_not, c', pv, c00, hqv, i0, cg, t0, t1]
    have := h (drw w) rfl (Below_drw (Below.refl _ _))
    rw [hR] at this
    exact this
def tillP (R : List Pr) (id : Int) : Int × Bool := match R.find? (fun x => decide (x.2 = id)) with
  | some x => (x.1, true)
  | none => (0, false)
theorem till_nil (id : Int) (h : Q (.tuple #[.int .i64 0, .bool false]) w) : f20 (.pointer none) (.int .i64 id) w Q := by
  unfold f20
  rw [pn_eq u25]
  simp only [↓bx_e, ↓al_e, ↓fa_e, ↓ld_e, ↓ad_e, ↓su_e, ↓mu_e, ↓lt_e, ↓le_e, ↓gt_e, ↓ge_e, ↓eqi_e, ↓nei_e, ↓qu_e, ↓re_e, ↓cv_e, ↓nt_e, ↓pk_t, ↓pk_f, ↓pk_e, ↓eqb_e, ↓neb_e, ↓nc_e, ↓ex_e, ↓lnl_e, ↓lns_e, ↓idv_e, ↓cl_e, ↓cnd_e, ↓gd_e, ↓gd_u, ↓gdu_e, ↓rt_e, ↓jn_e, ↓dr_q, ↓kp_e, ↓mnm_e, ↓mxm_e, ↓mif_e, ↓asrt_e, ↓eqs_e, ↓nes_e, Value.cells, add_lit, cell_psh_new, cell_drw, Nat.zero_add, Nat.reduceAdd, get4_0, get4_1, get4_2, get4_3, get3_0, get3_1, get3_2, get2_0, get2_1, get1_0, Option.some.injEq, exists_eq_left', decide_true, decide_false, decide_eq_true_eq, if_true, if_false, Bool.not_true, Bool.not_false, Bool.false_eq_true, Bool.true_eq_false, Bool.not_eq_true', decide_eq_false_iff_not, not_false_eq_true, not_true_eq_false, reduceCtorEq, bx_e, al_e, fa_e, ld_e, ad_e, su_e, mu_e, lt_e, le_e, gt_e, ge_e, eqi_e, nei_e, qu_e, re_e, cv_e, nt_e, pk_t, pk_f, pk_e, eqb_e, neb_e, nc_e, ex_e, lnl_e, lns_e, idv_e, cl_e, cnd_e, gd_e, gd_u, gdu_e, rt_e, jn_e, dr_q, kp_e, mnm_e, mxm_e, mif_e, asrt_e, eqs_e, nes_e, cond_true, cond_false, Bool.true_and, Bool.and_true, Bool.false_and, Bool.and_false, decide_not, Option.isNone_none]
  exact h
theorem drop_nil (id : Int) (h : Q (.bool false) w) : f15 (.pointer none) (.int .i64 id) w Q := by
  unfold f15
  rw [pn_eq u25]
  simp only [↓bx_e, ↓al_e, ↓fa_e, ↓ld_e, ↓ad_e, ↓su_e, ↓mu_e, ↓lt_e, ↓le_e, ↓gt_e, ↓ge_e, ↓eqi_e, ↓nei_e, ↓qu_e, ↓re_e, ↓cv_e, ↓nt_e, ↓pk_t, ↓pk_f, ↓pk_e, ↓eqb_e, ↓neb_e, ↓nc_e, ↓ex_e, ↓lnl_e, ↓lns_e, ↓idv_e, ↓cl_e, ↓cnd_e, ↓gd_e, ↓gd_u, ↓gdu_e, ↓rt_e, ↓jn_e, ↓dr_q, ↓kp_e, ↓mnm_e, ↓mxm_e, ↓mif_e, ↓asrt_e, ↓eqs_e, ↓nes_e, Value.cells, add_lit, cell_psh_new, cell_drw, Nat.zero_add, Nat.reduceAdd, get4_0, get4_1, get4_2, get4_3, get3_0, get3_1, get3_2, get2_0, get2_1, get1_0, Option.some.injEq, exists_eq_left', decide_true, decide_false, decide_eq_true_eq, if_true, if_false, Bool.not_true, Bool.not_false, Bool.false_eq_true, Bool.true_eq_false, Bool.not_eq_true', decide_eq_false_iff_not, not_false_eq_true, not_true_eq_false, reduceCtorEq, bx_e, al_e, fa_e, ld_e, ad_e, su_e, mu_e, lt_e, le_e, gt_e, ge_e, eqi_e, nei_e, qu_e, re_e, cv_e, nt_e, pk_t, pk_f, pk_e, eqb_e, neb_e, nc_e, ex_e, lnl_e, lns_e, idv_e, cl_e, cnd_e, gd_e, gd_u, gdu_e, rt_e, jn_e, dr_q, kp_e, mnm_e, mxm_e, mif_e, asrt_e, eqs_e, nes_e, cond_true, cond_false, Bool.true_and, Bool.and_true, Bool.false_and, Bool.and_false, decide_not, Option.isNone_none]
  exact h
theorem set_nil (id till : Int) (h : Q (.tuple #[]) w) : f10 (.pointer none) (.int .i64 id) (.int .i64 till) w Q := by
  unfold f10
  rw [pn_eq u25]
  simp only [↓bx_e, ↓al_e, ↓fa_e, ↓ld_e, ↓ad_e, ↓su_e, ↓mu_e, ↓lt_e, ↓le_e, ↓gt_e, ↓ge_e, ↓eqi_e, ↓nei_e, ↓qu_e, ↓re_e, ↓cv_e, ↓nt_e, ↓pk_t, ↓pk_f, ↓pk_e, ↓eqb_e, ↓neb_e, ↓nc_e, ↓ex_e, ↓lnl_e, ↓lns_e, ↓idv_e, ↓cl_e, ↓cnd_e, ↓gd_e, ↓gd_u, ↓gdu_e, ↓rt_e, ↓jn_e, ↓dr_q, ↓kp_e, ↓mnm_e, ↓mxm_e, ↓mif_e, ↓asrt_e, ↓eqs_e, ↓nes_e, Value.cells, add_lit, cell_psh_new, cell_drw, Nat.zero_add, Nat.reduceAdd, get4_0, get4_1, get4_2, get4_3, get3_0, get3_1, get3_2, get2_0, get2_1, get1_0, Option.some.injEq, exists_eq_left', decide_true, decide_false, decide_eq_true_eq, if_true, if_false, Bool.not_true, Bool.not_false, Bool.false_eq_true, Bool.true_eq_false, Bool.not_eq_true', decide_eq_false_iff_not, not_false_eq_true, not_true_eq_false, reduceCtorEq, bx_e, al_e, fa_e, ld_e, ad_e, su_e, mu_e, lt_e, le_e, gt_e, ge_e, eqi_e, nei_e, qu_e, re_e, cv_e, nt_e, pk_t, pk_f, pk_e, eqb_e, neb_e, nc_e, ex_e, lnl_e, lns_e, idv_e, cl_e, cnd_e, gd_e, gd_u, gdu_e, rt_e, jn_e, dr_q, kp_e, mnm_e, mxm_e, mif_e, asrt_e, eqs_e, nes_e, cond_true, cond_false, Bool.true_and, Bool.and_true, Bool.false_and, Bool.and_false, decide_not, Option.isNone_none]
  exact h
theorem find_R {l : List Tm} (hp : (l.map kp).Perm R) (hs : Srt R) {i : Nat} (hi : i < l.length) : R.find? (fun x => decide (x.2 = l[i].id)) = some (kp l[i]) := by
  have hm : kp l[i] ∈ R := hp.mem_iff.1 (List.mem_map.2 ⟨_, List.getElem_mem hi, rfl⟩)
  cases hf : R.find? (fun x => decide (x.2 = l[i].id)) with
  | none =>
    rw [List.find?_eq_none] at hf
    have := hf _ hm
    simp [kp] at this
  | some x =>
    have h1 := List.find?_some hf
    have h2 := List.mem_of_find?_eq_some hf
    simp only [decide_eq_true_eq] at h1
    obtain ⟨a, ha, ea⟩ := List.mem_iff_getElem.1 h2
    obtain ⟨b, hb, eb⟩ := List.mem_iff_getElem.1 hm
    have e1 : (R.map (·.2))[a]? = some l[i].id := by simp [ha, ea, h1]
    have e2 : (R.map (·.2))[b]? = some l[i].id := by simp [hb, eb, kp]
    have : a = b := (List.getElem?_inj (by simpa using ha) hs.2).1 (by rw [e1, e2])
    subst this
    rw [ea] at eb
    rw [eb]
theorem find_none {id : Int} (h : id ∉ R.map (·.2)) : R.find? (fun x => decide (x.2 = id)) = none := by
  rw [List.find?_eq_none]
  intro x hx e
  exact h (List.mem_map.2 ⟨x, hx, by simpa using e⟩)
theorem till_s (ht : TS B w p R F) (id : Int) (h : Q (.tuple #[.int .i64 (tillP R id).1, .bool (tillP R id).2]) w) : f20 (pv p) (.int .i64 id) w Q := by
  obtain ⟨m, qv, l, L, hq, hh, hp, hs, hm, hL, hB, hF⟩ := ht.ex
  unfold f20 pv
  rw [pn_eq u25]
  have c1 := cell_of_blk (n := 1) hq.hp
  simp only [↓bx_e, ↓al_e, ↓fa_e, ↓ld_e, ↓ad_e, ↓su_e, ↓mu_e, ↓lt_e, ↓le_e, ↓gt_e, ↓ge_e, ↓eqi_e, ↓nei_e, ↓qu_e, ↓re_e, ↓cv_e, ↓nt_e, ↓pk_t, ↓pk_f, ↓pk_e, ↓eqb_e, ↓neb_e, ↓nc_e, ↓ex_e, ↓lnl_e, ↓lns_e, ↓idv_e, ↓cl_e, ↓cnd_e, ↓gd_e, ↓gd_u, ↓gdu_e, ↓rt_e, ↓jn_e, ↓dr_q, ↓kp_e, ↓mnm_e, ↓mxm_e, ↓mif_e, ↓asrt_e, ↓eqs_e, ↓nes_e, Value.cells, add_lit, cell_psh_new, cell_drw, Nat.zero_add, Nat.reduceAdd, get4_0, get4_1, get4_2, get4_3, get3_0, get3_1, get3_2, get2_0, get2_1, get1_0, Option.some.injEq, exists_eq_left', decide_true, decide_false, decide_eq_true_eq, if_true, if_false, Bool.not_true, Bool.not_false, Bool.false_eq_true, Bool.true_eq_false, Bool.not_eq_true', decide_eq_false_iff_not, not_false_eq_true, not_true_eq_false, reduceCtorEq, bx_e, al_e, fa_e, ld_e, ad_e, su_e, mu_e, lt_e, le_e, gt_e, ge_e, eqi_e, nei_e, qu_e, re_e, cv_e, nt_e, pk_t, pk_f, pk_e, eqb_e, neb_e, nc_e, ex_e, lnl_e, lns_e, idv_e, cl_e, cnd_e, gd_e, gd_u, gdu_e, rt_e, jn_e, dr_q, kp_e, mnm_e, mxm_e, mif_e, asrt_e, eqs_e, nes_e, cond_true, cond_false, Bool.true_and, Bool.and_true, Bool.false_and, Bool.and_false, decide_not, Option.isNone_some, c1]
  rw [look_v kk50 hm zz55]
  unfold tillP at h
  by_cases c : id ∈ l.map (·.id)
  · obtain ⟨t, ht', e⟩ := List.mem_map.1 c
    obtain ⟨i, hi, e2⟩ := List.mem_iff_getElem.1 ht'
    subst e2
    subst e
    rw [lk_l hL hm.nodup hi]
    rw [find_R hp hs hi] at h
    simp only [↓bx_e, ↓al_e, ↓fa_e, ↓ld_e, ↓ad_e, ↓su_e, ↓mu_e, ↓lt_e, ↓le_e, ↓gt_e, ↓ge_e, ↓eqi_e, ↓nei_e, ↓qu_e, ↓re_e, ↓cv_e, ↓nt_e, ↓pk_t, ↓pk_f, ↓pk_e, ↓eqb_e, ↓neb_e, ↓nc_e, ↓ex_e, ↓lnl_e, ↓lns_e, ↓idv_e, ↓cl_e, ↓cnd_e, ↓gd_e, ↓gd_u, ↓gdu_e, ↓rt_e, ↓jn_e, ↓dr_q, ↓kp_e, ↓mnm_e, ↓mxm_e, ↓mif_e, ↓asrt_e, ↓eqs_e, ↓nes_e, Value.cells, add_lit, cell_psh_new, cell_drw, Nat.zero_add, Nat.reduceAdd, get4_0, get4_1, get4_2, get4_3, get3_0, get3_1, get3_2, get2_0, get2_1, get1_0, Option.some.injEq, exists_eq_left', decide_true, decide_false, decide_eq_true_eq, if_true, if_false, Bool.not_true, Bool.not_false, Bool.false_eq_true, Bool.true_eq_false, Bool.not_eq_true', decide_eq_false_iff_not, not_false_eq_true, not_true_eq_false, reduceCtorEq, bx_e, al_e, fa_e, ld_e, ad_e, su_e, mu_e, lt_e, le_e, gt_e, ge_e, eqi_e, nei_e, qu_e, re_e, cv_e, nt_e, pk_t, pk_f, pk_e, eqb_e, neb_e, nc_e, ex_e, lnl_e, lns_e, idv_e, cl_e, cnd_e, gd_e, gd_u, gdu_e, rt_e, jn_e, dr_q, kp_e, mnm_e, mxm_e, mif_e, asrt_e, eqs_e, nes_e, cond_true, cond_false, Bool.true_and, Bool.and_true, Bool.false_and, Bool.and_false, decide_not, Option.getD_some, pv]
    rw [pn_eq u55]
    simp only [↓bx_e, ↓al_e, ↓fa_e, ↓ld_e, ↓ad_e, ↓su_e, ↓mu_e, ↓lt_e, ↓le_e, ↓gt_e, ↓ge_e, ↓eqi_e, ↓nei_e, ↓qu_e, ↓re_e, ↓cv_e, ↓nt_e, ↓pk_t, ↓pk_f, ↓pk_e, ↓eqb_e, ↓neb_e, ↓nc_e, ↓ex_e, ↓lnl_e, ↓lns_e, ↓idv_e, ↓cl_e, ↓cnd_e, ↓gd_e, ↓gd_u, ↓gdu_e, ↓rt_e, ↓jn_e, ↓dr_q, ↓kp_e, ↓mnm_e, ↓mxm_e, ↓mif_e, ↓asrt_e, ↓eqs_e, ↓nes_e, Value.cells, add_lit, cell_psh_new, cell_drw, Nat.zero_add, Nat.reduceAdd, get4_0, get4_1, get4_2, get4_3, get3_0, get3_1, get3_2, get2_0, get2_1, get1_0, Option.some.injEq, exists_eq_left', decide_true, decide_false, decide_eq_true_eq, if_true, if_false, Bool.not_true, Bool.not_false, Bool.false_eq_true, Bool.true_eq_false, Bool.not_eq_true', decide_eq_false_iff_not, not_false_eq_true, not_true_eq_false, reduceCtorEq, bx_e, al_e, fa_e, ld_e, ad_e, su_e, mu_e, lt_e, le_e, gt_e, ge_e, eqi_e, nei_e, qu_e, re_e, cv_e, nt_e, pk_t, pk_f, pk_e, eqb_e, neb_e, nc_e, ex_e, lnl_e, lns_e, idv_e, cl_e, cnd_e, gd_e, gd_u, gdu_e, rt_e, jn_e, dr_q, kp_e, mnm_e, mxm_e, mif_e, asrt_e, eqs_e, nes_e, cond_true, cond_false, Bool.true_and, Bool.and_true, Bool.false_and, Bool.and_false, decide_not, Option.isNone_some, c1]
    rw [look_v kk50 hm zz55, lk_l hL hm.nodup hi]
    have t1 := cell_of_blk (n := 1) (hq.tm i hi)
    simp only [↓bx_e, ↓al_e, ↓fa_e, ↓ld_e, ↓ad_e, ↓su_e, ↓mu_e, ↓lt_e, ↓le_e, ↓gt_e, ↓ge_e, ↓eqi_e, ↓nei_e, ↓qu_e, ↓re_e, ↓cv_e, ↓nt_e, ↓pk_t, ↓pk_f, ↓pk_e, ↓eqb_e, ↓neb_e, ↓nc_e, ↓ex_e, ↓lnl_e, ↓lns_e, ↓idv_e, ↓cl_e, ↓cnd_e, ↓gd_e, ↓gd_u, ↓gdu_e, ↓rt_e, ↓jn_e, ↓dr_q, ↓kp_e, ↓mnm_e, ↓mxm_e, ↓mif_e, ↓asrt_e, ↓eqs_e, ↓nes_e, Value.cells, add_lit, cell_psh_new, cell_drw, Nat.zero_add, Nat.reduceAdd, get4_0, get4_1, get4_2, get4_3, get3_0, get3_1, get3_2, get2_0, get2_1, get1_0, Option.some.injEq, exists_eq_left', decide_true, decide_false, decide_eq_true_eq, if_true, if_false, Bool.not_true, Bool.not_false, Bool.false_eq_true, Bool.true_eq_false, Bool.not_eq_true', decide_eq_false_iff_not, not_false_eq_true, not_true_eq_false, reduceCtorEq, bx_e, al_e, fa_e, ld_e, ad_e, su_e, mu_e, lt_e, le_e, gt_e, ge_e, eqi_e, nei_e, qu_e, re_e, cv_e, nt_e, pk_t, pk_f, pk_e, eqb_e, neb_e, nc_e, ex_e, lnl_e, lns_e, idv_e, cl_e, cnd_e, gd_e, gd_u, gdu_e, rt_e, jn_e, dr_q, kp_e, mnm_e, mxm_e, mif_e, asrt_e, eqs_e, nes_e, cond_true, cond_false, Bool.true_and, Bool.and_true, Bool.false_and, Bool.and_false, decide_not, Option.getD_some, pv, t1, tC]
    exact h
  · rw [lk_no hL c]
    rw [find_none (fun hc => c ((kp_mem hp).2 hc))] at h
    simp only [↓bx_e, ↓al_e, ↓fa_e, ↓ld_e, ↓ad_e, ↓su_e, ↓mu_e, ↓lt_e, ↓le_e, ↓gt_e, ↓ge_e, ↓eqi_e, ↓nei_e, ↓qu_e, ↓re_e, ↓cv_e, ↓nt_e, ↓pk_t, ↓pk_f, ↓pk_e, ↓eqb_e, ↓neb_e, ↓nc_e, ↓ex_e, ↓lnl_e, ↓lns_e, ↓idv_e, ↓cl_e, ↓cnd_e, ↓gd_e, ↓gd_u, ↓gdu_e, ↓rt_e, ↓jn_e, ↓dr_q, ↓kp_e, ↓mnm_e, ↓mxm_e, ↓mif_e, ↓asrt_e, ↓eqs_e, ↓nes_e, Value.cells, add_lit, cell_psh_new, cell_drw, Nat.zero_add, Nat.reduceAdd, get4_0, get4_1, get4_2, get4_3, get3_0, get3_1, get3_2, get2_0, get2_1, get1_0, Option.some.injEq, exists_eq_left', decide_true, decide_false, decide_eq_true_eq, if_true, if_false, Bool.not_true, Bool.not_false, Bool.false_eq_true, Bool.true_eq_false, Bool.not_eq_true', decide_eq_false_iff_not, not_false_eq_true, not_true_eq_false, reduceCtorEq, bx_e, al_e, fa_e, ld_e, ad_e, su_e, mu_e, lt_e, le_e, gt_e, ge_e, eqi_e, nei_e, qu_e, re_e, cv_e, nt_e, pk_t, pk_f, pk_e, eqb_e, neb_e, nc_e, ex_e, lnl_e, lns_e, idv_e, cl_e, cnd_e, gd_e, gd_u, gdu_e, rt_e, jn_e, dr_q, kp_e, mnm_e, mxm_e, mif_e, asrt_e, eqs_e, nes_e, cond_true, cond_false, Bool.true_and, Bool.and_true, Bool.false_and, Bool.and_false, decide_not, Option.getD_none]
    rw [pn_eq u55]
    simp only [↓bx_e, ↓al_e, ↓fa_e, ↓ld_e, ↓ad_e, ↓su_e, ↓mu_e, ↓lt_e, ↓le_e, ↓gt_e, ↓ge_e, ↓eqi_e, ↓nei_e, ↓qu_e, ↓re_e, ↓cv_e, ↓nt_e, ↓pk_t, ↓pk_f, ↓pk_e, ↓eqb_e, ↓neb_e, ↓nc_e, ↓ex_e, ↓lnl_e, ↓lns_e, ↓idv_e, ↓cl_e, ↓cnd_e, ↓gd_e, ↓gd_u, ↓gdu_e, ↓rt_e, ↓jn_e, ↓dr_q, ↓kp_e, ↓mnm_e, ↓mxm_e, ↓mif_e, ↓asrt_e, ↓eqs_e, ↓nes_e, Value.cells, add_lit, cell_psh_new, cell_drw, Nat.zero_add, Nat.reduceAdd, get4_0, get4_1, get4_2, get4_3, get3_0, get3_1, get3_2, get2_0, get2_1, get1_0, Option.some.injEq, exists_eq_left', decide_true, decide_false, decide_eq_true_eq, if_true, if_false, Bool.not_true, Bool.not_false, Bool.false_eq_true, Bool.true_eq_false, Bool.not_eq_true', decide_eq_false_iff_not, not_false_eq_true, not_true_eq_false, reduceCtorEq, bx_e, al_e, fa_e, ld_e, ad_e, su_e, mu_e, lt_e, le_e, gt_e, ge_e, eqi_e, nei_e, qu_e, re_e, cv_e, nt_e, pk_t, pk_f, pk_e, eqb_e, neb_e, nc_e, ex_e, lnl_e, lns_e, idv_e, cl_e, cnd_e, gd_e, gd_u, gdu_e, rt_e, jn_e, dr_q, kp_e, mnm_e, mxm_e, mif_e, asrt_e, eqs_e, nes_e, cond_true, cond_false, Bool.true_and, Bool.and_true, Bool.false_and, Bool.and_false, decide_not, Option.isNone_none]
    exact h
theorem fp_ext {F' : Nat → Prop} {l l' : List Tm} {qv : Value} {m : Nat} (hF : ∀ k, F k ↔ fpQ p qv l k ∨ k = m) (h : ∀ k, fpQ p qv l' k → fpQ p qv l k) : ∀ k, (fpQ p qv l' k ∨ k = m) → F k := fun k hk => (hF k).2 (hk.imp (h k) id)
set_option maxHeartbeats 1000000 in
theorem tset_s (ht : TS B w p R F) (id till : Int) (hR : R.length ≤ 999999)
    (kk : ∀ w' F', TS B w' p (ins (till, id) (rm R id)) F' → ChgS F w w' → (∀ k, F' k → F k ∨ w.heap.size ≤ k) → Q (.tuple #[]) w') : f10 (pv p) (.int .i64 id) (.int .i64 till) w Q := by
  obtain ⟨m, qv, l, L, hq, hh, hp, hs, hm, hL, hB, hF⟩ := ht.ex
  have hlen : l.length = R.length := by have := hp.length_eq; simpa using this
  unfold f10 pv
  rw [pn_eq u25]
  have c1 := cell_of_blk (n := 1) hq.hp
  have c0 := cell_of_blk (n := 0) hq.hp
  simp only [↓bx_e, ↓al_e, ↓fa_e, ↓ld_e, ↓ad_e, ↓su_e, ↓mu_e, ↓lt_e, ↓le_e, ↓gt_e, ↓ge_e, ↓eqi_e, ↓nei_e, ↓qu_e, ↓re_e, ↓cv_e, ↓nt_e, ↓pk_t, ↓pk_f, ↓pk_e, ↓eqb_e, ↓neb_e, ↓nc_e, ↓ex_e, ↓lnl_e, ↓lns_e, ↓idv_e, ↓cl_e, ↓cnd_e, ↓gd_e, ↓gd_u, ↓gdu_e, ↓rt_e, ↓jn_e, ↓dr_q, ↓kp_e, ↓mnm_e, ↓mxm_e, ↓mif_e, ↓asrt_e, ↓eqs_e, ↓nes_e, Value.cells, add_lit, cell_psh_new, cell_drw, Nat.zero_add, Nat.reduceAdd, get4_0, get4_1, get4_2, get4_3, get3_0, get3_1, get3_2, get2_0, get2_1, get1_0, Option.some.injEq, exists_eq_left', decide_true, decide_false, decide_eq_true_eq, if_true, if_false, Bool.not_true, Bool.not_false, Bool.false_eq_true, Bool.true_eq_false, Bool.not_eq_true', decide_eq_false_iff_not, not_false_eq_true, not_true_eq_false, reduceCtorEq, bx_e, al_e, fa_e, ld_e, ad_e, su_e, mu_e, lt_e, le_e, gt_e, ge_e, eqi_e, nei_e, qu_e, re_e, cv_e, nt_e, pk_t, pk_f, pk_e, eqb_e, neb_e, nc_e, ex_e, lnl_e, lns_e, idv_e, cl_e, cnd_e, gd_e, gd_u, gdu_e, rt_e, jn_e, dr_q, kp_e, mnm_e, mxm_e, mif_e, asrt_e, eqs_e, nes_e, cond_true, cond_false, Bool.true_and, Bool.and_true, Bool.false_and, Bool.and_false, decide_not, Option.isNone_some, c1]
  rw [look_ok kk50 hm zz55]
  have hsr : Srt (ins (till, id) (rm R id)) := ins_sorted (rm_sorted hs id) (fun y hy => rm_ne y hy)
  by_cases c : id ∈ l.map (·.id)
  · obtain ⟨t, ht', e⟩ := List.mem_map.1 c
    obtain ⟨i, hi, e2⟩ := List.mem_iff_getElem.1 ht'
    subst e2
    have hlk := lk_l hL hm.nodup hi
    rw [e] at hlk
    rw [hlk]
    simp only [↓bx_e, ↓al_e, ↓fa_e, ↓ld_e, ↓ad_e, ↓su_e, ↓mu_e, ↓lt_e, ↓le_e, ↓gt_e, ↓ge_e, ↓eqi_e, ↓nei_e, ↓qu_e, ↓re_e, ↓cv_e, ↓nt_e, ↓pk_t, ↓pk_f, ↓pk_e, ↓eqb_e, ↓neb_e, ↓nc_e, ↓ex_e, ↓lnl_e, ↓lns_e, ↓idv_e, ↓cl_e, ↓cnd_e, ↓gd_e, ↓gd_u, ↓gdu_e, ↓rt_e, ↓jn_e, ↓dr_q, ↓kp_e, ↓mnm_e, ↓mxm_e, ↓mif_e, ↓asrt_e, ↓eqs_e, ↓nes_e, Value.cells, add_lit, cell_psh_new, cell_drw, Nat.zero_add, Nat.reduceAdd, get4_0, get4_1, get4_2, get4_3, get3_0, get3_1, get3_2, get2_0, get2_1, get1_0, Option.some.injEq, exists_eq_left', decide_true, decide_false, decide_eq_true_eq, if_true, if_false, Bool.not_true, Bool.not_false, Bool.false_eq_true, Bool.true_eq_false, Bool.not_eq_true', decide_eq_false_iff_not, not_false_eq_true, not_true_eq_false, reduceCtorEq, bx_e, al_e, fa_e, ld_e, ad_e, su_e, mu_e, lt_e, le_e, gt_e, ge_e, eqi_e, nei_e, qu_e, re_e, cv_e, nt_e, pk_t, pk_f, pk_e, eqb_e, neb_e, nc_e, ex_e, lnl_e, lns_e, idv_e, cl_e, cnd_e, gd_e, gd_u, gdu_e, rt_e, jn_e, dr_q, kp_e, mnm_e, mxm_e, mif_e, asrt_e, eqs_e, nes_e, cond_true, cond_false, Bool.true_and, Bool.and_true, Bool.false_and, Bool.and_false, decide_not, Option.getD_some, Option.isSome_some, pv]
    refine st_box (hq.tm i hi) (by simp [tC]) rfl fun w1 h1 hu => ?_
    have e3 : (tC l[i] i).setIfInBounds 1 (.int .i64 till) = tC ⟨l[i].blk, l[i].id, till⟩ i := rfl
    rw [e3] at h1
    have hoff := map_off hq hm
    have hq1 : QR B w1 p (.map (some m)) qv (l.set i ⟨l[i].blk, l[i].id, till⟩) := by
      have hbk : ∀ k, k ≠ l[i].blk → w1.heap[k]? = w.heap[k]? := fun k hk => hu.block k hk
      have hmap : (l.set i ⟨l[i].blk, l[i].id, till⟩).map (·.blk) = l.map (·.blk) := by
        rw [List.map_set]
        apply List.ext_getElem?
        intro j
        rw [List.getElem?_set]
        by_cases ej : i = j
        · subst ej; simp [hi]
        · simp [ej]
      have hmap2 : (l.set i ⟨l[i].blk, l[i].id, till⟩).map (fun t => pv t.blk) = l.map (fun t => pv t.blk) := by
        have := congrArg (List.map pv) hmap
        rw [List.map_map, List.map_map] at this
        exact this
      refine ⟨?_, ?_, ?_, by rw [hmap]; exact hq.nd, hq.bp, ?_⟩
      · rw [hbk p (by intro e; have := hq.hp; rw [e, hq.tm i hi] at this; cases this)]; exact hq.hp
      · rw [hmap2]
        exact ownV_stay hq.own fun g hg => hbk g (by intro e; obtain ⟨_, _, cur, hc⟩ := ownV_lt hq.own g hg; rw [e, hq.tm i hi] at hc; cases hc)
      · intro j hj
        have hj' : j < l.length := by simpa using hj
        rw [List.getElem_set]
        split
        · rename_i ej; subst ej; exact h1
        · rename_i ej
          rw [hbk _ (nd_ne hq.nd hj' hi (Ne.symm ej))]
          exact hq.tm j hj'
      · intro t' ht2
        rcases List.mem_or_eq_of_mem_set ht2 with h | h
        · exact hq.bt t' h
        · rw [h]; exact hq.bt l[i] (List.getElem_mem hi)
    obtain ⟨f1, f2⟩ := fix_heap hh hi ⟨l[i].blk, l[i].id, till⟩
    have hfp : ∀ k, fpQ p qv (l.set i ⟨l[i].blk, l[i].id, till⟩) k ↔ fpQ p qv l k := by
      intro k
      unfold fpQ
      have : (l.set i ⟨l[i].blk, l[i].id, till⟩).map (·.blk) = l.map (·.blk) := by
        rw [List.map_set]
        apply List.ext_getElem?
        intro j
        rw [List.getElem?_set]
        by_cases ej : i = j
        · subst ej; simp [hi]
        · simp [ej]
      rw [this]
    have d0 : (drw w1).cell? ⟨p, 0, none⟩ = _ := cell_of_blk (n := 0) hq1.hp
    have d2 : (drw w1).cell? ⟨l[i].blk, 2, none⟩ = _ := cell_of_blk (n := 2) h1
    simp only [↓bx_e, ↓al_e, ↓fa_e, ↓ld_e, ↓ad_e, ↓su_e, ↓mu_e, ↓lt_e, ↓le_e, ↓gt_e, ↓ge_e, ↓eqi_e, ↓nei_e, ↓qu_e, ↓re_e, ↓cv_e, ↓nt_e, ↓pk_t, ↓pk_f, ↓pk_e, ↓eqb_e, ↓neb_e, ↓nc_e, ↓ex_e, ↓lnl_e, ↓lns_e, ↓idv_e, ↓cl_e, ↓cnd_e, ↓gd_e, ↓gd_u, ↓gdu_e, ↓rt_e, ↓jn_e, ↓dr_q, ↓kp_e, ↓mnm_e, ↓mxm_e, ↓mif_e, ↓asrt_e, ↓eqs_e, ↓nes_e, Value.cells, add_lit, cell_psh_new, cell_drw, Nat.zero_add, Nat.reduceAdd, get4_0, get4_1, get4_2, get4_3, get3_0, get3_1, get3_2, get2_0, get2_1, get1_0, Option.some.injEq, exists_eq_left', decide_true, decide_false, decide_eq_true_eq, if_true, if_false, Bool.not_true, Bool.not_false, Bool.false_eq_true, Bool.true_eq_false, Bool.not_eq_true', decide_eq_false_iff_not, not_false_eq_true, not_true_eq_false, reduceCtorEq, bx_e, al_e, fa_e, ld_e, ad_e, su_e, mu_e, lt_e, le_e, gt_e, ge_e, eqi_e, nei_e, qu_e, re_e, cv_e, nt_e, pk_t, pk_f, pk_e, eqb_e, neb_e, nc_e, ex_e, lnl_e, lns_e, idv_e, cl_e, cnd_e, gd_e, gd_u, gdu_e, rt_e, jn_e, dr_q, kp_e, mnm_e, mxm_e, mif_e, asrt_e, eqs_e, nes_e, cond_true, cond_false, Bool.true_and, Bool.and_true, Bool.false_and, Bool.and_false, decide_not, d2, tC]
    refine fix_s (p := p) (i := i) hq1.drw (by simpa using hi) (by simp; omega) fun w2 hq2 hc2 => ?_
    try simp only [↓bx_e, ↓al_e, ↓fa_e, ↓ld_e, ↓ad_e, ↓su_e, ↓mu_e, ↓lt_e, ↓le_e, ↓gt_e, ↓ge_e, ↓eqi_e, ↓nei_e, ↓qu_e, ↓re_e, ↓cv_e, ↓nt_e, ↓pk_t, ↓pk_f, ↓pk_e, ↓eqb_e, ↓neb_e, ↓nc_e, ↓ex_e, ↓lnl_e, ↓lns_e, ↓idv_e, ↓cl_e, ↓cnd_e, ↓gd_e, ↓gd_u, ↓gdu_e, ↓rt_e, ↓jn_e, ↓dr_q, ↓kp_e, ↓mnm_e, ↓mxm_e, ↓mif_e, ↓asrt_e, ↓eqs_e, ↓nes_e, Value.cells, add_lit, cell_psh_new, cell_drw, Nat.zero_add, Nat.reduceAdd, get4_0, get4_1, get4_2, get4_3, get3_0, get3_1, get3_2, get2_0, get2_1, get1_0, Option.some.injEq, exists_eq_left', decide_true, decide_false, decide_eq_true_eq, if_true, if_false, Bool.not_true, Bool.not_false, Bool.false_eq_true, Bool.true_eq_false, Bool.not_eq_true', decide_eq_false_iff_not, not_false_eq_true, not_true_eq_false, reduceCtorEq, bx_e, al_e, fa_e, ld_e, ad_e, su_e, mu_e, lt_e, le_e, gt_e, ge_e, eqi_e, nei_e, qu_e, re_e, cv_e, nt_e, pk_t, pk_f, pk_e, eqb_e, neb_e, nc_e, ex_e, lnl_e, lns_e, idv_e, cl_e, cnd_e, gd_e, gd_u, gdu_e, rt_e, jn_e, dr_q, kp_e, mnm_e, mxm_e, mif_e, asrt_e, eqs_e, nes_e, cond_true, cond_false, Bool.true_and, Bool.and_true, Bool.false_and, Bool.and_false, decide_not]
    have hlm : ChgS F w w2 := by
      have s1 : ChgS F w w1 := .of_upd hu ((hF _).2 (.inl (.inr (.inr (mem_blk hi)))))
      exact s1.trans hc2.of_drw (fun k _ hk => (hF k).2 (.inl ((hfp k).1 hk)))
    refine kk w2 F ⟨m, qv, _, L, hq2, ?_, ?_, hsr, ?_, ?_, hB, fun k => ?_⟩ hlm (fun k hk => .inl hk)
    · rw [f2.length_eq]; exact f1
    · refine (f2.map kp).trans ?_
      refine ((set_out hi _).map kp).trans ?_
      rw [List.map_cons]
      have h5 := rm_perm hp hs (take_out hi)
      rw [e] at h5
      have e6 : kp ⟨l[i].blk, l[i].id, till⟩ = (till, id) := by simp [kp, e]
      rw [e6]
      exact (h5.cons _).trans (ins_perm _ _).symm
    · refine hm.stay ?_
      rw [hc2.of_drw.block m (by rw [hu.size]; exact hm.lt) (fun hk => hoff ((hfp m).1 hk)), hu.block m (fun e => hoff (e ▸ .inr (.inr (mem_blk hi))))]
    · refine hL.trans ?_
      have : (l.set i ⟨l[i].blk, l[i].id, till⟩).map (fun t => (t.id, pv t.blk)) = l.map (fun t => (t.id, pv t.blk)) := by
        rw [List.map_set]
        apply List.ext_getElem?
        intro j
        rw [List.getElem?_set]
        by_cases ej : i = j
        · subst ej; simp [hi]
        · simp [ej]
      rw [← this]
      exact (f2.map _).symm
    · rw [hF, fpQ_perm f2, hfp]
  · rw [lk_no hL c]
    simp only [↓bx_e, ↓al_e, ↓fa_e, ↓ld_e, ↓ad_e, ↓su_e, ↓mu_e, ↓lt_e, ↓le_e, ↓gt_e, ↓ge_e, ↓eqi_e, ↓nei_e, ↓qu_e, ↓re_e, ↓cv_e, ↓nt_e, ↓pk_t, ↓pk_f, ↓pk_e, ↓eqb_e, ↓neb_e, ↓nc_e, ↓ex_e, ↓lnl_e, ↓lns_e, ↓idv_e, ↓cl_e, ↓cnd_e, ↓gd_e, ↓gd_u, ↓gdu_e, ↓rt_e, ↓jn_e, ↓dr_q, ↓kp_e, ↓mnm_e, ↓mxm_e, ↓mif_e, ↓asrt_e, ↓eqs_e, ↓nes_e, Value.cells, add_lit, cell_psh_new, cell_drw, Nat.zero_add, Nat.reduceAdd, get4_0, get4_1, get4_2, get4_3, get3_0, get3_1, get3_2, get2_0, get2_1, get1_0, Option.some.injEq, exists_eq_left', decide_true, decide_false, decide_eq_true_eq, if_true, if_false, Bool.not_true, Bool.not_false, Bool.false_eq_true, Bool.true_eq_false, Bool.not_eq_true', decide_eq_false_iff_not, not_false_eq_true, not_true_eq_false, reduceCtorEq, bx_e, al_e, fa_e, ld_e, ad_e, su_e, mu_e, lt_e, le_e, gt_e, ge_e, eqi_e, nei_e, qu_e, re_e, cv_e, nt_e, pk_t, pk_f, pk_e, eqb_e, neb_e, nc_e, ex_e, lnl_e, lns_e, idv_e, cl_e, cnd_e, gd_e, gd_u, gdu_e, rt_e, jn_e, dr_q, kp_e, mnm_e, mxm_e, mif_e, asrt_e, eqs_e, nes_e, cond_true, cond_false, Bool.true_and, Bool.and_true, Bool.false_and, Bool.and_false, decide_not, Option.getD_none, Option.isSome_none]
    rw [smr_run (build58 id till w)]
    try simp only [↓bx_e, ↓al_e, ↓fa_e, ↓ld_e, ↓ad_e, ↓su_e, ↓mu_e, ↓lt_e, ↓le_e, ↓gt_e, ↓ge_e, ↓eqi_e, ↓nei_e, ↓qu_e, ↓re_e, ↓cv_e, ↓nt_e, ↓pk_t, ↓pk_f, ↓pk_e, ↓eqb_e, ↓neb_e, ↓nc_e, ↓ex_e, ↓lnl_e, ↓lns_e, ↓idv_e, ↓cl_e, ↓cnd_e, ↓gd_e, ↓gd_u, ↓gdu_e, ↓rt_e, ↓jn_e, ↓dr_q, ↓kp_e, ↓mnm_e, ↓mxm_e, ↓mif_e, ↓asrt_e, ↓eqs_e, ↓nes_e, Value.cells, add_lit, cell_psh_new, cell_drw, Nat.zero_add, Nat.reduceAdd, get4_0, get4_1, get4_2, get4_3, get3_0, get3_1, get3_2, get2_0, get2_1, get1_0, Option.some.injEq, exists_eq_left', decide_true, decide_false, decide_eq_true_eq, if_true, if_false, Bool.not_true, Bool.not_false, Bool.false_eq_true, Bool.true_eq_false, Bool.not_eq_true', decide_eq_false_iff_not, not_false_eq_true, not_true_eq_false, reduceCtorEq, bx_e, al_e, fa_e, ld_e, ad_e, su_e, mu_e, lt_e, le_e, gt_e, ge_e, eqi_e, nei_e, qu_e, re_e, cv_e, nt_e, pk_t, pk_f, pk_e, eqb_e, neb_e, nc_e, ex_e, lnl_e, lns_e, idv_e, cl_e, cnd_e, gd_e, gd_u, gdu_e, rt_e, jn_e, dr_q, kp_e, mnm_e, mxm_e, mif_e, asrt_e, eqs_e, nes_e, cond_true, cond_false, Bool.true_and, Bool.and_true, Bool.false_and, Bool.and_false, decide_not]
    have htb := blk_psh_new (w := w) (o := .cells #[.int .i64 id, .int .i64 till, .int .i64 0] 58)
    have hb := b_psh w (.cells #[.int .i64 id, .int .i64 till, .int .i64 0] 58)
    have hq1 := hq.below hb
    have hm1 := hm.below hb
    have hoff := map_off hq hm
    generalize hw1 : psh w (.cells #[.int .i64 id, .int .i64 till, .int .i64 0] 58) = w1 at *
    have c1 := cell_of_blk (n := 1) hq1.hp
    try simp only [↓bx_e, ↓al_e, ↓fa_e, ↓ld_e, ↓ad_e, ↓su_e, ↓mu_e, ↓lt_e, ↓le_e, ↓gt_e, ↓ge_e, ↓eqi_e, ↓nei_e, ↓qu_e, ↓re_e, ↓cv_e, ↓nt_e, ↓pk_t, ↓pk_f, ↓pk_e, ↓eqb_e, ↓neb_e, ↓nc_e, ↓ex_e, ↓lnl_e, ↓lns_e, ↓idv_e, ↓cl_e, ↓cnd_e, ↓gd_e, ↓gd_u, ↓gdu_e, ↓rt_e, ↓jn_e, ↓dr_q, ↓kp_e, ↓mnm_e, ↓mxm_e, ↓mif_e, ↓asrt_e, ↓eqs_e, ↓nes_e, Value.cells, add_lit, cell_psh_new, cell_drw, Nat.zero_add, Nat.reduceAdd, get4_0, get4_1, get4_2, get4_3, get3_0, get3_1, get3_2, get2_0, get2_1, get1_0, Option.some.injEq, exists_eq_left', decide_true, decide_false, decide_eq_true_eq, if_true, if_false, Bool.not_true, Bool.not_false, Bool.false_eq_true, Bool.true_eq_false, Bool.not_eq_true', decide_eq_false_iff_not, not_false_eq_true, not_true_eq_false, reduceCtorEq, bx_e, al_e, fa_e, ld_e, ad_e, su_e, mu_e, lt_e, le_e, gt_e, ge_e, eqi_e, nei_e, qu_e, re_e, cv_e, nt_e, pk_t, pk_f, pk_e, eqb_e, neb_e, nc_e, ex_e, lnl_e, lns_e, idv_e, cl_e, cnd_e, gd_e, gd_u, gdu_e, rt_e, jn_e, dr_q, kp_e, mnm_e, mxm_e, mif_e, asrt_e, eqs_e, nes_e, cond_true, cond_false, Bool.true_and, Bool.and_true, Bool.false_and, Bool.and_false, decide_not, c1]
    refine upd_map kk50 hm1 id _ fun w2 hm2 hu2 => ?_
    have hoff1 := map_off hq1 hm1
    have hq2 : QR B w2 p (.map (some m)) qv l := hq1.stay fun k hk => hu2.block k (fun e => hoff1 (e ▸ hk))
    have ht2 : w2.heap[w.heap.size]? = some (.cells (tC ⟨w.heap.size, id, till⟩ 0) 58 (0, 0)) := by rw [hu2.block _ (by have := hm.lt; omega)]; exact htb
    have hs2 : w2.heap.size = w1.heap.size := hu2.size
    have hs1 := hb.size
    try simp only [↓bx_e, ↓al_e, ↓fa_e, ↓ld_e, ↓ad_e, ↓su_e, ↓mu_e, ↓lt_e, ↓le_e, ↓gt_e, ↓ge_e, ↓eqi_e, ↓nei_e, ↓qu_e, ↓re_e, ↓cv_e, ↓nt_e, ↓pk_t, ↓pk_f, ↓pk_e, ↓eqb_e, ↓neb_e, ↓nc_e, ↓ex_e, ↓lnl_e, ↓lns_e, ↓idv_e, ↓cl_e, ↓cnd_e, ↓gd_e, ↓gd_u, ↓gdu_e, ↓rt_e, ↓jn_e, ↓dr_q, ↓kp_e, ↓mnm_e, ↓mxm_e, ↓mif_e, ↓asrt_e, ↓eqs_e, ↓nes_e, Value.cells, add_lit, cell_psh_new, cell_drw, Nat.zero_add, Nat.reduceAdd, get4_0, get4_1, get4_2, get4_3, get3_0, get3_1, get3_2, get2_0, get2_1, get1_0, Option.some.injEq, exists_eq_left', decide_true, decide_false, decide_eq_true_eq, if_true, if_false, Bool.not_true, Bool.not_false, Bool.false_eq_true, Bool.true_eq_false, Bool.not_eq_true', decide_eq_false_iff_not, not_false_eq_true, not_true_eq_false, reduceCtorEq, bx_e, al_e, fa_e, ld_e, ad_e, su_e, mu_e, lt_e, le_e, gt_e, ge_e, eqi_e, nei_e, qu_e, re_e, cv_e, nt_e, pk_t, pk_f, pk_e, eqb_e, neb_e, nc_e, ex_e, lnl_e, lns_e, idv_e, cl_e, cnd_e, gd_e, gd_u, gdu_e, rt_e, jn_e, dr_q, kp_e, mnm_e, mxm_e, mif_e, asrt_e, eqs_e, nes_e, cond_true, cond_false, Bool.true_and, Bool.and_true, Bool.false_and, Bool.and_false, decide_not]
    refine hpush_s (t := ⟨w.heap.size, id, till⟩) (x := 0) hq2 ht2 (by have := hq.bp; have := blk_lt hq.hp; simp only; omega) (by
        intro hmem
        have := (hq.ge w.heap.size (.inr (.inr hmem))).2
        omega) (by omega) fun w3 qv3 hq3 hc3 hf3 => ?_
    try simp only [↓bx_e, ↓al_e, ↓fa_e, ↓ld_e, ↓ad_e, ↓su_e, ↓mu_e, ↓lt_e, ↓le_e, ↓gt_e, ↓ge_e, ↓eqi_e, ↓nei_e, ↓qu_e, ↓re_e, ↓cv_e, ↓nt_e, ↓pk_t, ↓pk_f, ↓pk_e, ↓eqb_e, ↓neb_e, ↓nc_e, ↓ex_e, ↓lnl_e, ↓lns_e, ↓idv_e, ↓cl_e, ↓cnd_e, ↓gd_e, ↓gd_u, ↓gdu_e, ↓rt_e, ↓jn_e, ↓dr_q, ↓kp_e, ↓mnm_e, ↓mxm_e, ↓mif_e, ↓asrt_e, ↓eqs_e, ↓nes_e, Value.cells, add_lit, cell_psh_new, cell_drw, Nat.zero_add, Nat.reduceAdd, get4_0, get4_1, get4_2, get4_3, get3_0, get3_1, get3_2, get2_0, get2_1, get1_0, Option.some.injEq, exists_eq_left', decide_true, decide_false, decide_eq_true_eq, if_true, if_false, Bool.not_true, Bool.not_false, Bool.false_eq_true, Bool.true_eq_false, Bool.not_eq_true', decide_eq_false_iff_not, not_false_eq_true, not_true_eq_false, reduceCtorEq, bx_e, al_e, fa_e, ld_e, ad_e, su_e, mu_e, lt_e, le_e, gt_e, ge_e, eqi_e, nei_e, qu_e, re_e, cv_e, nt_e, pk_t, pk_f, pk_e, eqb_e, neb_e, nc_e, ex_e, lnl_e, lns_e, idv_e, cl_e, cnd_e, gd_e, gd_u, gdu_e, rt_e, jn_e, dr_q, kp_e, mnm_e, mxm_e, mif_e, asrt_e, eqs_e, nes_e, cond_true, cond_false, Bool.true_and, Bool.and_true, Bool.false_and, Bool.and_false, decide_not]
    obtain ⟨f1, f2⟩ := push_heap hh ⟨w.heap.size, id, till⟩
    have f3 : (Hp.up ltT (l.length + 1) (l ++ [⟨w.heap.size, id, till⟩]) l.length).Perm (l ++ [⟨w.heap.size, id, till⟩]) := up_perm ltT _ _ _ (by simp)
    have hidn : id ∉ R.map (·.2) := fun hc => c ((kp_mem hp).2 hc)
    have hrm : rm R id = R := List.filter_eq_self.2 (fun y hy => by simpa using fun e : y.2 = id => hidn (List.mem_map.2 ⟨y, hy, e⟩))
    have hfp3 : ∀ k, fpQ p qv3 (Hp.up ltT (l.length + 1) (l ++ [⟨w.heap.size, id, till⟩]) l.length) k → fpQ p qv l k ∨ w.heap.size ≤ k := by
      intro k hk
      rw [fpQ_perm f3] at hk
      rcases hf3 k hk with h | h | h
      · exact .inl h
      · right; simp only at h; omega
      · right; omega
    refine kk w3 (fun k => fpQ p qv3 (Hp.up ltT (l.length + 1) (l ++ [⟨w.heap.size, id, till⟩]) l.length) k ∨ k = m) ⟨m, qv3, _, put L id (pv w.heap.size), hq3, ?_, ?_, hsr, ?_, ?_, hB, fun k => Iff.rfl⟩ ?_ ?_
    · rw [f2.length_eq]; exact f1
    · refine (f2.map kp).trans ?_
      rw [hrm, List.map_cons]
      exact (hp.cons _).trans (ins_perm _ _).symm
    · refine hm2.stay ?_
      refine hc3.block m hm2.lt ?_
      rintro (h | h)
      · exact hoff h
      · have := hm.lt; simp only at h; omega
    · have : ¬ id ∈ L.map (·.1) := by
        intro hc
        obtain ⟨q, hq', e⟩ := List.mem_map.1 hc
        exact lk_none.1 (lk_no hL c) q hq' e
      unfold put
      rw [if_neg this]
      refine (hL.append_right _).trans ?_
      refine List.perm_append_comm.trans ?_
      exact (f2.map (fun t => (t.id, pv t.blk))).symm
    · have s1 : ChgS F w w1 := .of_below hb
      have s2 : ChgS F w1 w2 := .of_upd hu2 ((hF m).2 (.inr rfl))
      refine (s1.trans s2 (fun _ _ h => h)).trans hc3 (fun k hk h => ?_)
      rcases h with h | h
      · exact (hF k).2 (.inl h)
      · simp only at h; omega
    · rintro k (h | rfl)
      · rcases hfp3 k h with h | h
        · exact .inl ((hF k).2 (.inl h))
        · exact .inr h
      · exact .inl ((hF _).2 (.inr rfl))
end
end Go.Proofs.Ytpjffilejnemmaa
