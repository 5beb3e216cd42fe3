/- What the functions of the retry layer come to. -/
import Derived.Test.YtoeimnflikbdbaaF0
set_option linter.unusedVariables false
set_option linter.unusedSimpArgs false
namespace Go.Proofs.Ytoeimnflikbdbaa
open Sh RowKit

def rightB (F M Fa T : Int) : Bool := decide (0 ≤ F) && decide (F ≤ M) && decide (M ≤ 1099511627776) && decide (1 ≤ Fa) && decide (Fa ≤ 16) && decide (1 ≤ T) && decide (T ≤ 64)
def planC (F M Fa T : Int) : Array Value := #[.int .i64 F, .int .i64 M, .int .i64 Fa, .int .i64 T]
def planV (F M Fa T : Int) : Value := .agg (planC F M Fa T)
theorem rightB_t {F M Fa T : Int} : rightB F M Fa T = true ↔ 0 ≤ F ∧ F ≤ M ∧ M ≤ 1099511627776 ∧ 1 ≤ Fa ∧ Fa ≤ 16 ∧ 1 ≤ T ∧ T ≤ 64 := by
  simp [rightB, and_assoc]

theorem q_cong {Q : Value → World → Prop} {w : World} {b c : Bool} (h : b = c) (hq : Q (.bool b) w) : Q (.bool c) w := h ▸ hq
theorem f14_s (F M Fa T : Int) (w : World) (Q : Value → World → Prop) (h : ∀ w', Below w.heap.size w w' → Q (.bool (rightB F M Fa T)) w') : f14 (planV F M Fa T) w Q := by
  have hb := h _ (Below_psh (Below.refl _ w) (Nat.le_refl _) : Below w.heap.size w (psh w (.cells (planC F M Fa T) 29)))
  unfold f14 planV
  unfold planC at *
  clear h
  repeat' (first | (simp only [↓bx_e, ↓al_e, ↓fa_e, ↓ld_e, ↓ad_e, ↓su_e, ↓mu_e, ↓lt_e, ↓le_e, ↓gt_e, ↓ge_e, ↓eqi_e, ↓nei_e, ↓qu_e, ↓re_e, ↓cv_e, ↓nt_e, ↓pk_t, ↓pk_f, ↓pk_e, ↓eqb_e, ↓neb_e, ↓nc_e, ↓ex_e, ↓lnl_e, ↓lns_e, ↓idv_e, ↓cl_e, ↓cnd_e, ↓gd_e, ↓gd_u, ↓gdu_e, ↓rt_e, ↓jn_e, ↓dr_q, ↓kp_e, ↓mnm_e, ↓mxm_e, ↓mif_e, ↓asrt_e, ↓eqs_e, ↓nes_e, Value.cells, add_lit, cell_psh_new, cell_drw, Nat.zero_add, Nat.reduceAdd, get4_0, get4_1, get4_2, get4_3, get3_0, get3_1, get3_2, get2_0, get2_1, get1_0, Option.some.injEq, exists_eq_left', decide_true, decide_false, decide_eq_true_eq, if_true, if_false, Bool.not_true, Bool.not_false, Bool.false_eq_true, Bool.true_eq_false, Bool.not_eq_true', decide_eq_false_iff_not, not_false_eq_true, not_true_eq_false, reduceCtorEq, bx_e, al_e, fa_e, ld_e, ad_e, su_e, mu_e, lt_e, le_e, gt_e, ge_e, eqi_e, nei_e, qu_e, re_e, cv_e, nt_e, pk_t, pk_f, pk_e, eqb_e, neb_e, nc_e, ex_e, lnl_e, lns_e, idv_e, cl_e, cnd_e, gd_e, gd_u, gdu_e, rt_e, jn_e, dr_q, kp_e, mnm_e, mxm_e, mif_e, asrt_e, eqs_e, nes_e, cond_true, cond_false, Bool.true_and, Bool.and_true, Bool.false_and, Bool.and_false, decide_not, *]; done) | (simp only [↓bx_e, ↓al_e, ↓fa_e, ↓ld_e, ↓ad_e, ↓su_e, ↓mu_e, ↓lt_e, ↓le_e, ↓gt_e, ↓ge_e, ↓eqi_e, ↓nei_e, ↓qu_e, ↓re_e, ↓cv_e, ↓nt_e, ↓pk_t, ↓pk_f, ↓pk_e, ↓eqb_e, ↓neb_e, ↓nc_e, ↓ex_e, ↓lnl_e, ↓lns_e, ↓idv_e, ↓cl_e, ↓cnd_e, ↓gd_e, ↓gd_u, ↓gdu_e, ↓rt_e, ↓jn_e, ↓dr_q, ↓kp_e, ↓mnm_e, ↓mxm_e, ↓mif_e, ↓asrt_e, ↓eqs_e, ↓nes_e, Value.cells, add_lit, cell_psh_new, cell_drw, Nat.zero_add, Nat.reduceAdd, get4_0, get4_1, get4_2, get4_3, get3_0, get3_1, get3_2, get2_0, get2_1, get1_0, Option.some.injEq, exists_eq_left', decide_true, decide_false, decide_eq_true_eq, if_true, if_false, Bool.not_true, Bool.not_false, Bool.false_eq_true, Bool.true_eq_false, Bool.not_eq_true', decide_eq_false_iff_not, not_false_eq_true, not_true_eq_false, reduceCtorEq, bx_e, al_e, fa_e, ld_e, ad_e, su_e, mu_e, lt_e, le_e, gt_e, ge_e, eqi_e, nei_e, qu_e, re_e, cv_e, nt_e, pk_t, pk_f, pk_e, eqb_e, neb_e, nc_e, ex_e, lnl_e, lns_e, idv_e, cl_e, cnd_e, gd_e, gd_u, gdu_e, rt_e, jn_e, dr_q, kp_e, mnm_e, mxm_e, mif_e, asrt_e, eqs_e, nes_e, cond_true, cond_false, Bool.true_and, Bool.and_true, Bool.false_and, Bool.and_false, decide_not, *]) | split)
  all_goals (refine q_cong ?_ hb; rw [Bool.eq_iff_iff]; simp [rightB]; try omega)

/-- reading a struct of four cells out of its box -/
theorem rds4 {w : World} {b : Nat} {c : Array Value} {t : TypeId} {fr : Nat × Nat} (h : w.heap[b]? = some (.cells c t fr)) : rds w ⟨b, 0, none⟩ c :=
  rds_of_blk h (fun j v hj => by simpa using hj)
theorem ldn_box {n b : Nat} {w : World} {c : Array Value} {t : TypeId} {fr : Nat × Nat} {K : Value → M} {Q : Value → World → Prop} (h : w.heap[b]? = some (.cells c t fr)) (hn : c.size = n) (k : K (.agg c) w Q) : ldn n (.pointer (some ⟨b, 0, none⟩)) K w Q :=
  ⟨_, c, rfl, hn, rds4 h, k⟩

def mn (x M : Int) : Int := if M < x then M else x
def wl (M Fa : Int) : Nat → Int → List Int
  | 0, _ => []
  | n + 1, x => x :: wl M Fa n (mn (x * Fa) M)
theorem wl_len (M Fa : Int) : ∀ n x, (wl M Fa n x).length = n
  | 0, _ => rfl
  | n + 1, x => by simp [wl, wl_len M Fa n]
theorem mn_bd {x M Fa : Int} (h0 : 0 ≤ x) (h1 : x ≤ M) (hF : 1 ≤ Fa) : 0 ≤ mn (x * Fa) M ∧ mn (x * Fa) M ≤ M := by
  have : 0 ≤ x * Fa := Int.mul_nonneg h0 (by omega)
  unfold mn; split <;> omega
theorem mul_wrap {x M Fa : Int} (h0 : 0 ≤ x) (h1 : x ≤ M) (hM : M ≤ 1099511627776) (hF : 1 ≤ Fa) (hF2 : Fa ≤ 16) : IntKind.i64.wrap (x * Fa) = x * Fa := by
  have a : 0 ≤ x * Fa := Int.mul_nonneg h0 (by omega)
  have b : x * Fa ≤ 1099511627776 * 16 := Int.mul_le_mul (by omega) hF2 (by omega) (by omega)
  unfold IntKind.wrap
  simp [IntKind.signed, IntKind.bits]
  omega

theorem waits_loop (j1 : Value → M) {F M Fa T : Int} (hM : M ≤ 1099511627776) (h1 : 1 ≤ Fa) (h2 : Fa ≤ 16) (hT : T ≤ 64) {B p : Nat} {fr : Nat × Nat} (hpB : p < B) {Q : Value → World → Prop} :
    ∀ (d n : Nat) (l : List Int) (x : Int) (v : Value) (w : World), w.heap[p]? = some (.cells (planC F M Fa T) 29 fr) → B ≤ w.heap.size → ownI B 2 .i64 w v l → (l.length : Int) + d = T → 0 ≤ x → x ≤ M → d < n →
      (∀ v' w', ownI B 2 .i64 w' v' (l ++ wl M Fa d x) → Below B w w' → j1 v' w' Q) →
      itr (fun _ _ _ => bot) (f20_b2 j1) n (.pointer (some ⟨p, 0, none⟩)) v (.int .i64 x) w Q := by
  intro d
  induction d with
  | zero =>
    intro n l x v w hp hB hown hl h0 hx hn k
    obtain ⟨n, rfl⟩ : ∃ m, n = m + 1 := ⟨n - 1, by omega⟩
    obtain ⟨a, c, rfl, _⟩ := ownI_len hown
    show f20_b2 j1 _ _ _ _ w Q
    unfold f20_b2
    have hc := cell_of_blk (n := 3) hp
    have : ¬ (l.length : Int) < T := by omega
    simp only [↓bx_e, ↓al_e, ↓fa_e, ↓ld_e, ↓ad_e, ↓su_e, ↓mu_e, ↓lt_e, ↓le_e, ↓gt_e, ↓ge_e, ↓eqi_e, ↓nei_e, ↓qu_e, ↓re_e, ↓cv_e, ↓nt_e, ↓pk_t, ↓pk_f, ↓pk_e, ↓eqb_e, ↓neb_e, ↓nc_e, ↓ex_e, ↓lnl_e, ↓lns_e, ↓idv_e, ↓cl_e, ↓cnd_e, ↓gd_e, ↓gd_u, ↓gdu_e, ↓rt_e, ↓jn_e, ↓dr_q, ↓kp_e, ↓mnm_e, ↓mxm_e, ↓mif_e, ↓asrt_e, ↓eqs_e, ↓nes_e, Value.cells, add_lit, cell_psh_new, cell_drw, Nat.zero_add, Nat.reduceAdd, get4_0, get4_1, get4_2, get4_3, get3_0, get3_1, get3_2, get2_0, get2_1, get1_0, Option.some.injEq, exists_eq_left', decide_true, decide_false, decide_eq_true_eq, if_true, if_false, Bool.not_true, Bool.not_false, Bool.false_eq_true, Bool.true_eq_false, Bool.not_eq_true', decide_eq_false_iff_not, not_false_eq_true, not_true_eq_false, reduceCtorEq, bx_e, al_e, fa_e, ld_e, ad_e, su_e, mu_e, lt_e, le_e, gt_e, ge_e, eqi_e, nei_e, qu_e, re_e, cv_e, nt_e, pk_t, pk_f, pk_e, eqb_e, neb_e, nc_e, ex_e, lnl_e, lns_e, idv_e, cl_e, cnd_e, gd_e, gd_u, gdu_e, rt_e, jn_e, dr_q, kp_e, mnm_e, mxm_e, mif_e, asrt_e, eqs_e, nes_e, cond_true, cond_false, Bool.true_and, Bool.and_true, Bool.false_and, Bool.and_false, decide_not, hc, planC, this]
    exact k _ _ (by simpa [wl] using hown) (Below.refl _ _)
  | succ d ih =>
    intro n l x v w hp hB hown hl h0 hx hn k
    obtain ⟨n, rfl⟩ : ∃ m, n = m + 1 := ⟨n - 1, by omega⟩
    obtain ⟨a, c, rfl, _⟩ := ownI_len hown
    show f20_b2 j1 _ _ _ _ w Q
    unfold f20_b2
    have hc := cell_of_blk (n := 3) hp
    have hlt : (l.length : Int) < T := by omega
    have hps : p < w.heap.size := Nat.lt_of_lt_of_le hpB hB
    simp only [↓bx_e, ↓al_e, ↓fa_e, ↓ld_e, ↓ad_e, ↓su_e, ↓mu_e, ↓lt_e, ↓le_e, ↓gt_e, ↓ge_e, ↓eqi_e, ↓nei_e, ↓qu_e, ↓re_e, ↓cv_e, ↓nt_e, ↓pk_t, ↓pk_f, ↓pk_e, ↓eqb_e, ↓neb_e, ↓nc_e, ↓ex_e, ↓lnl_e, ↓lns_e, ↓idv_e, ↓cl_e, ↓cnd_e, ↓gd_e, ↓gd_u, ↓gdu_e, ↓rt_e, ↓jn_e, ↓dr_q, ↓kp_e, ↓mnm_e, ↓mxm_e, ↓mif_e, ↓asrt_e, ↓eqs_e, ↓nes_e, Value.cells, add_lit, cell_psh_new, cell_drw, Nat.zero_add, Nat.reduceAdd, get4_0, get4_1, get4_2, get4_3, get3_0, get3_1, get3_2, get2_0, get2_1, get1_0, Option.some.injEq, exists_eq_left', decide_true, decide_false, decide_eq_true_eq, if_true, if_false, Bool.not_true, Bool.not_false, Bool.false_eq_true, Bool.true_eq_false, Bool.not_eq_true', decide_eq_false_iff_not, not_false_eq_true, not_true_eq_false, reduceCtorEq, bx_e, al_e, fa_e, ld_e, ad_e, su_e, mu_e, lt_e, le_e, gt_e, ge_e, eqi_e, nei_e, qu_e, re_e, cv_e, nt_e, pk_t, pk_f, pk_e, eqb_e, neb_e, nc_e, ex_e, lnl_e, lns_e, idv_e, cl_e, cnd_e, gd_e, gd_u, gdu_e, rt_e, jn_e, dr_q, kp_e, mnm_e, mxm_e, mif_e, asrt_e, eqs_e, nes_e, cond_true, cond_false, Bool.true_and, Bool.and_true, Bool.false_and, Bool.and_false, decide_not, hc, planC, hlt]
    refine bsl1 slt25 rfl rfl ?_
    have hown1 := ownI_psh hown (.cells #[.int .i64 x] 2)
    refine ap_own (m := 1) (news := [.int .i64 x]) slt25 rfl (by decide) hown1 rfl ?_ (by simp [Value.oneCell']) (by unfold maxLen; omega) (by omega) (by rw [size_psh]; omega) ?_
    · intro j u hj
      rw [add_lit, Nat.zero_add, cell_psh_new]
      simpa using hj
    · intro v' w' ho hg
      have hB1 : B ≤ (psh w (.cells #[.int .i64 x] 2)).heap.size := by rw [size_psh]; omega
      have hb1 : Below B w (psh w (.cells #[.int .i64 x] 2)) := Below_psh (Below.refl _ _) hB
      have hb2 : Below B w w' := Below_grown hb1 hown1 hB1 hg
      have hp' : w'.heap[p]? = some (.cells (planC F M Fa T) 29 fr) := by rw [hb2.block p hpB]; exact hp
      have hc1 := cell_of_blk (n := 1) hp'
      have hc2 := cell_of_blk (n := 2) hp'
      simp only [↓bx_e, ↓al_e, ↓fa_e, ↓ld_e, ↓ad_e, ↓su_e, ↓mu_e, ↓lt_e, ↓le_e, ↓gt_e, ↓ge_e, ↓eqi_e, ↓nei_e, ↓qu_e, ↓re_e, ↓cv_e, ↓nt_e, ↓pk_t, ↓pk_f, ↓pk_e, ↓eqb_e, ↓neb_e, ↓nc_e, ↓ex_e, ↓lnl_e, ↓lns_e, ↓idv_e, ↓cl_e, ↓cnd_e, ↓gd_e, ↓gd_u, ↓gdu_e, ↓rt_e, ↓jn_e, ↓dr_q, ↓kp_e, ↓mnm_e, ↓mxm_e, ↓mif_e, ↓asrt_e, ↓eqs_e, ↓nes_e, Value.cells, add_lit, cell_psh_new, cell_drw, Nat.zero_add, Nat.reduceAdd, get4_0, get4_1, get4_2, get4_3, get3_0, get3_1, get3_2, get2_0, get2_1, get1_0, Option.some.injEq, exists_eq_left', decide_true, decide_false, decide_eq_true_eq, if_true, if_false, Bool.not_true, Bool.not_false, Bool.false_eq_true, Bool.true_eq_false, Bool.not_eq_true', decide_eq_false_iff_not, not_false_eq_true, not_true_eq_false, reduceCtorEq, bx_e, al_e, fa_e, ld_e, ad_e, su_e, mu_e, lt_e, le_e, gt_e, ge_e, eqi_e, nei_e, qu_e, re_e, cv_e, nt_e, pk_t, pk_f, pk_e, eqb_e, neb_e, nc_e, ex_e, lnl_e, lns_e, idv_e, cl_e, cnd_e, gd_e, gd_u, gdu_e, rt_e, jn_e, dr_q, kp_e, mnm_e, mxm_e, mif_e, asrt_e, eqs_e, nes_e, cond_true, cond_false, Bool.true_and, Bool.and_true, Bool.false_and, Bool.and_false, decide_not, hc1, hc2, planC, mul_wrap h0 hx hM h1 h2]
      have hm := mn_bd (Fa := Fa) h0 hx h1
      have hown' : ownI B 2 .i64 w' v' (l ++ [x]) := by
        have : (l ++ [x]).length = l.length + 1 := by simp
        unfold ownI; rw [this]; simpa using ho
      refine ih n (l ++ [x]) (mn (x * Fa) M) v' w' hp' (Nat.le_trans hB hb2.size) hown' (by simp; omega) hm.1 hm.2 (by omega) ?_
      intro v2 w2 ho2 hbl2
      exact k v2 w2 (by simpa [wl] using ho2) (hb2.trans hbl2)

/-- the waits of a plan that may be -/
def waitsL (F M Fa T : Int) : List Int := if rightB F M Fa T = true then 0 :: wl M Fa (T.toNat - 1) F else []

theorem f20_s (F M Fa T : Int) (w : World) (Q : Value → World → Prop) (h : ∀ v w', ownI w.heap.size 2 .i64 w' v (waitsL F M Fa T) → Below w.heap.size w w' → Q v w') : f20 (planV F M Fa T) w Q := by
  unfold f20
  have hbx : Below w.heap.size w (psh w (.cells (planC F M Fa T) 29)) := Below_psh (Below.refl _ w) (Nat.le_refl _)
  simp only [↓bx_e]
  refine ldn_box blk_psh_new rfl ?_
  rw [cl_e]
  refine f14_s F M Fa T _ _ fun w1 hb1 => ?_
  have hp1 : w1.heap[w.heap.size]? = some (.cells (planC F M Fa T) 29) := by rw [hb1.block _ (by rw [size_psh]; omega)]; exact blk_psh_new
  have hs1 : w.heap.size + 1 ≤ w1.heap.size := by have := hb1.size; rw [size_psh] at this; exact this
  have hbw : Below w.heap.size w w1 := hbx.trans (hb1.mono (by rw [size_psh]; omega))
  cases hR : rightB F M Fa T with
  | false =>
    simp only [↓bx_e, ↓al_e, ↓fa_e, ↓ld_e, ↓ad_e, ↓su_e, ↓mu_e, ↓lt_e, ↓le_e, ↓gt_e, ↓ge_e, ↓eqi_e, ↓nei_e, ↓qu_e, ↓re_e, ↓cv_e, ↓nt_e, ↓pk_t, ↓pk_f, ↓pk_e, ↓eqb_e, ↓neb_e, ↓nc_e, ↓ex_e, ↓lnl_e, ↓lns_e, ↓idv_e, ↓cl_e, ↓cnd_e, ↓gd_e, ↓gd_u, ↓gdu_e, ↓rt_e, ↓jn_e, ↓dr_q, ↓kp_e, ↓mnm_e, ↓mxm_e, ↓mif_e, ↓asrt_e, ↓eqs_e, ↓nes_e, Value.cells, add_lit, cell_psh_new, cell_drw, Nat.zero_add, Nat.reduceAdd, get4_0, get4_1, get4_2, get4_3, get3_0, get3_1, get3_2, get2_0, get2_1, get1_0, Option.some.injEq, exists_eq_left', decide_true, decide_false, decide_eq_true_eq, if_true, if_false, Bool.not_true, Bool.not_false, Bool.false_eq_true, Bool.true_eq_false, Bool.not_eq_true', decide_eq_false_iff_not, not_false_eq_true, not_true_eq_false, reduceCtorEq, bx_e, al_e, fa_e, ld_e, ad_e, su_e, mu_e, lt_e, le_e, gt_e, ge_e, eqi_e, nei_e, qu_e, re_e, cv_e, nt_e, pk_t, pk_f, pk_e, eqb_e, neb_e, nc_e, ex_e, lnl_e, lns_e, idv_e, cl_e, cnd_e, gd_e, gd_u, gdu_e, rt_e, jn_e, dr_q, kp_e, mnm_e, mxm_e, mif_e, asrt_e, eqs_e, nes_e, cond_true, cond_false, Bool.true_and, Bool.and_true, Bool.false_and, Bool.and_false, decide_not]
    refine h _ _ ?_ hbw
    simp only [waitsL, hR]; exact ownI_nil
  | true =>
    obtain ⟨r1, r2, r3, r4, r5, r6, r7⟩ := rightB_t.1 hR
    simp only [↓bx_e, ↓al_e, ↓fa_e, ↓ld_e, ↓ad_e, ↓su_e, ↓mu_e, ↓lt_e, ↓le_e, ↓gt_e, ↓ge_e, ↓eqi_e, ↓nei_e, ↓qu_e, ↓re_e, ↓cv_e, ↓nt_e, ↓pk_t, ↓pk_f, ↓pk_e, ↓eqb_e, ↓neb_e, ↓nc_e, ↓ex_e, ↓lnl_e, ↓lns_e, ↓idv_e, ↓cl_e, ↓cnd_e, ↓gd_e, ↓gd_u, ↓gdu_e, ↓rt_e, ↓jn_e, ↓dr_q, ↓kp_e, ↓mnm_e, ↓mxm_e, ↓mif_e, ↓asrt_e, ↓eqs_e, ↓nes_e, Value.cells, add_lit, cell_psh_new, cell_drw, Nat.zero_add, Nat.reduceAdd, get4_0, get4_1, get4_2, get4_3, get3_0, get3_1, get3_2, get2_0, get2_1, get1_0, Option.some.injEq, exists_eq_left', decide_true, decide_false, decide_eq_true_eq, if_true, if_false, Bool.not_true, Bool.not_false, Bool.false_eq_true, Bool.true_eq_false, Bool.not_eq_true', decide_eq_false_iff_not, not_false_eq_true, not_true_eq_false, reduceCtorEq, bx_e, al_e, fa_e, ld_e, ad_e, su_e, mu_e, lt_e, le_e, gt_e, ge_e, eqi_e, nei_e, qu_e, re_e, cv_e, nt_e, pk_t, pk_f, pk_e, eqb_e, neb_e, nc_e, ex_e, lnl_e, lns_e, idv_e, cl_e, cnd_e, gd_e, gd_u, gdu_e, rt_e, jn_e, dr_q, kp_e, mnm_e, mxm_e, mif_e, asrt_e, eqs_e, nes_e, cond_true, cond_false, Bool.true_and, Bool.and_true, Bool.false_and, Bool.and_false, decide_not]
    refine bsl1 slt25 rfl rfl ?_
    have hp2 : (psh w1 (.cells #[.int .i64 0] 2)).heap[w.heap.size]? = some (.cells (planC F M Fa T) 29) := by rw [blk_psh_old (by omega)]; exact hp1
    have hc0 := cell_of_blk (n := 0) hp2
    simp only [↓bx_e, ↓al_e, ↓fa_e, ↓ld_e, ↓ad_e, ↓su_e, ↓mu_e, ↓lt_e, ↓le_e, ↓gt_e, ↓ge_e, ↓eqi_e, ↓nei_e, ↓qu_e, ↓re_e, ↓cv_e, ↓nt_e, ↓pk_t, ↓pk_f, ↓pk_e, ↓eqb_e, ↓neb_e, ↓nc_e, ↓ex_e, ↓lnl_e, ↓lns_e, ↓idv_e, ↓cl_e, ↓cnd_e, ↓gd_e, ↓gd_u, ↓gdu_e, ↓rt_e, ↓jn_e, ↓dr_q, ↓kp_e, ↓mnm_e, ↓mxm_e, ↓mif_e, ↓asrt_e, ↓eqs_e, ↓nes_e, Value.cells, add_lit, cell_psh_new, cell_drw, Nat.zero_add, Nat.reduceAdd, get4_0, get4_1, get4_2, get4_3, get3_0, get3_1, get3_2, get2_0, get2_1, get1_0, Option.some.injEq, exists_eq_left', decide_true, decide_false, decide_eq_true_eq, if_true, if_false, Bool.not_true, Bool.not_false, Bool.false_eq_true, Bool.true_eq_false, Bool.not_eq_true', decide_eq_false_iff_not, not_false_eq_true, not_true_eq_false, reduceCtorEq, bx_e, al_e, fa_e, ld_e, ad_e, su_e, mu_e, lt_e, le_e, gt_e, ge_e, eqi_e, nei_e, qu_e, re_e, cv_e, nt_e, pk_t, pk_f, pk_e, eqb_e, neb_e, nc_e, ex_e, lnl_e, lns_e, idv_e, cl_e, cnd_e, gd_e, gd_u, gdu_e, rt_e, jn_e, dr_q, kp_e, mnm_e, mxm_e, mif_e, asrt_e, eqs_e, nes_e, cond_true, cond_false, Bool.true_and, Bool.and_true, Bool.false_and, Bool.and_false, decide_not, hc0, planC]
    refine ⟨T.toNat + 1, ?_⟩
    refine waits_loop (B := w.heap.size + 1) (F := F) (T := T) _ r3 r4 r5 r7 (by omega) (T.toNat - 1) (T.toNat + 1) [0] F _ _ hp2 (by rw [size_psh]; omega) ?_ (by simp; omega) r1 r2 (by omega) ?_
    · exact ownI_lit (l := [0]) (by omega) (by decide)
    · intro v' w' ho hb
      unfold f20_j1
      rw [rt_e]
      have hbb : Below w.heap.size w w' := hbw.trans ((Below_psh (Below.refl _ w1) hbw.size).trans (hb.mono (by omega)))
      refine h _ _ ?_ hbb
      simp only [waitsL, hR, if_true]
      have e : [0] ++ wl M Fa (T.toNat - 1) F = 0 :: wl M Fa (T.toNat - 1) F := rfl
      rw [e] at ho
      obtain ⟨o1, o2⟩ := ho
      refine ⟨o1, o2.imp id ?_⟩
      rintro ⟨g, cap, cur, q1, q2, q3⟩
      exact ⟨g, cap, cur, q1, by omega, q3⟩
end Go.Proofs.Ytoeimnflikbdbaa
