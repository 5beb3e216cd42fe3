/- The greatest number that both are multiples of; a number's inverse; where two rounds meet. -/
import Derived.Test.YtnckcgpmidgggaaC0
set_option linter.unusedVariables false
set_option linter.unusedSimpArgs false
namespace Go.Proofs.Ytnckcgpmidgggaa
open Sh RowKit

theorem gcd_loop (j1 : Value → M) {Q : Value → World → Prop} {w0 : World} : ∀ (b a n : Nat), b < n → a ≤ 1099511627776 → b ≤ 1099511627776 → ∀ w, Below w0.heap.size w0 w → (∀ w', Below w0.heap.size w0 w' → j1 (.int .i64 (Nat.gcd a b : Nat)) w' Q) →
    itr (fun _ _ => bot) (f26_b2 j1) n (.int .i64 a) (.int .i64 b) w Q := by
  intro b
  induction b using Nat.strongRecOn with
  | _ b ih =>
    intro a n hn ha hb w hw k
    obtain ⟨n, rfl⟩ : ∃ m, n = m + 1 := ⟨n - 1, by omega⟩
    show f26_b2 j1 _ _ _ w Q
    unfold f26_b2
    by_cases c : b = 0
    · subst c
      simp only [↓bx_e, ↓al_e, ↓fa_e, ↓ld_e, ↓ad_e, ↓su_e, ↓mu_e, ↓lt_e, ↓le_e, ↓gt_e, ↓ge_e, ↓eqi_e, ↓nei_e, ↓qu_e, ↓re_e, ↓cv_e, ↓nt_e, ↓pk_t, ↓pk_f, ↓pk_e, ↓eqb_e, ↓neb_e, ↓nc_e, ↓ex_e, ↓lnl_e, ↓lns_e, ↓idv_e, ↓cl_e, ↓cnd_e, ↓gd_e, ↓gd_u, ↓gdu_e, ↓rt_e, ↓jn_e, ↓dr_q, ↓kp_e, ↓mnm_e, ↓mxm_e, ↓mif_e, ↓asrt_e, ↓eqs_e, ↓nes_e, Value.cells, add_lit, cell_psh_new, cell_drw, Nat.zero_add, Nat.reduceAdd, get4_0, get4_1, get4_2, get4_3, get3_0, get3_1, get3_2, get2_0, get2_1, get1_0, Option.some.injEq, exists_eq_left', decide_true, decide_false, decide_eq_true_eq, if_true, if_false, Bool.not_true, Bool.not_false, Bool.false_eq_true, Bool.true_eq_false, Bool.not_eq_true', decide_eq_false_iff_not, not_false_eq_true, not_true_eq_false, reduceCtorEq, bx_e, al_e, fa_e, ld_e, ad_e, su_e, mu_e, lt_e, le_e, gt_e, ge_e, eqi_e, nei_e, qu_e, re_e, cv_e, nt_e, pk_t, pk_f, pk_e, eqb_e, neb_e, nc_e, ex_e, lnl_e, lns_e, idv_e, cl_e, cnd_e, gd_e, gd_u, gdu_e, rt_e, jn_e, dr_q, kp_e, mnm_e, mxm_e, mif_e, asrt_e, eqs_e, nes_e, cond_true, cond_false, Bool.true_and, Bool.and_true, Bool.false_and, Bool.and_false, decide_not, Int.natCast_zero, ne_eq, not_true_eq_false]
      rw [Nat.gcd_zero_right] at k
      exact k _ hw
    · have hne : ¬ (b : Int) = 0 := by omega
      have hlt := Nat.mod_lt a (show 0 < b by omega)
      have e : (a : Int).tmod b = ((a % b : Nat) : Int) := by rw [Int.tmod_eq_emod_of_nonneg (by omega)]; rfl
      simp only [↓bx_e, ↓al_e, ↓fa_e, ↓ld_e, ↓ad_e, ↓su_e, ↓mu_e, ↓lt_e, ↓le_e, ↓gt_e, ↓ge_e, ↓eqi_e, ↓nei_e, ↓qu_e, ↓re_e, ↓cv_e, ↓nt_e, ↓pk_t, ↓pk_f, ↓pk_e, ↓eqb_e, ↓neb_e, ↓nc_e, ↓ex_e, ↓lnl_e, ↓lns_e, ↓idv_e, ↓cl_e, ↓cnd_e, ↓gd_e, ↓gd_u, ↓gdu_e, ↓rt_e, ↓jn_e, ↓dr_q, ↓kp_e, ↓mnm_e, ↓mxm_e, ↓mif_e, ↓asrt_e, ↓eqs_e, ↓nes_e, Value.cells, add_lit, cell_psh_new, cell_drw, Nat.zero_add, Nat.reduceAdd, get4_0, get4_1, get4_2, get4_3, get3_0, get3_1, get3_2, get2_0, get2_1, get1_0, Option.some.injEq, exists_eq_left', decide_true, decide_false, decide_eq_true_eq, if_true, if_false, Bool.not_true, Bool.not_false, Bool.false_eq_true, Bool.true_eq_false, Bool.not_eq_true', decide_eq_false_iff_not, not_false_eq_true, not_true_eq_false, reduceCtorEq, bx_e, al_e, fa_e, ld_e, ad_e, su_e, mu_e, lt_e, le_e, gt_e, ge_e, eqi_e, nei_e, qu_e, re_e, cv_e, nt_e, pk_t, pk_f, pk_e, eqb_e, neb_e, nc_e, ex_e, lnl_e, lns_e, idv_e, cl_e, cnd_e, gd_e, gd_u, gdu_e, rt_e, jn_e, dr_q, kp_e, mnm_e, mxm_e, mif_e, asrt_e, eqs_e, nes_e, cond_true, cond_false, Bool.true_and, Bool.and_true, Bool.false_and, Bool.and_false, decide_not, ne_eq, hne, not_false_eq_true, true_and, e]
      refine ih (a % b) hlt b n (by omega) (by omega) (by omega) _ (Below_drw hw) ?_
      intro w' hw'
      have : Nat.gcd b (a % b) = Nat.gcd a b := by rw [Nat.gcd_comm b, ← Nat.gcd_rec, Nat.gcd_comm]
      rw [this]
      exact k w' hw'
theorem f26_s (a b : Nat) (ha : a ≤ 1099511627776) (hb : b ≤ 1099511627776) (w : World) (Q : Value → World → Prop) (h : ∀ w', Below w.heap.size w w' → Q (.int .i64 (Nat.gcd a b : Nat)) w') : f26 (.int .i64 a) (.int .i64 b) w Q := by
  unfold f26
  rw [jn_e]
  refine ⟨_, gcd_loop _ b a _ (Nat.lt_succ_self _) ha hb w (Below.refl _ _) ?_⟩
  intro w' hw'
  unfold f26_j1
  rw [rt_e]
  exact h _ hw'
theorem cgcd_loop (j1 : Value → M) {Q : Value → World → Prop} {w0 : World} : ∀ (b a n : Nat), b < n → a ≤ 1099511627776 → b ≤ 1099511627776 → ∀ w, Below w0.heap.size w0 w → (∀ w', Below w0.heap.size w0 w' → j1 (.int .i64 (Nat.gcd a b : Nat)) w' Q) →
    itr (fun _ _ => bot) (f18_b2 j1) n (.int .i64 a) (.int .i64 b) w Q := by
  intro b
  induction b using Nat.strongRecOn with
  | _ b ih =>
    intro a n hn ha hb w hw k
    obtain ⟨n, rfl⟩ : ∃ m, n = m + 1 := ⟨n - 1, by omega⟩
    show f18_b2 j1 _ _ _ w Q
    unfold f18_b2
    by_cases c : b = 0
    · subst c
      simp only [↓bx_e, ↓al_e, ↓fa_e, ↓ld_e, ↓ad_e, ↓su_e, ↓mu_e, ↓lt_e, ↓le_e, ↓gt_e, ↓ge_e, ↓eqi_e, ↓nei_e, ↓qu_e, ↓re_e, ↓cv_e, ↓nt_e, ↓pk_t, ↓pk_f, ↓pk_e, ↓eqb_e, ↓neb_e, ↓nc_e, ↓ex_e, ↓lnl_e, ↓lns_e, ↓idv_e, ↓cl_e, ↓cnd_e, ↓gd_e, ↓gd_u, ↓gdu_e, ↓rt_e, ↓jn_e, ↓dr_q, ↓kp_e, ↓mnm_e, ↓mxm_e, ↓mif_e, ↓asrt_e, ↓eqs_e, ↓nes_e, Value.cells, add_lit, cell_psh_new, cell_drw, Nat.zero_add, Nat.reduceAdd, get4_0, get4_1, get4_2, get4_3, get3_0, get3_1, get3_2, get2_0, get2_1, get1_0, Option.some.injEq, exists_eq_left', decide_true, decide_false, decide_eq_true_eq, if_true, if_false, Bool.not_true, Bool.not_false, Bool.false_eq_true, Bool.true_eq_false, Bool.not_eq_true', decide_eq_false_iff_not, not_false_eq_true, not_true_eq_false, reduceCtorEq, bx_e, al_e, fa_e, ld_e, ad_e, su_e, mu_e, lt_e, le_e, gt_e, ge_e, eqi_e, nei_e, qu_e, re_e, cv_e, nt_e, pk_t, pk_f, pk_e, eqb_e, neb_e, nc_e, ex_e, lnl_e, lns_e, idv_e, cl_e, cnd_e, gd_e, gd_u, gdu_e, rt_e, jn_e, dr_q, kp_e, mnm_e, mxm_e, mif_e, asrt_e, eqs_e, nes_e, cond_true, cond_false, Bool.true_and, Bool.and_true, Bool.false_and, Bool.and_false, decide_not, Int.natCast_zero, ne_eq, not_true_eq_false]
      rw [Nat.gcd_zero_right] at k
      exact k _ hw
    · have hne : ¬ (b : Int) = 0 := by omega
      have hlt := Nat.mod_lt a (show 0 < b by omega)
      have e : (a : Int).tmod b = ((a % b : Nat) : Int) := by rw [Int.tmod_eq_emod_of_nonneg (by omega)]; rfl
      simp only [↓bx_e, ↓al_e, ↓fa_e, ↓ld_e, ↓ad_e, ↓su_e, ↓mu_e, ↓lt_e, ↓le_e, ↓gt_e, ↓ge_e, ↓eqi_e, ↓nei_e, ↓qu_e, ↓re_e, ↓cv_e, ↓nt_e, ↓pk_t, ↓pk_f, ↓pk_e, ↓eqb_e, ↓neb_e, ↓nc_e, ↓ex_e, ↓lnl_e, ↓lns_e, ↓idv_e, ↓cl_e, ↓cnd_e, ↓gd_e, ↓gd_u, ↓gdu_e, ↓rt_e, ↓jn_e, ↓dr_q, ↓kp_e, ↓mnm_e, ↓mxm_e, ↓mif_e, ↓asrt_e, ↓eqs_e, ↓nes_e, Value.cells, add_lit, cell_psh_new, cell_drw, Nat.zero_add, Nat.reduceAdd, get4_0, get4_1, get4_2, get4_3, get3_0, get3_1, get3_2, get2_0, get2_1, get1_0, Option.some.injEq, exists_eq_left', decide_true, decide_false, decide_eq_true_eq, if_true, if_false, Bool.not_true, Bool.not_false, Bool.false_eq_true, Bool.true_eq_false, Bool.not_eq_true', decide_eq_false_iff_not, not_false_eq_true, not_true_eq_false, reduceCtorEq, bx_e, al_e, fa_e, ld_e, ad_e, su_e, mu_e, lt_e, le_e, gt_e, ge_e, eqi_e, nei_e, qu_e, re_e, cv_e, nt_e, pk_t, pk_f, pk_e, eqb_e, neb_e, nc_e, ex_e, lnl_e, lns_e, idv_e, cl_e, cnd_e, gd_e, gd_u, gdu_e, rt_e, jn_e, dr_q, kp_e, mnm_e, mxm_e, mif_e, asrt_e, eqs_e, nes_e, cond_true, cond_false, Bool.true_and, Bool.and_true, Bool.false_and, Bool.and_false, decide_not, ne_eq, hne, not_false_eq_true, true_and, e]
      refine ih (a % b) hlt b n (by omega) (by omega) (by omega) _ (Below_drw hw) ?_
      intro w' hw'
      have : Nat.gcd b (a % b) = Nat.gcd a b := by rw [Nat.gcd_comm b, ← Nat.gcd_rec, Nat.gcd_comm]
      rw [this]
      exact k w' hw'
theorem f18_s (a b : Nat) (ha : a ≤ 1099511627776) (hb : b ≤ 1099511627776) (w : World) (Q : Value → World → Prop) (h : ∀ w', Below w.heap.size w w' → Q (.int .i64 (Nat.gcd a b : Nat)) w') : f18 (.int .i64 a) (.int .i64 b) w Q := by
  unfold f18
  rw [jn_e]
  refine ⟨_, cgcd_loop _ b a _ (Nat.lt_succ_self _) ha hb w (Below.refl _ _) ?_⟩
  intro w' hw'
  unfold f18_j1
  rw [rt_e]
  exact h _ hw'

/-- what stays true of the numbers that the inverse goes on with -/
structure Inv (a m x y r s : Int) : Prop where
  r0 : 0 ≤ r
  s0 : 0 ≤ s
  rm : r ≤ m
  sm : s ≤ m
  cx : ∃ u, a * x = r + m * u
  cy : ∃ u, a * y = s + m * u
  co : ∀ d : Int, d ∣ r → d ∣ s → d ∣ 1
  bd : (0 ≤ x ∧ y ≤ 0 ∧ x * s - y * r = m) ∨ (x ≤ 0 ∧ 0 ≤ y ∧ y * r - x * s = m)
theorem Inv.abs {a m x y r s : Int} (h : Inv a m x y r s) (hs : 1 ≤ s) : -m ≤ x ∧ x ≤ m ∧ -m ≤ (r / s) * y ∧ (r / s) * y ≤ m ∧ 0 ≤ (r / s) * s ∧ (r / s) * s ≤ r := by
  have hq0 : 0 ≤ r / s := Int.ediv_nonneg h.r0 (by omega)
  have hq1 : (r / s) * s ≤ r := Int.ediv_mul_le r (by omega)
  have hq2 : 0 ≤ (r / s) * s := Int.mul_nonneg hq0 (by omega)
  have hq3 : r / s ≤ r := by
    have : (r / s) * 1 ≤ (r / s) * s := Int.mul_le_mul_of_nonneg_left hs hq0
    omega
  generalize r / s = q at *
  have hr0 := h.r0
  rcases h.bd with ⟨b1, b2, b3⟩ | ⟨b1, b2, b3⟩
  · have e1 : 0 ≤ x * (s - 1) := Int.mul_nonneg b1 (by omega)
    have e2 : 0 ≤ (-y) * r := Int.mul_nonneg (by omega) hr0
    have e3 : 0 ≤ (-y) * (r - q) := Int.mul_nonneg (by omega) (by omega)
    have e4 : 0 ≤ (-y) * q := Int.mul_nonneg (by omega) hq0
    have e5 : 0 ≤ x * s := Int.mul_nonneg b1 (by omega)
    refine ⟨?_, ?_, ?_, ?_, hq2, hq1⟩
    · grind
    · grind
    · grind
    · grind
  · have e1 : 0 ≤ (-x) * (s - 1) := Int.mul_nonneg (by omega) (by omega)
    have e2 : 0 ≤ y * r := Int.mul_nonneg (by omega) hr0
    have e3 : 0 ≤ y * (r - q) := Int.mul_nonneg (by omega) (by omega)
    have e4 : 0 ≤ y * q := Int.mul_nonneg (by omega) hq0
    have e5 : 0 ≤ (-x) * s := Int.mul_nonneg (by omega) (by omega)
    refine ⟨?_, ?_, ?_, ?_, hq2, hq1⟩
    · grind
    · grind
    · grind
    · grind
theorem Inv.step {a m x y r s : Int} (h : Inv a m x y r s) (hs : 1 ≤ s) : Inv a m y (x - (r / s) * y) s (r - (r / s) * s) := by
  have ab := h.abs hs
  have hq0 : 0 ≤ r / s := Int.ediv_nonneg h.r0 (by omega)
  have hr0 := h.r0
  have hm := h.rm
  refine ⟨by omega, by omega, h.sm, by omega, h.cy, ?_, ?_, ?_⟩
  · obtain ⟨u, hu⟩ := h.cx
    obtain ⟨v, hv⟩ := h.cy
    refine ⟨u - (r / s) * v, ?_⟩
    generalize r / s = q at *
    grind
  · intro d d1 d2
    refine h.co d ?_ d1
    have := Int.dvd_add d2 (Int.dvd_mul_of_dvd_right (b := r / s) d1)
    have e : r - r / s * s + r / s * s = r := by omega
    rw [e] at this
    exact this
  · generalize r / s = q at *
    rcases h.bd with ⟨b1, b2, b3⟩ | ⟨b1, b2, b3⟩
    · have e4 : 0 ≤ (-y) * q := Int.mul_nonneg (by omega) hq0
      refine .inr ⟨b2, ?_, ?_⟩ <;> grind
    · have e4 : 0 ≤ y * q := Int.mul_nonneg (by omega) hq0
      refine .inl ⟨b2, ?_, ?_⟩ <;> grind

theorem inv_exit (j1 : Value → Value → M) {Q : Value → World → Prop} {a m : Int} {w : World} (k : ∀ x, (∃ u, a * x = 1 + m * u) → j1 (.int .i64 m) (.int .i64 x) w Q) {x y r : Int} (h : Inv a m x y r 0) (n : Nat) :
    itr (fun _ _ _ _ _ => bot) (f32_b2 j1) (n + 1) (.int .i64 m) (.int .i64 x) (.int .i64 y) (.int .i64 r) (.int .i64 0) w Q := by
  show f32_b2 j1 _ _ _ _ _ _ w Q
  unfold f32_b2
  simp only [↓bx_e, ↓al_e, ↓fa_e, ↓ld_e, ↓ad_e, ↓su_e, ↓mu_e, ↓lt_e, ↓le_e, ↓gt_e, ↓ge_e, ↓eqi_e, ↓nei_e, ↓qu_e, ↓re_e, ↓cv_e, ↓nt_e, ↓pk_t, ↓pk_f, ↓pk_e, ↓eqb_e, ↓neb_e, ↓nc_e, ↓ex_e, ↓lnl_e, ↓lns_e, ↓idv_e, ↓cl_e, ↓cnd_e, ↓gd_e, ↓gd_u, ↓gdu_e, ↓rt_e, ↓jn_e, ↓dr_q, ↓kp_e, ↓mnm_e, ↓mxm_e, ↓mif_e, ↓asrt_e, ↓eqs_e, ↓nes_e, Value.cells, add_lit, cell_psh_new, cell_drw, Nat.zero_add, Nat.reduceAdd, get4_0, get4_1, get4_2, get4_3, get3_0, get3_1, get3_2, get2_0, get2_1, get1_0, Option.some.injEq, exists_eq_left', decide_true, decide_false, decide_eq_true_eq, if_true, if_false, Bool.not_true, Bool.not_false, Bool.false_eq_true, Bool.true_eq_false, Bool.not_eq_true', decide_eq_false_iff_not, not_false_eq_true, not_true_eq_false, reduceCtorEq, bx_e, al_e, fa_e, ld_e, ad_e, su_e, mu_e, lt_e, le_e, gt_e, ge_e, eqi_e, nei_e, qu_e, re_e, cv_e, nt_e, pk_t, pk_f, pk_e, eqb_e, neb_e, nc_e, ex_e, lnl_e, lns_e, idv_e, cl_e, cnd_e, gd_e, gd_u, gdu_e, rt_e, jn_e, dr_q, kp_e, mnm_e, mxm_e, mif_e, asrt_e, eqs_e, nes_e, cond_true, cond_false, Bool.true_and, Bool.and_true, Bool.false_and, Bool.and_false, decide_not, ne_eq, not_true_eq_false]
  refine k _ ?_
  have : r = 1 := by
    have h1 := h.co r (Int.dvd_refl r) ⟨0, by simp⟩
    have := Int.le_of_dvd (by omega) h1
    have := h.r0
    rcases Int.lt_or_eq_of_le h.r0 with c | c
    · omega
    · rw [← c] at h1
      simp at h1
  rw [← this]
  exact h.cx
theorem inv_loop (j1 : Value → Value → M) {Q : Value → World → Prop} {a m : Int} {w : World} (hm : 1 ≤ m) (hm2 : m ≤ 1099511627776) (k : ∀ x, (∃ u, a * x = 1 + m * u) → j1 (.int .i64 m) (.int .i64 x) w Q) :
    ∀ (d n : Nat) (x y r s : Int), s.toNat ≤ d → d < n → Inv a m x y r s → itr (fun _ _ _ _ _ => bot) (f32_b2 j1) n (.int .i64 m) (.int .i64 x) (.int .i64 y) (.int .i64 r) (.int .i64 s) w Q := by
  intro d
  induction d with
  | zero =>
    intro n x y r s hs hn h
    obtain ⟨n, rfl⟩ : ∃ m, n = m + 1 := ⟨n - 1, by omega⟩
    have hs0 : s = 0 := by have := h.s0; omega
    subst hs0
    exact inv_exit j1 k h n
  | succ d ih =>
    intro n x y r s hs hn h
    obtain ⟨n, rfl⟩ : ∃ m, n = m + 1 := ⟨n - 1, by omega⟩
    by_cases c : s = 0
    · subst c
      exact inv_exit j1 k h n
    · show f32_b2 j1 _ _ _ _ _ _ w Q
      unfold f32_b2
      have h0 := h.s0
      have ab := h.abs (by omega)
      have hr0 := h.r0
      have hrm := h.rm
      have hq0 : 0 ≤ r / s := Int.ediv_nonneg h.r0 (by omega)
      have hq3 : r / s ≤ r := by
        have : (r / s) * 1 ≤ (r / s) * s := Int.mul_le_mul_of_nonneg_left (by omega) hq0
        omega
      have e0 : IntKind.i64.wrap (r.tdiv s) = r / s := by rw [Int.tdiv_eq_ediv_of_nonneg hr0]; exact w64' (by omega) (by omega)
      have e1 : IntKind.i64.wrap (r / s * s) = r / s * s := w64' (by omega) (by omega)
      have e2 : IntKind.i64.wrap (r - r / s * s) = r - r / s * s := w64' (by omega) (by omega)
      have e3 : IntKind.i64.wrap (r / s * y) = r / s * y := w64' (by omega) (by omega)
      have e4 : IntKind.i64.wrap (x - r / s * y) = x - r / s * y := w64' (by omega) (by omega)
      simp only [↓bx_e, ↓al_e, ↓fa_e, ↓ld_e, ↓ad_e, ↓su_e, ↓mu_e, ↓lt_e, ↓le_e, ↓gt_e, ↓ge_e, ↓eqi_e, ↓nei_e, ↓qu_e, ↓re_e, ↓cv_e, ↓nt_e, ↓pk_t, ↓pk_f, ↓pk_e, ↓eqb_e, ↓neb_e, ↓nc_e, ↓ex_e, ↓lnl_e, ↓lns_e, ↓idv_e, ↓cl_e, ↓cnd_e, ↓gd_e, ↓gd_u, ↓gdu_e, ↓rt_e, ↓jn_e, ↓dr_q, ↓kp_e, ↓mnm_e, ↓mxm_e, ↓mif_e, ↓asrt_e, ↓eqs_e, ↓nes_e, Value.cells, add_lit, cell_psh_new, cell_drw, Nat.zero_add, Nat.reduceAdd, get4_0, get4_1, get4_2, get4_3, get3_0, get3_1, get3_2, get2_0, get2_1, get1_0, Option.some.injEq, exists_eq_left', decide_true, decide_false, decide_eq_true_eq, if_true, if_false, Bool.not_true, Bool.not_false, Bool.false_eq_true, Bool.true_eq_false, Bool.not_eq_true', decide_eq_false_iff_not, not_false_eq_true, not_true_eq_false, reduceCtorEq, bx_e, al_e, fa_e, ld_e, ad_e, su_e, mu_e, lt_e, le_e, gt_e, ge_e, eqi_e, nei_e, qu_e, re_e, cv_e, nt_e, pk_t, pk_f, pk_e, eqb_e, neb_e, nc_e, ex_e, lnl_e, lns_e, idv_e, cl_e, cnd_e, gd_e, gd_u, gdu_e, rt_e, jn_e, dr_q, kp_e, mnm_e, mxm_e, mif_e, asrt_e, eqs_e, nes_e, cond_true, cond_false, Bool.true_and, Bool.and_true, Bool.false_and, Bool.and_false, decide_not, ne_eq, c, not_false_eq_true, true_and, e0, e1, e2, e3, e4]
      refine ih n _ _ _ _ ?_ (by omega) (h.step (by omega))
      have := Int.emod_lt_of_pos r (show 0 < s by omega)
      have h3 := Int.emod_add_mul_ediv r s
      have h4 : s * (r / s) = r / s * s := Int.mul_comm _ _
      omega
theorem f32_s (a m : Int) (hm : 1 ≤ m) (hm2 : m ≤ 1099511627776) (hco : ∀ d : Int, d ∣ a → d ∣ m → d ∣ 1) (w : World) (Q : Value → World → Prop)
    (h : ∀ x u : Int, 0 ≤ x → x < m → a * x = 1 + m * u → Q (.int .i64 x) w) : f32 (.int .i64 a) (.int .i64 m) w Q := by
  unfold f32
  rw [cl_e]
  refine f27_s _ _ hm hm2 _ _ ?_
  rw [jn_e]
  have h0 := Int.emod_nonneg a (show m ≠ 0 by omega)
  have h1 := Int.emod_lt_of_pos a (show 0 < m by omega)
  have h2 := Int.emod_add_mul_ediv a m
  refine ⟨_, inv_loop _ hm hm2 ?_ m.toNat _ 1 0 (a % m) m (Nat.le_refl _) (Nat.lt_succ_self _) ⟨h0, by omega, by omega, by omega, ⟨a / m, (Int.mul_one a).trans h2.symm⟩, ⟨-1, by omega⟩, ?_, .inl ⟨by omega, by omega, by omega⟩⟩⟩
  · intro x hx
    obtain ⟨u, hu⟩ := hx
    unfold f32_j1
    rw [cl_e]
    refine f27_s _ _ hm hm2 _ _ ?_
    rw [rt_e]
    refine h _ (u - a * (x / m)) (Int.emod_nonneg _ (by omega)) (Int.emod_lt_of_pos _ (by omega)) ?_
    have h3 := Int.emod_add_mul_ediv x m
    generalize x % m = y at *
    generalize x / m = z at *
    grind
  · intro d d1 d2
    refine hco d ?_ d2
    rw [← h2]
    exact Int.dvd_add d1 (Int.dvd_mul_of_dvd_left d2)
end Go.Proofs.Ytnckcgpmidgggaa
