/- A device's sectors read into a row; scripts of writes; a script played. -/
import Derived.Test.YtjaiodbonffciaaD12
set_option linter.unusedVariables false
set_option linter.unusedSimpArgs false
set_option linter.unusedSectionVars false
namespace Go.Proofs.Ytjaiodbonffciaa
open Sh RowKit Go.MapKept
def rdsV (D : Dv) (k : Nat) : List Value := (List.range k).map fun (i : Nat) => .string (D.rd (i : Int))
theorem rdsV_len (D : Dv) (k : Nat) : (rdsV D k).length = k := by simp [rdsV]
theorem rdsV_succ (D : Dv) (k : Nat) : rdsV D (k + 1) = rdsV D k ++ [.string (D.rd (k : Int))] := by simp [rdsV, List.range_succ]
theorem rdsV_get (D : Dv) {k i : Nat} (h : i < (rdsV D k).length) : (rdsV D k)[i] = .string (D.rd (i : Int)) := by simp [rdsV]
/-- writes alone -/
def wops (D : Dv) (l : List Op4) : Dv := l.foldl (fun D o => if kdO o = 0 then (D.op o).2 else D) D
theorem wops_take (D : Dv) {l : List Op4} {i : Nat} (h : i < l.length) : wops D (l.take (i + 1)) = if kdO l[i] = 0 then ((wops D (l.take i)).op l[i]).2 else wops D (l.take i) := by
  unfold wops
  rw [List.take_succ_eq_append_getElem h, List.foldl_append]
  rfl
theorem ops_take (D : Dv) {l : List Op4} {i : Nat} (h : i < l.length) : D.ops (l.take (i + 1)) = ((D.ops (l.take i)).op l[i]).2 := by
  unfold Dv.ops
  rw [List.take_succ_eq_append_getElem h, List.foldl_append]
  rfl
theorem wr_s (D : Dv) (i : Int) (s : ByteArray) : (D.wr i s).2.A.map (·.s) = D.A.map (·.s) := by
  unfold Dv.wr
  split
  · rfl
  · split
    · rfl
    · rename_i x hx
      split
      · rfl
      · exact set_s (D := D.tick) hx _
theorem DI.mono {D : Dv} {n m : Int} (h : DI D n) (hm : n ≤ m) : DI D m := ⟨h.c0, Int.le_trans h.c1 hm, h.h0⟩
theorem wops_all {D : Dv} {n : Int} (h : DI D n) : ∀ (l : List Op4), n + l.length ≤ 1000000 → DI (wops D l) (n + l.length) ∧ (wops D l).A.map (·.s) = D.A.map (·.s) := by
  intro l
  induction l generalizing D n with
  | nil => intro _; exact ⟨by simpa [wops] using h, rfl⟩
  | cons o l ih =>
    intro hl
    have hl' : n + 1 + l.length ≤ 1000000 := by simp at hl; omega
    show DI (wops (if kdO o = 0 then (D.op o).2 else D) l) _ ∧ (wops (if kdO o = 0 then (D.op o).2 else D) l).A.map (·.s) = _
    by_cases c : kdO o = 0
    · rw [if_pos c]
      obtain ⟨h1, h2⟩ := ih (D := (D.op o).2) (n := n + 1) (h.op (by omega) o) (by omega)
      refine ⟨h1.mono (by simp; omega), h2.trans ?_⟩
      unfold Dv.op
      rw [if_pos c]
      exact wr_s D o.i o.s
    · rw [if_neg c]
      obtain ⟨h1, h2⟩ := ih (D := D) (n := n + 1) (h.mono (by omega)) (by omega)
      exact ⟨h1.mono (by simp; omega), h2⟩
theorem ops_DI {D : Dv} {n : Int} (h : DI D n) : ∀ (l : List Op4), n + l.length ≤ 1000000 → DI (D.ops l) (n + l.length) := by
  intro l
  induction l generalizing D n with
  | nil => intro _; simpa [Dv.ops] using h
  | cons o l ih =>
    intro hl
    have hl' : n + 1 + l.length ≤ 1000000 := by simp at hl; omega
    exact (ih (D := (D.op o).2) (n := n + 1) (h.op (by omega) o) (by omega)).mono (by simp; omega)
theorem newD_DI (k : Nat) : DI (newD k) 0 := ⟨Int.le_refl _, Int.le_refl _, by show (0 : Int) ≤ 4611686018427387904; omega⟩
section
variable {B : Nat} {W w w' w0 : World} {p b q : Nat} {v u : Value} {D : Dv} {Q : Value → World → Prop} {n : Nat}
theorem fpD_no {e : TypeId} {g : Nat} {cur : Array Value} (hd : DevAt B w p v b D) (hg : w.heap[g]? = some (.cells cur e (0, 0))) (h1 : e ≠ 60) (h2 : e ≠ 63) : ¬ fpD p v b g := by
  obtain ⟨L, ⟨es, clock, hm, _⟩, _⟩ := hd.mp
  rintro (rfl | rfl | hf)
  · rw [hd.hp] at hg; cases hg; exact h1 rfl
  · rw [hm] at hg; cases hg
  · obtain ⟨_, _, cur', h3⟩ := ownE_blk hd.own g hf
    rw [hg] at h3; cases h3; exact h2 rfl
theorem keepI {B2 : Nat} {l : List Int} (h : ownI B2 3 .i64 w u l) (hd : DevAt B w p v b D) (hc : ChgS (fpD p v b) w w') : ownI B2 3 .i64 w' u l := by
  obtain ⟨h1, h2⟩ := h
  refine ⟨h1, h2.imp id ?_⟩
  rintro ⟨g, cap, cur, e1, e2, e3, rest⟩
  exact ⟨g, cap, cur, e1, e2, hc.keep e3 (fpD_no hd e3 (by decide) (by decide)), rest⟩
theorem keepV {B2 : Nat} {l : List Value} (h : ownV B2 9 w u l) (hd : DevAt B w p v b D) (hc : ChgS (fpD p v b) w w') : ownV B2 9 w' u l := by
  obtain ⟨h1, h2⟩ := h
  refine ⟨h1, h2.imp id ?_⟩
  rintro ⟨g, cap, cur, e1, e2, e3, rest⟩
  exact ⟨g, cap, cur, e1, e2, hc.keep e3 (fpD_no hd e3 (by decide) (by decide)), rest⟩
/-- eight sectors read into a new row -/
theorem reads_loop (L : Nat → Value → Nat → M) (E : Value → M) (hz : ∀ m row w, E row w Q → L (m + 1) row 8 w Q)
    (hs : ∀ m row (k : Nat) w, k < 8 → DevAt B w p v b D → (∀ w1, Below w.heap.size w w1 → sm Try.prog (Instr.buildSlice 50 1 #[(0, .string (D.rd (k : Int)))]) (fun u => sm Try.prog (Builtin.append_ #[50, 50] 50 #[row, u]) (fun r => L m r (k + 1))) w1 Q) → L (m + 1) row k w Q)
    (hd : DevAt B w0 p v b D) : ∀ (d m k : Nat) (w : World) (row : Value), k + d = 8 → d < m → Below w0.heap.size w0 w → ownV w0.heap.size 9 w row (rdsV D k) →
    (∀ w' row', Below w0.heap.size w0 w' → ownV w0.heap.size 9 w' row' (rdsV D 8) → E row' w' Q) → L m row k w Q := by
  intro d
  induction d with
  | zero =>
    intro m k w row hk hm hb ho kk
    obtain ⟨m, rfl⟩ : ∃ x, m = x + 1 := ⟨m - 1, by omega⟩
    obtain rfl : k = 8 := by omega
    exact hz m row w (kk w row hb ho)
  | succ d ih =>
    intro m k w row hk hm hb ho kk
    obtain ⟨m, rfl⟩ : ∃ x, m = x + 1 := ⟨m - 1, by omega⟩
    refine hs m row k w (by omega) (hd.below hb) fun w1 hb1 => ?_
    refine ap_V (x := .string (D.rd (k : Int))) sl50 rfl rfl rfl (ownV_below ho hb1) (by rw [rdsV_len]; unfold maxLen; omega) (by rw [rdsV_len]; omega) (Nat.le_trans hb.size hb1.size) fun v' w2 ho2 hf hsz hos _ => ?_
    rw [← rdsV_succ] at ho2
    have hb2 : Below w0.heap.size w0 w2 := by
      have b1 := bt hb hb1
      refine ⟨hos.1.trans b1.os, hos.2.1.trans b1.tape, hos.2.2.trans b1.output, Nat.le_trans b1.size hsz, fun j hj => ?_⟩
      rw [hf j (Nat.lt_of_lt_of_le hj b1.size) (fun e => by have := (ownV_lt ho j e).1; omega), b1.block j hj]
    exact ih m (k + 1) w2 v' (by omega) (by omega) hb2 ho2 kk
/-- a script's writes -/
theorem w_loop {l : List Op4} {D0 : Dv} (L : Nat → Nat → M) (E : M) (hz : ∀ m w, Below W.heap.size W w → E w Q → L (m + 1) l.length w Q)
    (hs : ∀ m i (hi : i < l.length) w, Below W.heap.size W w → (∀ w1, Below w.heap.size w w1 → (kdO l[i] = 0 → f18 (pv p) (.agg l[i].cells.toArray) w1 (fun _ w2 => L m (i + 1) w2 Q)) ∧ (kdO l[i] ≠ 0 → L m (i + 1) w1 Q)) → L (m + 1) i w Q)
    (hk : ∀ o ∈ l, rdS 1 bR W o.vk o.keep) (hWB : W.heap.size ≤ B) (hl : l.length ≤ 300) (h0 : DI D0 n) (hn : n ≤ 1000) :
    ∀ (d m i : Nat) (w : World), i + d = l.length → d < m → Below W.heap.size W w → DevAt B w p v b (wops D0 (l.take i)) →
    (∀ w', Below W.heap.size W w' → DevAt B w' p v b (wops D0 l) → ChgS (fpD p v b) w w' → E w' Q) → L m i w Q := by
  intro d
  induction d with
  | zero =>
    intro m i w hi hm hb hd kk
    obtain ⟨m, rfl⟩ : ∃ x, m = x + 1 := ⟨m - 1, by omega⟩
    obtain rfl : i = l.length := by omega
    rw [List.take_length] at hd
    exact hz m w hb (kk w hb hd (ChgS.refl _ _))
  | succ d ih =>
    intro m i w hi hm hb hd kk
    obtain ⟨m, rfl⟩ : ∃ x, m = x + 1 := ⟨m - 1, by omega⟩
    have hil : i < l.length := by omega
    refine hs m i hil w hb fun w1 hb1 => ?_
    have b1 := bt hb hb1
    have d1 := hd.below hb1
    have hw := wops_take D0 hil
    have hdi := (wops_all h0 (l.take i) (by rw [List.length_take]; omega)).1
    rw [List.length_take] at hdi
    refine ⟨fun c => ?_, fun c => ?_⟩
    · rw [if_pos c] at hw
      refine f18_s (hk l[i] (List.getElem_mem hil)) b1 hWB d1 hdi (by omega) fun w2 d2 s2 => ?_
      rw [← hw] at d2
      exact ih m (i + 1) w2 (by omega) (by omega) (bs b1 (S := fpD p v b) (fun k hk => Nat.le_trans hWB (fpD_B d1 k hk)) b1.size s2) d2 fun w' hb' hd' hc' => kk w' hb' hd' ((ChgS.of_below hb1 (S := fpD p v b)).trans (s2.trans hc' (fun _ _ h => h)) (fun _ _ h => h))
    · rw [if_neg c] at hw
      rw [← hw] at d1
      exact ih m (i + 1) w1 (by omega) (by omega) b1 d1 fun w' hb' hd' hc' => kk w' hb' hd' ((ChgS.of_below hb1 (S := fpD p v b)).trans hc' (fun _ _ h => h))
/-- a script's step, read -/
theorem op_at {vs : Value} {l : List Op4} (hs : rdS 5 oR4 W vs l) {i : Nat} (hi : i < l.length) : ∃ ad : Addr, (∀ w, Below W.heap.size W w → cellsAt w ad l[i].cells) ∧ rdS 1 bR W l[i].vk l[i].keep ∧
    ∀ (k : IntKind) (K : Value → M) (w' : World) (Q : Value → World → Prop), ia 5 vs (.int k (i : Int)) K w' Q = K (.pointer (some ad)) w' Q := by
  obtain ⟨ad, es, he1, he2, ⟨he3, hk⟩, hia⟩ := rdS_at hs hi
  subst he3
  exact ⟨ad, fun w hb j x hj => cell_below hb (he2 j x hj), hk, hia⟩
theorem keep_all {vs : Value} {l : List Op4} (hs : rdS 5 oR4 W vs l) : ∀ o ∈ l, rdS 1 bR W o.vk o.keep := by
  intro o ho
  obtain ⟨i, hi, rfl⟩ := List.mem_iff_getElem.1 ho
  obtain ⟨_, _, hk, _⟩ := op_at hs hi
  exact hk
/-- a script played -/
theorem f23_loop {vs : Value} {l : List Op4} {D0 : Dv} (hs : rdS 5 oR4 W vs l) (hl : l.length ≤ 300) (hWB : W.heap.size ≤ B) (h0 : DI D0 0) : ∀ (d m i : Nat) (w : World), i + d = l.length → d < m → Below W.heap.size W w → DevAt B w p v b (D0.ops (l.take i)) →
    (∀ w', Below W.heap.size W w' → DevAt B w' p v b (D0.ops l) → ChgS (fpD p v b) w w' → Q (pv p) w') →
    itr (fun _ _ _ => bot) (f23_b2 f23_j1) m vs (pv p) (.int .i64 (i : Int)) w Q := by
  intro d
  induction d with
  | zero =>
    intro m i w hi hm hb hd kk
    obtain ⟨m, rfl⟩ : ∃ x, m = x + 1 := ⟨m - 1, by omega⟩
    obtain rfl : i = l.length := by omega
    show f23_b2 f23_j1 _ _ _ _ w Q
    unfold f23_b2
    refine lnl_S hs ?_
    have c : ¬ (l.length : Int) < l.length := by omega
    try simp only [↓bx_e, ↓al_e, ↓fa_e, ↓ld_e, ↓ad_e, ↓su_e, ↓mu_e, ↓lt_e, ↓le_e, ↓gt_e, ↓ge_e, ↓eqi_e, ↓nei_e, ↓qu_e, ↓re_e, ↓cv_e, ↓nt_e, ↓pk_t, ↓pk_f, ↓pk_e, ↓eqb_e, ↓neb_e, ↓nc_e, ↓ex_e, ↓lnl_e, ↓lns_e, ↓idv_e, ↓cl_e, ↓cnd_e, ↓gd_e, ↓gd_u, ↓gdu_e, ↓rt_e, ↓jn_e, ↓dr_q, ↓kp_e, ↓mnm_e, ↓mxm_e, ↓mif_e, ↓asrt_e, ↓eqs_e, ↓nes_e, Value.cells, add_lit, cell_psh_new, cell_drw, Nat.zero_add, Nat.reduceAdd, get4_0, get4_1, get4_2, get4_3, get3_0, get3_1, get3_2, get2_0, get2_1, get1_0, Option.some.injEq, exists_eq_left', decide_true, decide_false, decide_eq_true_eq, if_true, if_false, Bool.not_true, Bool.not_false, Bool.false_eq_true, Bool.true_eq_false, Bool.not_eq_true', decide_eq_false_iff_not, not_false_eq_true, not_true_eq_false, reduceCtorEq, bx_e, al_e, fa_e, ld_e, ad_e, su_e, mu_e, lt_e, le_e, gt_e, ge_e, eqi_e, nei_e, qu_e, re_e, cv_e, nt_e, pk_t, pk_f, pk_e, eqb_e, neb_e, nc_e, ex_e, lnl_e, lns_e, idv_e, cl_e, cnd_e, gd_e, gd_u, gdu_e, rt_e, jn_e, dr_q, kp_e, mnm_e, mxm_e, mif_e, asrt_e, eqs_e, nes_e, cond_true, cond_false, Bool.true_and, Bool.and_true, Bool.false_and, Bool.and_false, decide_not, c]
    unfold f23_j1
    try simp only [↓bx_e, ↓al_e, ↓fa_e, ↓ld_e, ↓ad_e, ↓su_e, ↓mu_e, ↓lt_e, ↓le_e, ↓gt_e, ↓ge_e, ↓eqi_e, ↓nei_e, ↓qu_e, ↓re_e, ↓cv_e, ↓nt_e, ↓pk_t, ↓pk_f, ↓pk_e, ↓eqb_e, ↓neb_e, ↓nc_e, ↓ex_e, ↓lnl_e, ↓lns_e, ↓idv_e, ↓cl_e, ↓cnd_e, ↓gd_e, ↓gd_u, ↓gdu_e, ↓rt_e, ↓jn_e, ↓dr_q, ↓kp_e, ↓mnm_e, ↓mxm_e, ↓mif_e, ↓asrt_e, ↓eqs_e, ↓nes_e, Value.cells, add_lit, cell_psh_new, cell_drw, Nat.zero_add, Nat.reduceAdd, get4_0, get4_1, get4_2, get4_3, get3_0, get3_1, get3_2, get2_0, get2_1, get1_0, Option.some.injEq, exists_eq_left', decide_true, decide_false, decide_eq_true_eq, if_true, if_false, Bool.not_true, Bool.not_false, Bool.false_eq_true, Bool.true_eq_false, Bool.not_eq_true', decide_eq_false_iff_not, not_false_eq_true, not_true_eq_false, reduceCtorEq, bx_e, al_e, fa_e, ld_e, ad_e, su_e, mu_e, lt_e, le_e, gt_e, ge_e, eqi_e, nei_e, qu_e, re_e, cv_e, nt_e, pk_t, pk_f, pk_e, eqb_e, neb_e, nc_e, ex_e, lnl_e, lns_e, idv_e, cl_e, cnd_e, gd_e, gd_u, gdu_e, rt_e, jn_e, dr_q, kp_e, mnm_e, mxm_e, mif_e, asrt_e, eqs_e, nes_e, cond_true, cond_false, Bool.true_and, Bool.and_true, Bool.false_and, Bool.and_false, decide_not]
    rw [List.take_length] at hd
    exact kk w hb hd (ChgS.refl _ _)
  | succ d ih =>
    intro m i w hi hm hb hd kk
    obtain ⟨m, rfl⟩ : ∃ x, m = x + 1 := ⟨m - 1, by omega⟩
    have hil : i < l.length := by omega
    show f23_b2 f23_j1 _ _ _ _ w Q
    unfold f23_b2
    refine lnl_S hs ?_
    have c : (i : Int) < l.length := by omega
    obtain ⟨ad, hc, hk, hia⟩ := op_at hs hil
    have h3 : IntKind.i64.wrap ((i : Int) + 1) = ((i + 1 : Nat) : Int) := by rw [w64 (by omega) (by omega)]; rfl
    try simp only [↓bx_e, ↓al_e, ↓fa_e, ↓ld_e, ↓ad_e, ↓su_e, ↓mu_e, ↓lt_e, ↓le_e, ↓gt_e, ↓ge_e, ↓eqi_e, ↓nei_e, ↓qu_e, ↓re_e, ↓cv_e, ↓nt_e, ↓pk_t, ↓pk_f, ↓pk_e, ↓eqb_e, ↓neb_e, ↓nc_e, ↓ex_e, ↓lnl_e, ↓lns_e, ↓idv_e, ↓cl_e, ↓cnd_e, ↓gd_e, ↓gd_u, ↓gdu_e, ↓rt_e, ↓jn_e, ↓dr_q, ↓kp_e, ↓mnm_e, ↓mxm_e, ↓mif_e, ↓asrt_e, ↓eqs_e, ↓nes_e, Value.cells, add_lit, cell_psh_new, cell_drw, Nat.zero_add, Nat.reduceAdd, get4_0, get4_1, get4_2, get4_3, get3_0, get3_1, get3_2, get2_0, get2_1, get1_0, Option.some.injEq, exists_eq_left', decide_true, decide_false, decide_eq_true_eq, if_true, if_false, Bool.not_true, Bool.not_false, Bool.false_eq_true, Bool.true_eq_false, Bool.not_eq_true', decide_eq_false_iff_not, not_false_eq_true, not_true_eq_false, reduceCtorEq, bx_e, al_e, fa_e, ld_e, ad_e, su_e, mu_e, lt_e, le_e, gt_e, ge_e, eqi_e, nei_e, qu_e, re_e, cv_e, nt_e, pk_t, pk_f, pk_e, eqb_e, neb_e, nc_e, ex_e, lnl_e, lns_e, idv_e, cl_e, cnd_e, gd_e, gd_u, gdu_e, rt_e, jn_e, dr_q, kp_e, mnm_e, mxm_e, mif_e, asrt_e, eqs_e, nes_e, cond_true, cond_false, Bool.true_and, Bool.and_true, Bool.false_and, Bool.and_false, decide_not, c, hia]
    refine ldn_at (hc w hb) rfl ?_
    try simp only [↓bx_e, ↓al_e, ↓fa_e, ↓ld_e, ↓ad_e, ↓su_e, ↓mu_e, ↓lt_e, ↓le_e, ↓gt_e, ↓ge_e, ↓eqi_e, ↓nei_e, ↓qu_e, ↓re_e, ↓cv_e, ↓nt_e, ↓pk_t, ↓pk_f, ↓pk_e, ↓eqb_e, ↓neb_e, ↓nc_e, ↓ex_e, ↓lnl_e, ↓lns_e, ↓idv_e, ↓cl_e, ↓cnd_e, ↓gd_e, ↓gd_u, ↓gdu_e, ↓rt_e, ↓jn_e, ↓dr_q, ↓kp_e, ↓mnm_e, ↓mxm_e, ↓mif_e, ↓asrt_e, ↓eqs_e, ↓nes_e, Value.cells, add_lit, cell_psh_new, cell_drw, Nat.zero_add, Nat.reduceAdd, get4_0, get4_1, get4_2, get4_3, get3_0, get3_1, get3_2, get2_0, get2_1, get1_0, Option.some.injEq, exists_eq_left', decide_true, decide_false, decide_eq_true_eq, if_true, if_false, Bool.not_true, Bool.not_false, Bool.false_eq_true, Bool.true_eq_false, Bool.not_eq_true', decide_eq_false_iff_not, not_false_eq_true, not_true_eq_false, reduceCtorEq, bx_e, al_e, fa_e, ld_e, ad_e, su_e, mu_e, lt_e, le_e, gt_e, ge_e, eqi_e, nei_e, qu_e, re_e, cv_e, nt_e, pk_t, pk_f, pk_e, eqb_e, neb_e, nc_e, ex_e, lnl_e, lns_e, idv_e, cl_e, cnd_e, gd_e, gd_u, gdu_e, rt_e, jn_e, dr_q, kp_e, mnm_e, mxm_e, mif_e, asrt_e, eqs_e, nes_e, cond_true, cond_false, Bool.true_and, Bool.and_true, Bool.false_and, Bool.and_false, decide_not]
    have hdi := ops_DI h0 (l.take i) (by rw [List.length_take]; omega)
    rw [List.length_take] at hdi
    refine f18_s hk hb hWB hd hdi (by omega) fun w2 d2 s2 => ?_
    rw [← ops_take D0 hil] at d2
    try simp only [↓bx_e, ↓al_e, ↓fa_e, ↓ld_e, ↓ad_e, ↓su_e, ↓mu_e, ↓lt_e, ↓le_e, ↓gt_e, ↓ge_e, ↓eqi_e, ↓nei_e, ↓qu_e, ↓re_e, ↓cv_e, ↓nt_e, ↓pk_t, ↓pk_f, ↓pk_e, ↓eqb_e, ↓neb_e, ↓nc_e, ↓ex_e, ↓lnl_e, ↓lns_e, ↓idv_e, ↓cl_e, ↓cnd_e, ↓gd_e, ↓gd_u, ↓gdu_e, ↓rt_e, ↓jn_e, ↓dr_q, ↓kp_e, ↓mnm_e, ↓mxm_e, ↓mif_e, ↓asrt_e, ↓eqs_e, ↓nes_e, Value.cells, add_lit, cell_psh_new, cell_drw, Nat.zero_add, Nat.reduceAdd, get4_0, get4_1, get4_2, get4_3, get3_0, get3_1, get3_2, get2_0, get2_1, get1_0, Option.some.injEq, exists_eq_left', decide_true, decide_false, decide_eq_true_eq, if_true, if_false, Bool.not_true, Bool.not_false, Bool.false_eq_true, Bool.true_eq_false, Bool.not_eq_true', decide_eq_false_iff_not, not_false_eq_true, not_true_eq_false, reduceCtorEq, bx_e, al_e, fa_e, ld_e, ad_e, su_e, mu_e, lt_e, le_e, gt_e, ge_e, eqi_e, nei_e, qu_e, re_e, cv_e, nt_e, pk_t, pk_f, pk_e, eqb_e, neb_e, nc_e, ex_e, lnl_e, lns_e, idv_e, cl_e, cnd_e, gd_e, gd_u, gdu_e, rt_e, jn_e, dr_q, kp_e, mnm_e, mxm_e, mif_e, asrt_e, eqs_e, nes_e, cond_true, cond_false, Bool.true_and, Bool.and_true, Bool.false_and, Bool.and_false, decide_not, h3]
    exact ih m (i + 1) w2 (by omega) (by omega) (bs hb (S := fpD p v b) (fun k hk => Nat.le_trans hWB (fpD_B hd k hk)) hb.size s2) d2 fun w' hb' hd' hc' => kk w' hb' hd' (s2.trans hc' (fun _ _ h => h))
theorem f23_s {vs : Value} {l : List Op4} (hs : rdS 5 oR4 w vs l) (hl : l.length ≤ 300) (kk : ∀ w' p v b, Below w.heap.size w w' → DevAt w.heap.size w' p v b ((newD 8).ops l) → Q (pv p) w') : f23 (.int .i64 8) vs w Q := by
  unfold f23
  try simp only [↓bx_e, ↓al_e, ↓fa_e, ↓ld_e, ↓ad_e, ↓su_e, ↓mu_e, ↓lt_e, ↓le_e, ↓gt_e, ↓ge_e, ↓eqi_e, ↓nei_e, ↓qu_e, ↓re_e, ↓cv_e, ↓nt_e, ↓pk_t, ↓pk_f, ↓pk_e, ↓eqb_e, ↓neb_e, ↓nc_e, ↓ex_e, ↓lnl_e, ↓lns_e, ↓idv_e, ↓cl_e, ↓cnd_e, ↓gd_e, ↓gd_u, ↓gdu_e, ↓rt_e, ↓jn_e, ↓dr_q, ↓kp_e, ↓mnm_e, ↓mxm_e, ↓mif_e, ↓asrt_e, ↓eqs_e, ↓nes_e, Value.cells, add_lit, cell_psh_new, cell_drw, Nat.zero_add, Nat.reduceAdd, get4_0, get4_1, get4_2, get4_3, get3_0, get3_1, get3_2, get2_0, get2_1, get1_0, Option.some.injEq, exists_eq_left', decide_true, decide_false, decide_eq_true_eq, if_true, if_false, Bool.not_true, Bool.not_false, Bool.false_eq_true, Bool.true_eq_false, Bool.not_eq_true', decide_eq_false_iff_not, not_false_eq_true, not_true_eq_false, reduceCtorEq, bx_e, al_e, fa_e, ld_e, ad_e, su_e, mu_e, lt_e, le_e, gt_e, ge_e, eqi_e, nei_e, qu_e, re_e, cv_e, nt_e, pk_t, pk_f, pk_e, eqb_e, neb_e, nc_e, ex_e, lnl_e, lns_e, idv_e, cl_e, cnd_e, gd_e, gd_u, gdu_e, rt_e, jn_e, dr_q, kp_e, mnm_e, mxm_e, mif_e, asrt_e, eqs_e, nes_e, cond_true, cond_false, Bool.true_and, Bool.and_true, Bool.false_and, Bool.and_false, decide_not]
  refine f10_s (B := w.heap.size) 8 (k := 8) (by decide) (Nat.le_refl _) fun w2 p v b hp hb' d2 hfp hb2 => ?_
  try simp only [↓bx_e, ↓al_e, ↓fa_e, ↓ld_e, ↓ad_e, ↓su_e, ↓mu_e, ↓lt_e, ↓le_e, ↓gt_e, ↓ge_e, ↓eqi_e, ↓nei_e, ↓qu_e, ↓re_e, ↓cv_e, ↓nt_e, ↓pk_t, ↓pk_f, ↓pk_e, ↓eqb_e, ↓neb_e, ↓nc_e, ↓ex_e, ↓lnl_e, ↓lns_e, ↓idv_e, ↓cl_e, ↓cnd_e, ↓gd_e, ↓gd_u, ↓gdu_e, ↓rt_e, ↓jn_e, ↓dr_q, ↓kp_e, ↓mnm_e, ↓mxm_e, ↓mif_e, ↓asrt_e, ↓eqs_e, ↓nes_e, Value.cells, add_lit, cell_psh_new, cell_drw, Nat.zero_add, Nat.reduceAdd, get4_0, get4_1, get4_2, get4_3, get3_0, get3_1, get3_2, get2_0, get2_1, get1_0, Option.some.injEq, exists_eq_left', decide_true, decide_false, decide_eq_true_eq, if_true, if_false, Bool.not_true, Bool.not_false, Bool.false_eq_true, Bool.true_eq_false, Bool.not_eq_true', decide_eq_false_iff_not, not_false_eq_true, not_true_eq_false, reduceCtorEq, bx_e, al_e, fa_e, ld_e, ad_e, su_e, mu_e, lt_e, le_e, gt_e, ge_e, eqi_e, nei_e, qu_e, re_e, cv_e, nt_e, pk_t, pk_f, pk_e, eqb_e, neb_e, nc_e, ex_e, lnl_e, lns_e, idv_e, cl_e, cnd_e, gd_e, gd_u, gdu_e, rt_e, jn_e, dr_q, kp_e, mnm_e, mxm_e, mif_e, asrt_e, eqs_e, nes_e, cond_true, cond_false, Bool.true_and, Bool.and_true, Bool.false_and, Bool.and_false, decide_not]
  exact ⟨_, f23_loop (W := w) hs hl (Nat.le_refl _) (newD_DI 8) l.length (l.length + 1) 0 w2 (by omega) (by omega) hb2 d2 fun w' hb' hd' _ => kk w' p v b hb' hd'⟩
end
end Go.Proofs.Ytjaiodbonffciaa
