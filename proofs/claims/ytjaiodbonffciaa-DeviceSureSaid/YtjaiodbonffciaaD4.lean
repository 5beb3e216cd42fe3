/- What isn't sure, in order; all made sure. -/
import Derived.Test.YtjaiodbonffciaaD3
import Derived.Test.YtjaiodbonffciaaSh25
set_option linter.unusedVariables false
set_option linter.unusedSimpArgs false
set_option linter.unusedSectionVars false
namespace Go.Proofs.Ytjaiodbonffciaa
open Sh RowKit Go.MapKept
abbrev vL (L : List (Int × Sct)) : List (Int × Value) := L.map fun q => (q.1, Value.agg (encS q.2).toArray)
def unsL (A : List Sec) : List Int := (uns A).map fun (n : Nat) => (n : Int)
theorem uns_mem {A : List Sec} {i : Nat} : i ∈ uns A ↔ ∃ x y, A[i]? = some x ∧ x.u = some y := by
  unfold uns
  rw [List.mem_filter, List.mem_range]
  constructor
  · rintro ⟨h1, h2⟩
    rw [List.getElem?_eq_getElem h1] at h2
    obtain ⟨y, hy⟩ := Option.isSome_iff_exists.1 h2
    exact ⟨A[i], y, List.getElem?_eq_getElem h1, hy⟩
  · rintro ⟨x, y, h1, h2⟩
    refine ⟨(List.getElem?_eq_some_iff.1 h1).1, ?_⟩
    rw [h1]; simp [h2]
theorem uns_lt {A : List Sec} {i : Nat} (h : i ∈ uns A) : i < A.length := by
  obtain ⟨x, y, h1, _⟩ := uns_mem.1 h
  exact (List.getElem?_eq_some_iff.1 h1).1
theorem uns_sorted (A : List Sec) : (uns A).Pairwise (· < ·) := List.Pairwise.filter _ List.pairwise_lt_range
theorem unsL_mem {D : Dv} {i : Int} : i ∈ unsL D.A ↔ ∃ y, (D.at i).bind (·.u) = some y := by
  unfold unsL
  rw [List.mem_map]
  constructor
  · rintro ⟨n, hn, rfl⟩
    obtain ⟨x, y, h1, h2⟩ := uns_mem.1 hn
    refine ⟨y, ?_⟩
    unfold Dv.at
    rw [if_pos (by omega), Int.toNat_natCast, h1]
    exact h2
  · rintro ⟨y, hy⟩
    cases hx : D.at i with
    | none => rw [hx] at hy; cases hy
    | some x =>
      rw [hx] at hy
      obtain ⟨h0, h1, h2⟩ := at_lt hx
      exact ⟨i.toNat, uns_mem.2 ⟨x, y, h2, hy⟩, by omega⟩
theorem uns_keys {D : Dv} {L : List (Int × Sct)} (hn : ((vL L).map (·.1)).Nodup) (hl : ∀ i x, (i, x) ∈ L ↔ (D.at i).bind (·.u) = some x) : ((vL L).map (·.1)).mergeSort (fun x y => decide (x ≤ y)) = unsL D.A := by
  have hs : (unsL D.A).Pairwise (· < ·) := by
    unfold unsL
    rw [List.pairwise_map]
    exact (uns_sorted D.A).imp (by intro a b h; omega)
  have hmem : ∀ i, i ∈ (vL L).map (·.1) ↔ i ∈ unsL D.A := by
    intro i
    rw [unsL_mem]
    constructor
    · intro h
      obtain ⟨q, hq, rfl⟩ := List.mem_map.1 h
      obtain ⟨q', hq', rfl⟩ := List.mem_map.1 hq
      exact ⟨q'.2, (hl _ _).1 hq'⟩
    · rintro ⟨y, hy⟩
      exact List.mem_map.2 ⟨_, List.mem_map.2 ⟨(i, y), (hl _ _).2 hy, rfl⟩, rfl⟩
  have hp : (((vL L).map (·.1)).mergeSort (fun x y => decide (x ≤ y))).Perm (unsL D.A) := (List.mergeSort_perm _ _).trans ((List.perm_ext_iff_of_nodup hn (hs.imp (by intro a b h; omega))).2 hmem)
  refine hp.eq_of_pairwise (le := fun x y => x ≤ y) (fun a b _ _ h1 h2 => by omega) ?_ (hs.imp (by intro a b h; omega))
  exact (List.pairwise_mergeSort (le := fun x y => decide (x ≤ y)) (fun a b c h1 h2 => by simp at *; omega) (fun a b => by simp; omega) _).imp (by simp)
theorem uns_len (A : List Sec) : (uns A).length ≤ A.length := by
  unfold uns
  exact Nat.le_trans (List.length_filter_le _ _) (by simp)
section
variable {B : Nat} {w : World} {p b : Nat} {v : Value} {D : Dv} {Q : Value → World → Prop}
theorem keys_ok {L : List (Int × Sct)} (hn : D.A.length ≤ 4096) (hm : MapAt kI w b (vL L)) (hl : ∀ i x, (i, x) ∈ L ↔ (D.at i).bind (·.u) = some x) : (∀ q ∈ vL L, 0 ≤ q.1 ∧ q.1 < 4096) ∧ (vL L).length ≤ 4096 := by
  constructor
  · intro q hq
    obtain ⟨q', hq', rfl⟩ := List.mem_map.1 hq
    have h := (hl q'.1 q'.2).1 hq'
    cases hx : D.at q'.1 with
    | none => rw [hx] at h; cases h
    | some x => have := at_lt hx; show 0 ≤ q'.1 ∧ q'.1 < 4096; omega
  · have := congrArg List.length (uns_keys hm.nodup hl)
    have h2 := uns_len D.A
    simp only [List.length_mergeSort, List.length_map, vL, unsL] at this ⊢
    omega
theorem f14_s (hd : DevAt B w p v b D) (h : ∀ w' u, ownI w.heap.size 3 .i64 w' u (unsL D.A) → Below w.heap.size w w' → Q u w') : f14 (pv p) w Q := by
  unfold f14
  have c1 := hd.c1
  obtain ⟨L, hm, hl⟩ := hd.mp
  obtain ⟨k1, k2⟩ := keys_ok hd.n hm hl
  rw [pn_eq pt23]
  simp only [↓bx_e, ↓al_e, ↓fa_e, ↓ld_e, ↓ad_e, ↓su_e, ↓mu_e, ↓lt_e, ↓le_e, ↓gt_e, ↓ge_e, ↓eqi_e, ↓nei_e, ↓qu_e, ↓re_e, ↓cv_e, ↓nt_e, ↓pk_t, ↓pk_f, ↓pk_e, ↓eqb_e, ↓neb_e, ↓nc_e, ↓ex_e, ↓lnl_e, ↓lns_e, ↓idv_e, ↓cl_e, ↓cnd_e, ↓gd_e, ↓gd_u, ↓gdu_e, ↓rt_e, ↓jn_e, ↓dr_q, ↓kp_e, ↓mnm_e, ↓mxm_e, ↓mif_e, ↓asrt_e, ↓eqs_e, ↓nes_e, Value.cells, add_lit, cell_psh_new, cell_drw, Nat.zero_add, Nat.reduceAdd, get4_0, get4_1, get4_2, get4_3, get3_0, get3_1, get3_2, get2_0, get2_1, get1_0, Option.some.injEq, exists_eq_left', decide_true, decide_false, decide_eq_true_eq, if_true, if_false, Bool.not_true, Bool.not_false, Bool.false_eq_true, Bool.true_eq_false, Bool.not_eq_true', decide_eq_false_iff_not, not_false_eq_true, not_true_eq_false, reduceCtorEq, bx_e, al_e, fa_e, ld_e, ad_e, su_e, mu_e, lt_e, le_e, gt_e, ge_e, eqi_e, nei_e, qu_e, re_e, cv_e, nt_e, pk_t, pk_f, pk_e, eqb_e, neb_e, nc_e, ex_e, lnl_e, lns_e, idv_e, cl_e, cnd_e, gd_e, gd_u, gdu_e, rt_e, jn_e, dr_q, kp_e, mnm_e, mxm_e, mif_e, asrt_e, eqs_e, nes_e, cond_true, cond_false, Bool.true_and, Bool.and_true, Bool.false_and, Bool.and_false, decide_not, Option.isNone, c1]
  refine keys_s (K := fun t10 => rt t10) hm k1 k2 fun w' u ho hb => ?_
  rw [uns_keys hm.nodup hl] at ho
  exact h w' u ho hb
theorem f14_n (h : Q (.slice none 0 0) w) : f14 (.pointer none) w Q := by
  unfold f14
  rw [pn_eq pt23]
  simp only [↓bx_e, ↓al_e, ↓fa_e, ↓ld_e, ↓ad_e, ↓su_e, ↓mu_e, ↓lt_e, ↓le_e, ↓gt_e, ↓ge_e, ↓eqi_e, ↓nei_e, ↓qu_e, ↓re_e, ↓cv_e, ↓nt_e, ↓pk_t, ↓pk_f, ↓pk_e, ↓eqb_e, ↓neb_e, ↓nc_e, ↓ex_e, ↓lnl_e, ↓lns_e, ↓idv_e, ↓cl_e, ↓cnd_e, ↓gd_e, ↓gd_u, ↓gdu_e, ↓rt_e, ↓jn_e, ↓dr_q, ↓kp_e, ↓mnm_e, ↓mxm_e, ↓mif_e, ↓asrt_e, ↓eqs_e, ↓nes_e, Value.cells, add_lit, cell_psh_new, cell_drw, Nat.zero_add, Nat.reduceAdd, get4_0, get4_1, get4_2, get4_3, get3_0, get3_1, get3_2, get2_0, get2_1, get1_0, Option.some.injEq, exists_eq_left', decide_true, decide_false, decide_eq_true_eq, if_true, if_false, Bool.not_true, Bool.not_false, Bool.false_eq_true, Bool.true_eq_false, Bool.not_eq_true', decide_eq_false_iff_not, not_false_eq_true, not_true_eq_false, reduceCtorEq, bx_e, al_e, fa_e, ld_e, ad_e, su_e, mu_e, lt_e, le_e, gt_e, ge_e, eqi_e, nei_e, qu_e, re_e, cv_e, nt_e, pk_t, pk_f, pk_e, eqb_e, neb_e, nc_e, ex_e, lnl_e, lns_e, idv_e, cl_e, cnd_e, gd_e, gd_u, gdu_e, rt_e, jn_e, dr_q, kp_e, mnm_e, mxm_e, mif_e, asrt_e, eqs_e, nes_e, cond_true, cond_false, Bool.true_and, Bool.and_true, Bool.false_and, Bool.and_false, decide_not, Option.isNone]
  exact h
/-- what is sure behind some of the map's entries -/
def partS (A : List Sec) (rest : List (Int × Sct)) (S : List Sct) : Prop := S.length = A.length ∧ ∀ (i : Nat) x, A[i]? = some x → S[i]? = some (if (i : Int) ∈ rest.map (·.1) then x.s else x.now)
theorem f25_loop {r : Nat} {L : List (Int × Sct)} (hn : D.A.length ≤ 4096) (hl : ∀ i x, (i, x) ∈ L ↔ (D.at i).bind (·.u) = some x) (hpB : B ≤ p) (hbB : B ≤ b) (hrB : B ≤ r) (hrb : r ≠ b) (hpb : p ≠ b) (hrp : r ≠ p) :
    ∀ (d m : Nat) (rest : List (Int × Sct)) (w : World) (S : List Sct), rest.length = d → d < m → (∀ q ∈ rest, q ∈ L) → (rest.map (·.1)).Nodup →
    w.heap[p]? = some (.cells #[v, .map (some b), .int .i64 D.c, .int .i64 D.h] 60 (0, 0)) → ownE B 63 64 encS w v S → partS D.A rest S → RangeAt kI w r b (vL L) (vL rest) → (∀ g, v.ownBlock = some g → g ≠ r ∧ g ≠ p ∧ g ≠ b) →
    (∀ w', DevAt B w' p v b { D with A := D.A.map fun x => ⟨x.now, none⟩ } → ChgS (fun k => fpD p v b k ∨ k = r) w w' → Q (.int .i64 0) w') →
    itr (fun _ _ => bot) (f25_b2 f25_j1) m (pv p) (.pointer (some ⟨r, 0, none⟩)) w Q := by
  intro d
  induction d with
  | zero =>
    intro m rest w S hr hm hsub hnd hp ho hS hR hg kk
    obtain ⟨m, rfl⟩ : ∃ x, m = x + 1 := ⟨m - 1, by omega⟩
    show f25_b2 f25_j1 _ _ _ w Q
    unfold f25_b2
    obtain rfl : rest = [] := List.length_eq_zero_iff.1 hr
    refine next_map_e hrb hR (fun _ => ?_) (fun i hi => absurd hi (by simp))
    have c1 : w.cell? ⟨p, 1, none⟩ = some (.map (some b)) := by rw [cell_of_blk hp]; rfl
    unfold f25_j1
    have get1 : (#[Value.bool false] : Array Value)[0]? = some (.bool false) := rfl
    simp only [↓bx_e, ↓al_e, ↓fa_e, ↓ld_e, ↓ad_e, ↓su_e, ↓mu_e, ↓lt_e, ↓le_e, ↓gt_e, ↓ge_e, ↓eqi_e, ↓nei_e, ↓qu_e, ↓re_e, ↓cv_e, ↓nt_e, ↓pk_t, ↓pk_f, ↓pk_e, ↓eqb_e, ↓neb_e, ↓nc_e, ↓ex_e, ↓lnl_e, ↓lns_e, ↓idv_e, ↓cl_e, ↓cnd_e, ↓gd_e, ↓gd_u, ↓gdu_e, ↓rt_e, ↓jn_e, ↓dr_q, ↓kp_e, ↓mnm_e, ↓mxm_e, ↓mif_e, ↓asrt_e, ↓eqs_e, ↓nes_e, Value.cells, add_lit, cell_psh_new, cell_drw, Nat.zero_add, Nat.reduceAdd, get4_0, get4_1, get4_2, get4_3, get3_0, get3_1, get3_2, get2_0, get2_1, get1_0, Option.some.injEq, exists_eq_left', decide_true, decide_false, decide_eq_true_eq, if_true, if_false, Bool.not_true, Bool.not_false, Bool.false_eq_true, Bool.true_eq_false, Bool.not_eq_true', decide_eq_false_iff_not, not_false_eq_true, not_true_eq_false, reduceCtorEq, bx_e, al_e, fa_e, ld_e, ad_e, su_e, mu_e, lt_e, le_e, gt_e, ge_e, eqi_e, nei_e, qu_e, re_e, cv_e, nt_e, pk_t, pk_f, pk_e, eqb_e, neb_e, nc_e, ex_e, lnl_e, lns_e, idv_e, cl_e, cnd_e, gd_e, gd_u, gdu_e, rt_e, jn_e, dr_q, kp_e, mnm_e, mxm_e, mif_e, asrt_e, eqs_e, nes_e, cond_true, cond_false, Bool.true_and, Bool.and_true, Bool.false_and, Bool.and_false, decide_not, get1, c1]
    refine clear_map (kv := kI) KK hR.map fun w' hm' hu => ?_
    simp only [↓bx_e, ↓al_e, ↓fa_e, ↓ld_e, ↓ad_e, ↓su_e, ↓mu_e, ↓lt_e, ↓le_e, ↓gt_e, ↓ge_e, ↓eqi_e, ↓nei_e, ↓qu_e, ↓re_e, ↓cv_e, ↓nt_e, ↓pk_t, ↓pk_f, ↓pk_e, ↓eqb_e, ↓neb_e, ↓nc_e, ↓ex_e, ↓lnl_e, ↓lns_e, ↓idv_e, ↓cl_e, ↓cnd_e, ↓gd_e, ↓gd_u, ↓gdu_e, ↓rt_e, ↓jn_e, ↓dr_q, ↓kp_e, ↓mnm_e, ↓mxm_e, ↓mif_e, ↓asrt_e, ↓eqs_e, ↓nes_e, Value.cells, add_lit, cell_psh_new, cell_drw, Nat.zero_add, Nat.reduceAdd, get4_0, get4_1, get4_2, get4_3, get3_0, get3_1, get3_2, get2_0, get2_1, get1_0, Option.some.injEq, exists_eq_left', decide_true, decide_false, decide_eq_true_eq, if_true, if_false, Bool.not_true, Bool.not_false, Bool.false_eq_true, Bool.true_eq_false, Bool.not_eq_true', decide_eq_false_iff_not, not_false_eq_true, not_true_eq_false, reduceCtorEq, bx_e, al_e, fa_e, ld_e, ad_e, su_e, mu_e, lt_e, le_e, gt_e, ge_e, eqi_e, nei_e, qu_e, re_e, cv_e, nt_e, pk_t, pk_f, pk_e, eqb_e, neb_e, nc_e, ex_e, lnl_e, lns_e, idv_e, cl_e, cnd_e, gd_e, gd_u, gdu_e, rt_e, jn_e, dr_q, kp_e, mnm_e, mxm_e, mif_e, asrt_e, eqs_e, nes_e, cond_true, cond_false, Bool.true_and, Bool.and_true, Bool.false_and, Bool.and_false, decide_not]
    refine kk w' ⟨hpB, hbB, by simpa using hn, ?_, ?_, [], hm', fun i x => ?_⟩ (ChgS.of_upd hu (.inl (.inr (.inl rfl))))
    · rw [hu.block p hpb]; exact hp
    · have e : (D.A.map fun x => (⟨x.now, none⟩ : Sec)).map (·.s) = S := by
        apply List.ext_getElem?
        intro i
        rw [List.map_map, List.getElem?_map]
        cases hx : D.A[i]? with
        | none =>
          have := List.getElem?_eq_none_iff.1 hx
          rw [Option.map_none, List.getElem?_eq_none (by rw [hS.1]; exact this)]
        | some x => rw [hS.2 i x hx]; simp
      show ownE B 63 64 encS w' v ((D.A.map fun x => (⟨x.now, none⟩ : Sec)).map (·.s))
      rw [e]
      exact ownE_stay ho (fun g h => hu.block g (hg g h).2.2)
    · have : (({ D with A := D.A.map fun x => ⟨x.now, none⟩ } : Dv).at i).bind (·.u) = none := by
        unfold Dv.at
        split
        · simp only [List.getElem?_map]
          cases D.A[i.toNat]? <;> rfl
        · rfl
      rw [this]
      simp
  | succ d ih =>
    intro m rest w S hr hm hsub hnd hp ho hS hR hg kk
    obtain ⟨m, rfl⟩ : ∃ x, m = x + 1 := ⟨m - 1, by omega⟩
    show f25_b2 f25_j1 _ _ _ w Q
    unfold f25_b2
    refine next_map_e hrb hR (fun h0 => absurd h0 (by intro e; rw [List.map_eq_nil_iff] at e; rw [e] at hr; simp at hr)) (fun j hj w1 hR1 hc1 hent => ?_)
    rw [List.length_map] at hj
    have he := hent w1 rfl rfl
    simp only [List.getElem_map] at he ⊢
    have get1 : ∀ (a c : Value), (#[Value.bool true, a, c] : Array Value)[0]? = some (.bool true) := fun _ _ => rfl
    simp only [↓bx_e, ↓al_e, ↓fa_e, ↓ld_e, ↓ad_e, ↓su_e, ↓mu_e, ↓lt_e, ↓le_e, ↓gt_e, ↓ge_e, ↓eqi_e, ↓nei_e, ↓qu_e, ↓re_e, ↓cv_e, ↓nt_e, ↓pk_t, ↓pk_f, ↓pk_e, ↓eqb_e, ↓neb_e, ↓nc_e, ↓ex_e, ↓lnl_e, ↓lns_e, ↓idv_e, ↓cl_e, ↓cnd_e, ↓gd_e, ↓gd_u, ↓gdu_e, ↓rt_e, ↓jn_e, ↓dr_q, ↓kp_e, ↓mnm_e, ↓mxm_e, ↓mif_e, ↓asrt_e, ↓eqs_e, ↓nes_e, Value.cells, add_lit, cell_psh_new, cell_drw, Nat.zero_add, Nat.reduceAdd, get4_0, get4_1, get4_2, get4_3, get3_0, get3_1, get3_2, get2_0, get2_1, get1_0, Option.some.injEq, exists_eq_left', decide_true, decide_false, decide_eq_true_eq, if_true, if_false, Bool.not_true, Bool.not_false, Bool.false_eq_true, Bool.true_eq_false, Bool.not_eq_true', decide_eq_false_iff_not, not_false_eq_true, not_true_eq_false, reduceCtorEq, bx_e, al_e, fa_e, ld_e, ad_e, su_e, mu_e, lt_e, le_e, gt_e, ge_e, eqi_e, nei_e, qu_e, re_e, cv_e, nt_e, pk_t, pk_f, pk_e, eqb_e, neb_e, nc_e, ex_e, lnl_e, lns_e, idv_e, cl_e, cnd_e, gd_e, gd_u, gdu_e, rt_e, jn_e, dr_q, kp_e, mnm_e, mxm_e, mif_e, asrt_e, eqs_e, nes_e, cond_true, cond_false, Bool.true_and, Bool.and_true, Bool.false_and, Bool.and_false, decide_not, get1]
    rw [smr_run he]
    have b2 := b_psh w1 (.cells (Array.replicate 64 (.int .u8 0)) 63)
    have blk := blk_psh_new (w := w1) (o := .cells (Array.replicate 64 (.int .u8 0)) 63)
    simp only [↓bx_e, ↓al_e, ↓fa_e, ↓ld_e, ↓ad_e, ↓su_e, ↓mu_e, ↓lt_e, ↓le_e, ↓gt_e, ↓ge_e, ↓eqi_e, ↓nei_e, ↓qu_e, ↓re_e, ↓cv_e, ↓nt_e, ↓pk_t, ↓pk_f, ↓pk_e, ↓eqb_e, ↓neb_e, ↓nc_e, ↓ex_e, ↓lnl_e, ↓lns_e, ↓idv_e, ↓cl_e, ↓cnd_e, ↓gd_e, ↓gd_u, ↓gdu_e, ↓rt_e, ↓jn_e, ↓dr_q, ↓kp_e, ↓mnm_e, ↓mxm_e, ↓mif_e, ↓asrt_e, ↓eqs_e, ↓nes_e, Value.cells, add_lit, cell_psh_new, cell_drw, Nat.zero_add, Nat.reduceAdd, get4_0, get4_1, get4_2, get4_3, get3_0, get3_1, get3_2, get2_0, get2_1, get1_0, Option.some.injEq, exists_eq_left', decide_true, decide_false, decide_eq_true_eq, if_true, if_false, Bool.not_true, Bool.not_false, Bool.false_eq_true, Bool.true_eq_false, Bool.not_eq_true', decide_eq_false_iff_not, not_false_eq_true, not_true_eq_false, reduceCtorEq, bx_e, al_e, fa_e, ld_e, ad_e, su_e, mu_e, lt_e, le_e, gt_e, ge_e, eqi_e, nei_e, qu_e, re_e, cv_e, nt_e, pk_t, pk_f, pk_e, eqb_e, neb_e, nc_e, ex_e, lnl_e, lns_e, idv_e, cl_e, cnd_e, gd_e, gd_u, gdu_e, rt_e, jn_e, dr_q, kp_e, mnm_e, mxm_e, mif_e, asrt_e, eqs_e, nes_e, cond_true, cond_false, Bool.true_and, Bool.and_true, Bool.false_and, Bool.and_false, decide_not]
    refine stn_box blk (by simp) (by simp [encS_len]) (by simpa using encS_one _) fun w2 h2 hu2 => ?_
    have hb2 : Below w1.heap.size w1 w2 := b2.trans (hu2.below (Nat.le_refl _))
    have hp1 := hc1.keep hp hrp.symm
    have hp2 := stay hb2 hp1
    have k0 : (drw w2).cell? ⟨p, 0, none⟩ = some v := by
      show w2.cell? _ = _
      rw [cell_of_blk hp2]; rfl
    simp only [↓bx_e, ↓al_e, ↓fa_e, ↓ld_e, ↓ad_e, ↓su_e, ↓mu_e, ↓lt_e, ↓le_e, ↓gt_e, ↓ge_e, ↓eqi_e, ↓nei_e, ↓qu_e, ↓re_e, ↓cv_e, ↓nt_e, ↓pk_t, ↓pk_f, ↓pk_e, ↓eqb_e, ↓neb_e, ↓nc_e, ↓ex_e, ↓lnl_e, ↓lns_e, ↓idv_e, ↓cl_e, ↓cnd_e, ↓gd_e, ↓gd_u, ↓gdu_e, ↓rt_e, ↓jn_e, ↓dr_q, ↓kp_e, ↓mnm_e, ↓mxm_e, ↓mif_e, ↓asrt_e, ↓eqs_e, ↓nes_e, Value.cells, add_lit, cell_psh_new, cell_drw, Nat.zero_add, Nat.reduceAdd, get4_0, get4_1, get4_2, get4_3, get3_0, get3_1, get3_2, get2_0, get2_1, get1_0, Option.some.injEq, exists_eq_left', decide_true, decide_false, decide_eq_true_eq, if_true, if_false, Bool.not_true, Bool.not_false, Bool.false_eq_true, Bool.true_eq_false, Bool.not_eq_true', decide_eq_false_iff_not, not_false_eq_true, not_true_eq_false, reduceCtorEq, bx_e, al_e, fa_e, ld_e, ad_e, su_e, mu_e, lt_e, le_e, gt_e, ge_e, eqi_e, nei_e, qu_e, re_e, cv_e, nt_e, pk_t, pk_f, pk_e, eqb_e, neb_e, nc_e, ex_e, lnl_e, lns_e, idv_e, cl_e, cnd_e, gd_e, gd_u, gdu_e, rt_e, jn_e, dr_q, kp_e, mnm_e, mxm_e, mif_e, asrt_e, eqs_e, nes_e, cond_true, cond_false, Bool.true_and, Bool.and_true, Bool.false_and, Bool.and_false, decide_not, k0]
    refine ldn_box (show (drw w2).heap[_]? = _ from h2) (by simp [encS_len]) ?_
    have hmem : rest[j] ∈ rest := List.getElem_mem hj
    have hLm := (hl rest[j].1 rest[j].2).1 (hsub _ hmem)
    obtain ⟨x, hx, hxu⟩ : ∃ x, D.at rest[j].1 = some x ∧ x.u = some rest[j].2 := by
      cases hx : D.at rest[j].1 with
      | none => rw [hx] at hLm; cases hLm
      | some x => rw [hx] at hLm; exact ⟨x, rfl, hLm⟩
    obtain ⟨q0, q1, q2⟩ := at_lt hx
    generalize hy : rest[j].2 = y at *
    generalize hk : rest[j].1 = key at *
    obtain ⟨n, rfl⟩ := Int.eq_ofNat_of_zero_le q0
    rw [Int.toNat_natCast] at q2
    have hg2 : ∀ g, v.ownBlock = some g → w2.heap[g]? = w.heap[g]? := fun g hgv => by
      obtain ⟨z1, z2, _⟩ := ownE_blk ho g hgv
      rw [hb2.block g (Nat.lt_of_lt_of_le z2 hc1.size), hc1.block g z2 (hg g hgv).1]
    have ho2 : ownE B 63 64 encS (drw w2) v S := ownE_stay ho hg2
    refine ia_stnE (j := .i64) (i := n) (y := y) encS_len encS_one ho2 (by rw [hS.1]; omega) fun w4 g hgv ho4 hu4 => ?_
    have hR2 : RangeAt kI (drw w2) r b (vL L) (vL (rest.eraseIdx j)) := by
      have := hR1.below hb2
      rw [← map_eraseIdx'] at this
      exact this
    have hR4 := hR2.stay (hu4.block b (fun e => (hg g hgv).2.2 e.symm)) (hu4.block r (fun e => (hg g hgv).1 e.symm))
    have hp4 : w4.heap[p]? = _ := (hu4.block p (fun e => (hg g hgv).2.1 e.symm)).trans hp2
    have hkeys : (rest.eraseIdx j).map (·.1) = (rest.map (·.1)).eraseIdx j := map_eraseIdx' _ _ _
    have hjk : (rest.map (·.1))[j]'(by simpa using hj) = (n : Int) := by rw [List.getElem_map]; exact hk
    try simp only [↓bx_e, ↓al_e, ↓fa_e, ↓ld_e, ↓ad_e, ↓su_e, ↓mu_e, ↓lt_e, ↓le_e, ↓gt_e, ↓ge_e, ↓eqi_e, ↓nei_e, ↓qu_e, ↓re_e, ↓cv_e, ↓nt_e, ↓pk_t, ↓pk_f, ↓pk_e, ↓eqb_e, ↓neb_e, ↓nc_e, ↓ex_e, ↓lnl_e, ↓lns_e, ↓idv_e, ↓cl_e, ↓cnd_e, ↓gd_e, ↓gd_u, ↓gdu_e, ↓rt_e, ↓jn_e, ↓dr_q, ↓kp_e, ↓mnm_e, ↓mxm_e, ↓mif_e, ↓asrt_e, ↓eqs_e, ↓nes_e, Value.cells, add_lit, cell_psh_new, cell_drw, Nat.zero_add, Nat.reduceAdd, get4_0, get4_1, get4_2, get4_3, get3_0, get3_1, get3_2, get2_0, get2_1, get1_0, Option.some.injEq, exists_eq_left', decide_true, decide_false, decide_eq_true_eq, if_true, if_false, Bool.not_true, Bool.not_false, Bool.false_eq_true, Bool.true_eq_false, Bool.not_eq_true', decide_eq_false_iff_not, not_false_eq_true, not_true_eq_false, reduceCtorEq, bx_e, al_e, fa_e, ld_e, ad_e, su_e, mu_e, lt_e, le_e, gt_e, ge_e, eqi_e, nei_e, qu_e, re_e, cv_e, nt_e, pk_t, pk_f, pk_e, eqb_e, neb_e, nc_e, ex_e, lnl_e, lns_e, idv_e, cl_e, cnd_e, gd_e, gd_u, gdu_e, rt_e, jn_e, dr_q, kp_e, mnm_e, mxm_e, mif_e, asrt_e, eqs_e, nes_e, cond_true, cond_false, Bool.true_and, Bool.and_true, Bool.false_and, Bool.and_false, decide_not]
    refine ih m (rest.eraseIdx j) w4 (S.set n y) (by rw [List.length_eraseIdx_of_lt hj]; omega) (by omega) (fun q hq => hsub q (List.mem_of_mem_eraseIdx hq)) (by rw [hkeys]; exact hnd.sublist (List.eraseIdx_sublist _ _)) hp4 ho4 ⟨by rw [List.length_set]; exact hS.1, fun i z hz => ?_⟩ hR4 hg fun w' hd' hc' => kk w' hd' ?_
    · rw [List.getElem?_set]
      split
      · rename_i e
        subst e
        rw [if_pos (by rw [hS.1]; omega)]
        rw [q2] at hz; cases hz
        have : ¬ ((n : Int) ∈ (rest.eraseIdx j).map (·.1)) := by
          rw [hkeys]
          intro hc
          obtain ⟨a, ha, hne, hae⟩ := List.mem_eraseIdx_iff_getElem.1 hc
          have e1 : (rest.map (·.1))[a]? = (rest.map (·.1))[j]? := by rw [List.getElem?_eq_getElem ha, List.getElem?_eq_getElem (by simpa using hj), hae, hjk]
          exact hne ((List.getElem?_inj ha hnd).1 e1)
        rw [if_neg this]
        unfold Sec.now; rw [hxu]; rfl
      · rename_i e
        rw [hS.2 i z hz]
        have : ((i : Int) ∈ (rest.eraseIdx j).map (·.1)) ↔ (i : Int) ∈ rest.map (·.1) := by
          rw [hkeys]
          constructor
          · exact List.mem_of_mem_eraseIdx
          · intro hc
            obtain ⟨a, ha, hae⟩ := List.mem_iff_getElem.1 hc
            refine List.mem_eraseIdx_iff_getElem.2 ⟨a, ha, ?_, hae⟩
            rintro rfl
            rw [hjk] at hae
            omega
        simp only [this]
    · have s1 : ChgS (fun k => fpD p v b k ∨ k = r) w w1 := ChgS.of_chg hc1 (.inr rfl)
      have s2 : ChgS (fun k => fpD p v b k ∨ k = r) w1 w2 := ChgS.of_below hb2
      have s4 : ChgS (fun k => fpD p v b k ∨ k = r) w2 w4 := (ChgS.refl _ w2).drw.trans (ChgS.of_upd hu4 (.inl (.inr (.inr hgv)))) (fun _ _ h => h)
      exact ((s1.trans s2 (fun _ _ h => h)).trans s4 (fun _ _ h => h)).trans hc' (fun _ _ h => h)
theorem f25_s (hd : DevAt B w p v b D) (h0 : 0 ≤ D.c) (h1 : D.c ≤ 1000000) (h : ∀ w', DevAt B w' p v b D.sync.2 → ChgS (fpD p v b) w w' → Q (.int .i64 D.sync.1) w') : f25 (pv p) w Q := by
  unfold f25
  simp only [↓bx_e, ↓al_e, ↓fa_e, ↓ld_e, ↓ad_e, ↓su_e, ↓mu_e, ↓lt_e, ↓le_e, ↓gt_e, ↓ge_e, ↓eqi_e, ↓nei_e, ↓qu_e, ↓re_e, ↓cv_e, ↓nt_e, ↓pk_t, ↓pk_f, ↓pk_e, ↓eqb_e, ↓neb_e, ↓nc_e, ↓ex_e, ↓lnl_e, ↓lns_e, ↓idv_e, ↓cl_e, ↓cnd_e, ↓gd_e, ↓gd_u, ↓gdu_e, ↓rt_e, ↓jn_e, ↓dr_q, ↓kp_e, ↓mnm_e, ↓mxm_e, ↓mif_e, ↓asrt_e, ↓eqs_e, ↓nes_e, Value.cells, add_lit, cell_psh_new, cell_drw, Nat.zero_add, Nat.reduceAdd, get4_0, get4_1, get4_2, get4_3, get3_0, get3_1, get3_2, get2_0, get2_1, get1_0, Option.some.injEq, exists_eq_left', decide_true, decide_false, decide_eq_true_eq, if_true, if_false, Bool.not_true, Bool.not_false, Bool.false_eq_true, Bool.true_eq_false, Bool.not_eq_true', decide_eq_false_iff_not, not_false_eq_true, not_true_eq_false, reduceCtorEq, bx_e, al_e, fa_e, ld_e, ad_e, su_e, mu_e, lt_e, le_e, gt_e, ge_e, eqi_e, nei_e, qu_e, re_e, cv_e, nt_e, pk_t, pk_f, pk_e, eqb_e, neb_e, nc_e, ex_e, lnl_e, lns_e, idv_e, cl_e, cnd_e, gd_e, gd_u, gdu_e, rt_e, jn_e, dr_q, kp_e, mnm_e, mxm_e, mif_e, asrt_e, eqs_e, nes_e, cond_true, cond_false, Bool.true_and, Bool.and_true, Bool.false_and, Bool.and_false, decide_not]
  refine f35_s hd h0 h1 fun w1 d1 hu1 => ?_
  have ch1 : ChgS (fpD p v b) w w1 := ChgS.of_upd hu1 (.inl rfl)
  by_cases ch : D.h < D.c + 1
  · simp only [↓bx_e, ↓al_e, ↓fa_e, ↓ld_e, ↓ad_e, ↓su_e, ↓mu_e, ↓lt_e, ↓le_e, ↓gt_e, ↓ge_e, ↓eqi_e, ↓nei_e, ↓qu_e, ↓re_e, ↓cv_e, ↓nt_e, ↓pk_t, ↓pk_f, ↓pk_e, ↓eqb_e, ↓neb_e, ↓nc_e, ↓ex_e, ↓lnl_e, ↓lns_e, ↓idv_e, ↓cl_e, ↓cnd_e, ↓gd_e, ↓gd_u, ↓gdu_e, ↓rt_e, ↓jn_e, ↓dr_q, ↓kp_e, ↓mnm_e, ↓mxm_e, ↓mif_e, ↓asrt_e, ↓eqs_e, ↓nes_e, Value.cells, add_lit, cell_psh_new, cell_drw, Nat.zero_add, Nat.reduceAdd, get4_0, get4_1, get4_2, get4_3, get3_0, get3_1, get3_2, get2_0, get2_1, get1_0, Option.some.injEq, exists_eq_left', decide_true, decide_false, decide_eq_true_eq, if_true, if_false, Bool.not_true, Bool.not_false, Bool.false_eq_true, Bool.true_eq_false, Bool.not_eq_true', decide_eq_false_iff_not, not_false_eq_true, not_true_eq_false, reduceCtorEq, bx_e, al_e, fa_e, ld_e, ad_e, su_e, mu_e, lt_e, le_e, gt_e, ge_e, eqi_e, nei_e, qu_e, re_e, cv_e, nt_e, pk_t, pk_f, pk_e, eqb_e, neb_e, nc_e, ex_e, lnl_e, lns_e, idv_e, cl_e, cnd_e, gd_e, gd_u, gdu_e, rt_e, jn_e, dr_q, kp_e, mnm_e, mxm_e, mif_e, asrt_e, eqs_e, nes_e, cond_true, cond_false, Bool.true_and, Bool.and_true, Bool.false_and, Bool.and_false, decide_not, ch, if_true]
    have e : D.sync = (9, D.tick) := by unfold Dv.sync; rw [if_pos ch]
    rw [e] at h
    exact h w1 d1 ch1
  have e : D.sync = (0, { D.tick with A := D.A.map fun x => ⟨x.now, none⟩ }) := by unfold Dv.sync; rw [if_neg ch]
  rw [e] at h
  have c1 := d1.c1
  simp only [↓bx_e, ↓al_e, ↓fa_e, ↓ld_e, ↓ad_e, ↓su_e, ↓mu_e, ↓lt_e, ↓le_e, ↓gt_e, ↓ge_e, ↓eqi_e, ↓nei_e, ↓qu_e, ↓re_e, ↓cv_e, ↓nt_e, ↓pk_t, ↓pk_f, ↓pk_e, ↓eqb_e, ↓neb_e, ↓nc_e, ↓ex_e, ↓lnl_e, ↓lns_e, ↓idv_e, ↓cl_e, ↓cnd_e, ↓gd_e, ↓gd_u, ↓gdu_e, ↓rt_e, ↓jn_e, ↓dr_q, ↓kp_e, ↓mnm_e, ↓mxm_e, ↓mif_e, ↓asrt_e, ↓eqs_e, ↓nes_e, Value.cells, add_lit, cell_psh_new, cell_drw, Nat.zero_add, Nat.reduceAdd, get4_0, get4_1, get4_2, get4_3, get3_0, get3_1, get3_2, get2_0, get2_1, get1_0, Option.some.injEq, exists_eq_left', decide_true, decide_false, decide_eq_true_eq, if_true, if_false, Bool.not_true, Bool.not_false, Bool.false_eq_true, Bool.true_eq_false, Bool.not_eq_true', decide_eq_false_iff_not, not_false_eq_true, not_true_eq_false, reduceCtorEq, bx_e, al_e, fa_e, ld_e, ad_e, su_e, mu_e, lt_e, le_e, gt_e, ge_e, eqi_e, nei_e, qu_e, re_e, cv_e, nt_e, pk_t, pk_f, pk_e, eqb_e, neb_e, nc_e, ex_e, lnl_e, lns_e, idv_e, cl_e, cnd_e, gd_e, gd_u, gdu_e, rt_e, jn_e, dr_q, kp_e, mnm_e, mxm_e, mif_e, asrt_e, eqs_e, nes_e, cond_true, cond_false, Bool.true_and, Bool.and_true, Bool.false_and, Bool.and_false, decide_not, ch, if_false, c1]
  obtain ⟨L, hm, hl⟩ := d1.mp
  refine range_map (kv := kI) KK hm fun w2 hR hb2 => ?_
  have d2 := d1.below hb2
  try simp only [↓bx_e, ↓al_e, ↓fa_e, ↓ld_e, ↓ad_e, ↓su_e, ↓mu_e, ↓lt_e, ↓le_e, ↓gt_e, ↓ge_e, ↓eqi_e, ↓nei_e, ↓qu_e, ↓re_e, ↓cv_e, ↓nt_e, ↓pk_t, ↓pk_f, ↓pk_e, ↓eqb_e, ↓neb_e, ↓nc_e, ↓ex_e, ↓lnl_e, ↓lns_e, ↓idv_e, ↓cl_e, ↓cnd_e, ↓gd_e, ↓gd_u, ↓gdu_e, ↓rt_e, ↓jn_e, ↓dr_q, ↓kp_e, ↓mnm_e, ↓mxm_e, ↓mif_e, ↓asrt_e, ↓eqs_e, ↓nes_e, Value.cells, add_lit, cell_psh_new, cell_drw, Nat.zero_add, Nat.reduceAdd, get4_0, get4_1, get4_2, get4_3, get3_0, get3_1, get3_2, get2_0, get2_1, get1_0, Option.some.injEq, exists_eq_left', decide_true, decide_false, decide_eq_true_eq, if_true, if_false, Bool.not_true, Bool.not_false, Bool.false_eq_true, Bool.true_eq_false, Bool.not_eq_true', decide_eq_false_iff_not, not_false_eq_true, not_true_eq_false, reduceCtorEq, bx_e, al_e, fa_e, ld_e, ad_e, su_e, mu_e, lt_e, le_e, gt_e, ge_e, eqi_e, nei_e, qu_e, re_e, cv_e, nt_e, pk_t, pk_f, pk_e, eqb_e, neb_e, nc_e, ex_e, lnl_e, lns_e, idv_e, cl_e, cnd_e, gd_e, gd_u, gdu_e, rt_e, jn_e, dr_q, kp_e, mnm_e, mxm_e, mif_e, asrt_e, eqs_e, nes_e, cond_true, cond_false, Bool.true_and, Bool.and_true, Bool.false_and, Bool.and_false, decide_not]
  have hrb : w1.heap.size ≠ b := by have := hm.lt; omega
  have hrp : w1.heap.size ≠ p := by have := d1.plt; omega
  have pb := d1.pb
  refine ⟨_, f25_loop (D := D.tick) (B := B) d1.n hl d1.pB d1.bB (Nat.le_trans d1.pB (Nat.le_of_lt d1.plt)) hrb pb hrp L.length (L.length + 1) L w2 (D.A.map (·.s)) rfl (by omega) (fun _ h => h) ?_ d2.hp d2.own ⟨by rw [List.length_map]; rfl, fun i x hx => ?_⟩ hR (fun g hg => ?_) fun w' hd' hc' => h w' hd' ?_⟩
  · have := hm.nodup
    rw [List.map_map] at this
    exact this
  · rw [List.getElem?_map, show D.A[i]? = some x from hx]
    split
    · rfl
    · rename_i c
      have hn : x.u = none := by
        cases hu : x.u with
        | none => rfl
        | some y =>
          exfalso
          apply c
          refine List.mem_map.2 ⟨((i : Int), y), (hl _ _).2 ?_, rfl⟩
          unfold Dv.at
          rw [if_pos (by omega), Int.toNat_natCast, show D.tick.A[i]? = some x from hx]
          exact hu
      simp [Sec.now, hn]
  · have := d1.gblk g hg
    have := hm.lt
    omega
  · refine ch1.trans ((ChgS.of_below hb2 : ChgS (fun k => fpD p v b k ∨ k = w1.heap.size) w1 w2).trans hc' (fun _ _ h => h) |>.mono' (T := fpD p v b) ?_) (fun _ _ h => h)
    rintro k hk (hf | rfl)
    · exact hf
    · omega
theorem f25_n (h : Q (.int .i64 1) w) : f25 (.pointer none) w Q := by
  unfold f25
  simp only [↓bx_e, ↓al_e, ↓fa_e, ↓ld_e, ↓ad_e, ↓su_e, ↓mu_e, ↓lt_e, ↓le_e, ↓gt_e, ↓ge_e, ↓eqi_e, ↓nei_e, ↓qu_e, ↓re_e, ↓cv_e, ↓nt_e, ↓pk_t, ↓pk_f, ↓pk_e, ↓eqb_e, ↓neb_e, ↓nc_e, ↓ex_e, ↓lnl_e, ↓lns_e, ↓idv_e, ↓cl_e, ↓cnd_e, ↓gd_e, ↓gd_u, ↓gdu_e, ↓rt_e, ↓jn_e, ↓dr_q, ↓kp_e, ↓mnm_e, ↓mxm_e, ↓mif_e, ↓asrt_e, ↓eqs_e, ↓nes_e, Value.cells, add_lit, cell_psh_new, cell_drw, Nat.zero_add, Nat.reduceAdd, get4_0, get4_1, get4_2, get4_3, get3_0, get3_1, get3_2, get2_0, get2_1, get1_0, Option.some.injEq, exists_eq_left', decide_true, decide_false, decide_eq_true_eq, if_true, if_false, Bool.not_true, Bool.not_false, Bool.false_eq_true, Bool.true_eq_false, Bool.not_eq_true', decide_eq_false_iff_not, not_false_eq_true, not_true_eq_false, reduceCtorEq, bx_e, al_e, fa_e, ld_e, ad_e, su_e, mu_e, lt_e, le_e, gt_e, ge_e, eqi_e, nei_e, qu_e, re_e, cv_e, nt_e, pk_t, pk_f, pk_e, eqb_e, neb_e, nc_e, ex_e, lnl_e, lns_e, idv_e, cl_e, cnd_e, gd_e, gd_u, gdu_e, rt_e, jn_e, dr_q, kp_e, mnm_e, mxm_e, mif_e, asrt_e, eqs_e, nes_e, cond_true, cond_false, Bool.true_and, Bool.and_true, Bool.false_and, Bool.and_false, decide_not]
  refine f35_n ?_
  simp only [↓bx_e, ↓al_e, ↓fa_e, ↓ld_e, ↓ad_e, ↓su_e, ↓mu_e, ↓lt_e, ↓le_e, ↓gt_e, ↓ge_e, ↓eqi_e, ↓nei_e, ↓qu_e, ↓re_e, ↓cv_e, ↓nt_e, ↓pk_t, ↓pk_f, ↓pk_e, ↓eqb_e, ↓neb_e, ↓nc_e, ↓ex_e, ↓lnl_e, ↓lns_e, ↓idv_e, ↓cl_e, ↓cnd_e, ↓gd_e, ↓gd_u, ↓gdu_e, ↓rt_e, ↓jn_e, ↓dr_q, ↓kp_e, ↓mnm_e, ↓mxm_e, ↓mif_e, ↓asrt_e, ↓eqs_e, ↓nes_e, Value.cells, add_lit, cell_psh_new, cell_drw, Nat.zero_add, Nat.reduceAdd, get4_0, get4_1, get4_2, get4_3, get3_0, get3_1, get3_2, get2_0, get2_1, get1_0, Option.some.injEq, exists_eq_left', decide_true, decide_false, decide_eq_true_eq, if_true, if_false, Bool.not_true, Bool.not_false, Bool.false_eq_true, Bool.true_eq_false, Bool.not_eq_true', decide_eq_false_iff_not, not_false_eq_true, not_true_eq_false, reduceCtorEq, bx_e, al_e, fa_e, ld_e, ad_e, su_e, mu_e, lt_e, le_e, gt_e, ge_e, eqi_e, nei_e, qu_e, re_e, cv_e, nt_e, pk_t, pk_f, pk_e, eqb_e, neb_e, nc_e, ex_e, lnl_e, lns_e, idv_e, cl_e, cnd_e, gd_e, gd_u, gdu_e, rt_e, jn_e, dr_q, kp_e, mnm_e, mxm_e, mif_e, asrt_e, eqs_e, nes_e, cond_true, cond_false, Bool.true_and, Bool.and_true, Bool.false_and, Bool.and_false, decide_not]
  exact h
end
end Go.Proofs.Ytjaiodbonffciaa
