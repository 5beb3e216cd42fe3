/- Sorted keys of a map: the kit's contracts at this program (the three layings are written by the kit's lay-plain tool). -/
import Derived.Shelf.SlIterI.Nil
import Derived.Shelf.SortM.Plain
import Derived.Shelf.SortM.SortNone
import Derived.Ground.GgzProg
import Derived.Ground.SlgmProg
import Derived.Test.YtjaiodbonffciaaProg
import Derived.Test.YtjaiodbonffciaaF1
import Derived.Test.YtjaiodbonffciaaSh24
set_option linter.unusedVariables false
set_option linter.unusedSimpArgs false
set_option linter.unusedSectionVars false
namespace Go.Proofs.Ytjaiodbonffciaa
open Go.Shelf
def keysA_ren : Go.Shelf.Ren := ⟨fun | 7 => 30 | 10 => 38 | n => n, fun | 23 => 58 | 26 => 3 | 3 => 63 | 28 => 67 | 0 => 0 | 27 => 66 | 33 => 72 | 4 => 4 | n => n, fun | n => n⟩
theorem keysA : Go.Proofs.SlLaysZI.n7 Try.prog keysA_ren := {
  mixed := by kernel_rfl
  f7 := ⟨Try.f30.name, by decide, Try.func30.trans (congrArg some (by kernel_rfl))⟩
  f10 := ⟨Try.f38.name, by decide, Try.func38.trans (congrArg some (by kernel_rfl))⟩
  t0 := Try.underlying0
  a0 := Try.isAgg0
  z0 := Try.sizeOf0
  v0 := Try.zeroValue0
  t4 := Try.underlying4
  a4 := Try.isAgg4
  z4 := Try.sizeOf4
  v4 := Try.zeroValue4
  t23 := Try.underlying58
  a23 := Try.isAgg58
  z23 := Try.sizeOf58
  v23 := Try.zeroValue58
  t26 := Try.underlying3
  a26 := Try.isAgg3
  z26 := Try.sizeOf3
  v26 := Try.zeroValue3
  t27 := Try.underlying66
  a27 := Try.isAgg66
  z27 := Try.sizeOf66
  v27 := Try.zeroValue66
  t28 := Try.underlying67
  a28 := Try.isAgg67
  z28 := Try.sizeOf67
  v28 := Try.zeroValue67
  t33 := Try.underlying72
  a33 := Try.isAgg72
  z33 := Try.sizeOf72
  v33 := Try.zeroValue72 }
def sortedA_ren : Go.Shelf.Ren := ⟨fun | 6 => 29 | 8 => 36 | 9 => 37 | 11 => 40 | 13 => 42 | 12 => 41 | 23 => 52 | 24 => 53 | 14 => 43 | 15 => 44 | 16 => 45 | 17 => 46 | 18 => 47 | 19 => 48 | 20 => 49 | 21 => 50 | 22 => 51 | 25 => 54 | 26 => 55 | 27 => 56 | 28 => 57 | 29 => 58 | 30 => 59 | 31 => 60 | n => n, fun | 26 => 3 | 28 => 67 | 24 => 29 | 0 => 0 | 3 => 3 | 37 => 25 | 48 => 85 | 50 => 87 | 4 => 4 | 40 => 78 | 39 => 77 | 45 => 82 | 5 => 5 | 9 => 9 | 51 => 88 | 55 => 92 | 57 => 94 | 58 => 95 | 33 => 72 | n => n, fun | n => n⟩
theorem sortedA : Go.Proofs.SlLaysZI.n6 Try.prog sortedA_ren := {
  mixed := by kernel_rfl
  f6 := ⟨Try.f29.name, by decide, Try.func29.trans (congrArg some (by kernel_rfl))⟩
  f8 := ⟨Try.f36.name, by decide, Try.func36.trans (congrArg some (by kernel_rfl))⟩
  f11 := ⟨Try.f40.name, by decide, Try.func40.trans (congrArg some (by kernel_rfl))⟩
  t0 := Try.underlying0
  a0 := Try.isAgg0
  z0 := Try.sizeOf0
  v0 := Try.zeroValue0
  t24 := Try.underlying29
  a24 := Try.isAgg29
  z24 := Try.sizeOf29
  v24 := Try.zeroValue29
  t26 := Try.underlying3
  a26 := Try.isAgg3
  z26 := Try.sizeOf3
  v26 := Try.zeroValue3
  t28 := Try.underlying67
  a28 := Try.isAgg67
  z28 := Try.sizeOf67
  v28 := Try.zeroValue67
  i26 := by kernel_rfl }
def sortA_ren : Go.Shelf.Ren := ⟨fun | 5 => 37 | 8 => 42 | 7 => 41 | 19 => 52 | 20 => 53 | 10 => 43 | 11 => 44 | 12 => 45 | 13 => 46 | 14 => 47 | 15 => 48 | 16 => 49 | 17 => 50 | 18 => 51 | 30 => 54 | 31 => 55 | 32 => 56 | 33 => 57 | 34 => 58 | 35 => 59 | 40 => 60 | n => n, fun | 23 => 29 | 25 => 3 | 3 => 3 | 32 => 25 | 22 => 29 | 0 => 0 | 44 => 85 | 46 => 87 | 4 => 4 | 36 => 78 | 35 => 77 | 41 => 82 | 5 => 5 | 9 => 9 | 53 => 88 | 57 => 92 | 63 => 94 | 64 => 95 | n => n, fun | n => n⟩
theorem sortA : Go.Proofs.SlLaysM.n5 Try.prog sortA_ren := {
  mixed := by kernel_rfl
  f5 := ⟨Try.f37.name, by decide, Try.func37.trans (congrArg some (by kernel_rfl))⟩
  f7 := ⟨Try.f41.name, by decide, Try.func41.trans (congrArg some (by kernel_rfl))⟩
  f8 := Try.func42.trans (congrArg some (by kernel_rfl))
  f10 := ⟨Try.f43.name, by decide, Try.func43.trans (congrArg some (by kernel_rfl))⟩
  f11 := ⟨Try.f44.name, by decide, Try.func44.trans (congrArg some (by kernel_rfl))⟩
  f12 := ⟨Try.f45.name, by decide, Try.func45.trans (congrArg some (by kernel_rfl))⟩
  f13 := ⟨Try.f46.name, by decide, Try.func46.trans (congrArg some (by kernel_rfl))⟩
  f14 := ⟨Try.f47.name, by decide, Try.func47.trans (congrArg some (by kernel_rfl))⟩
  f15 := ⟨Try.f48.name, by decide, Try.func48.trans (congrArg some (by kernel_rfl))⟩
  f16 := ⟨Try.f49.name, by decide, Try.func49.trans (congrArg some (by kernel_rfl))⟩
  f17 := ⟨Try.f50.name, by decide, Try.func50.trans (congrArg some (by kernel_rfl))⟩
  f18 := ⟨Try.f51.name, by decide, Try.func51.trans (congrArg some (by kernel_rfl))⟩
  f19 := Try.func52.trans (congrArg some (by kernel_rfl))
  f20 := Try.func53.trans (congrArg some (by kernel_rfl))
  f30 := ⟨Try.f54.name, by decide, Try.func54.trans (congrArg some (by kernel_rfl))⟩
  f31 := Try.func55.trans (congrArg some (by kernel_rfl))
  f32 := Try.func56.trans (congrArg some (by kernel_rfl))
  f33 := ⟨Try.f57.name, by decide, Try.func57.trans (congrArg some (by kernel_rfl))⟩
  f34 := ⟨Try.f58.name, by decide, Try.func58.trans (congrArg some (by kernel_rfl))⟩
  f35 := ⟨Try.f59.name, by decide, Try.func59.trans (congrArg some (by kernel_rfl))⟩
  f40 := ⟨Try.f60.name, by decide, Try.func60.trans (congrArg some (by kernel_rfl))⟩
  t0 := Try.underlying0
  a0 := Try.isAgg0
  z0 := Try.sizeOf0
  v0 := Try.zeroValue0
  t3 := Try.underlying3
  a3 := Try.isAgg3
  z3 := Try.sizeOf3
  v3 := Try.zeroValue3
  t4 := Try.underlying4
  a4 := Try.isAgg4
  z4 := Try.sizeOf4
  v4 := Try.zeroValue4
  t5 := Try.underlying5
  a5 := Try.isAgg5
  z5 := Try.sizeOf5
  v5 := Try.zeroValue5
  t9 := Try.underlying9
  a9 := Try.isAgg9
  z9 := Try.sizeOf9
  v9 := Try.zeroValue9
  t22 := Try.underlying29
  a22 := Try.isAgg29
  z22 := Try.sizeOf29
  v22 := Try.zeroValue29
  t23 := Try.underlying29
  a23 := Try.isAgg29
  z23 := Try.sizeOf29
  v23 := Try.zeroValue29
  t25 := Try.underlying3
  a25 := Try.isAgg3
  z25 := Try.sizeOf3
  v25 := Try.zeroValue3
  t32 := Try.underlying25
  a32 := Try.isAgg25
  z32 := Try.sizeOf25
  v32 := Try.zeroValue25
  t35 := Try.underlying77
  a35 := Try.isAgg77
  z35 := Try.sizeOf77
  v35 := Try.zeroValue77
  t36 := Try.underlying78
  a36 := Try.isAgg78
  z36 := Try.sizeOf78
  v36 := Try.zeroValue78
  t41 := Try.underlying82
  a41 := Try.isAgg82
  z41 := Try.sizeOf82
  v41 := Try.zeroValue82
  t44 := Try.underlying85
  a44 := Try.isAgg85
  z44 := Try.sizeOf85
  v44 := Try.zeroValue85
  t46 := Try.underlying87
  a46 := Try.isAgg87
  z46 := Try.sizeOf87
  v46 := Try.zeroValue87
  t53 := Try.underlying88
  a53 := Try.isAgg88
  z53 := Try.sizeOf88
  v53 := Try.zeroValue88
  t57 := Try.underlying92
  a57 := Try.isAgg92
  z57 := Try.sizeOf92
  v57 := Try.zeroValue92
  t63 := Try.underlying94
  a63 := Try.isAgg94
  z63 := Try.sizeOf94
  v63 := Try.zeroValue94
  t64 := Try.underlying95
  a64 := Try.isAgg95
  z64 := Try.sizeOf95
  v64 := Try.zeroValue95 }
open Sh RowKit Go.Maps Go.Sort
theorem sortsA (m : Nat) : AnyZI.SortsIn Try.prog sortedA_ren Fence.wide m :=
  ⟨fun blk off cap ss W hH hblk hsz => callsIn_wide.2 (AnyM.slices_Sort_int sortA blk off cap ss W hH hblk hsz),
   fun p cap W => callsIn_wide.2 (AnyM.slices_Sort_int_none sortA p cap W)⟩
def kI : Int → Value := fun i => .int .i64 i
abbrev R0 : Value → Option (DataW Unit × List MemPlace) := fun _ => some (.map [], [])
theorem sorted_c {w : World} {b nn : Nat} {D0 : DataW Unit} (hown : w.ownsMap Try.prog 3 R0 b nn D0) (hmax : Maps.size D0 ≤ maxLen) (hbytes : Maps.size D0 * 8 ≤ 140737488355328) :
    Calls Try.prog 29 #[.func (.func 38) #[] #[.pointer (some ⟨w.heap.size, 0, none⟩)]] (w.alloc (.cells #[.map (some b)] 58)) fun e w' => ∃ (v : Value) (ss : List Int), e = .returned v ∧ ss.Perm (intKeys D0) ∧
      w'.ownsRow (w.heap.size + 1) 3 1 v ss.length ((ss.mergeSort (fun x y => decide (x ≤ y))).map encZ) ∧ Below (w.heap.size + 1) (w.alloc (.cells #[.map (some b)] 58)) w' := by
  refine (callsIn_wide (n := 5)).1 ?_
  have hbl := hown.lt
  have hseq : SeqGives Fence.wide 2 Try.prog 38 #[.pointer (some ⟨w.heap.size, 0, none⟩)] encZ (fun ss => ss.Perm (intKeys D0)) (Maps.size D0) (w.alloc (.cells #[.map (some b)] 58)) :=
    AnyZI.keys_gives (ρ := keysA_ren) { keysA with } Fence.wide _ trivial rfl (by omega) w.heap.size b nn D0 _ (by simp) (by simp) (by
      obtain ⟨es, clock, hb, Ft, hs, hD⟩ := hown
      exact ⟨es, clock, (Below.heap_alloc _ _ b hbl).trans hb, Ft, hs, hD⟩)
  have cS := AnyZI.sorted_in sortedA Fence.wide 5 trivial trivial trivial trivial rfl (by omega) (sortsA _) (enters_of Try.func37 (by kernel_rfl) rfl) 38 #[.pointer (some ⟨w.heap.size, 0, none⟩)] trivial (enters_of Try.func38 (by kernel_rfl) rfl) _ _ hmax hbytes _ hseq
  change CallsIn _ _ Try.prog 29 _ _ _ at cS
  refine cS.mono ?_
  rintro e w' ⟨v, ss, rfl, hS, hrow, hnil, hb⟩
  have hrow2 : w'.ownsRow (w.heap.size + 1) 3 1 v ss.length ((ss.mergeSort (fun x y => decide (x ≤ y))).map encZ) := by
    have := hrow
    simp only [World.size_alloc] at this
    exact this
  exact ⟨v, ss, rfl, hS, hrow2, by simpa using hb⟩
open Go.WideElems in
theorem ownsMap_of {w : World} {b : Nat} {L : List (Int × Value)} (h : MapAt kI w b L) (hk : ∀ p ∈ L, 0 ≤ p.1 ∧ p.1 < 4096) (hL : L.length ≤ 4096) :
    ∃ D0 : DataW Unit, w.ownsMap Try.prog 3 R0 b L.length D0 ∧ (intKeys D0).Perm (L.map (·.1)) ∧ Maps.size D0 = L.length := by
  obtain ⟨es, clock, h1, h2, h3⟩ := h
  have hlen : es.size = L.length := by have := congrArg List.length h3; simpa using this
  have hrd : ∀ x ∈ es.toList, ∃ i : Int, (∃ v, (i, v) ∈ L) ∧ x.key = .int .i64 i ∧ WideElems.rd (H := Unit) Try.prog 3 R0 x = some (.int .i64 i, .map []) := by
    intro x hx
    have : (x.key, x.val) ∈ L.map (fun p => (kI p.1, p.2)) := h3 ▸ List.mem_map.2 ⟨x, hx, rfl⟩
    obtain ⟨p, hp, e⟩ := List.mem_map.1 this
    have e1 : x.key = kI p.1 := (Prod.mk.inj e).1.symm
    have hr := hk p hp
    have hw : (Lit.int .i64 p.1).wf = true := by
      unfold Lit.wf; simp [IntKind.min, IntKind.max, IntKind.signed, IntKind.bits]; omega
    refine ⟨p.1, ⟨p.2, hp⟩, e1, ?_⟩
    unfold WideElems.rd
    rw [e1, show kI p.1 = .int .i64 p.1 from rfl, Go.Maps.keyOf_int_mk Try.underlying3 hw]
    rfl
  refine ⟨.map ((es.toList.map (rg Try.prog 3 R0)).foldr DataW.insert []), ⟨es, clock, h1, ⟨by rw [hlen]; unfold maxLen; omega, h2, fun x hx => ?_⟩, by omega, rfl⟩, ?_, ?_⟩
  · obtain ⟨i, _, _, e⟩ := hrd x hx
    exact ⟨_, e⟩
  · show List.Perm (((es.toList.map (rg Try.prog 3 R0)).foldr DataW.insert []).map fun p => Go.intOf p.1) _
    refine ((WideShapes.sorted_perm _).map _).trans ?_
    have : (es.toList.map (rg (H := Unit) Try.prog 3 R0)).map (fun p => Go.intOf p.1) = L.map (·.1) := by
      rw [List.map_map]
      have e2 : L.map (·.1) = (L.map (fun p => (kI p.1, p.2))).map (fun q => match q.1 with | .int _ a => a | _ => 0) := by
        rw [List.map_map]; rfl
      rw [e2, ← h3, List.map_map]
      refine List.map_congr_left fun x hx => ?_
      obtain ⟨i, _, e, e'⟩ := hrd x hx
      simp [rg, e', e, Go.intOf]
    rw [this]
  · show ((es.toList.map (rg Try.prog 3 R0)).foldr DataW.insert []).length = _
    rw [(WideShapes.sorted_perm _).length_eq, List.length_map, Array.length_toList, hlen]
/-- the keys of a map, in order -/
theorem keys_s {w : World} {b : Nat} {L : List (Int × Value)} {K : Value → M} {Q : Value → World → Prop} (h : MapAt kI w b L) (hk : ∀ p ∈ L, 0 ≤ p.1 ∧ p.1 < 4096) (hL : L.length ≤ 4096)
    (kk : ∀ w' v, ownI w.heap.size 3 .i64 w' v ((L.map (·.1)).mergeSort (fun x y => decide (x ≤ y))) → Below w.heap.size w w' → K v w' Q) : cl (f30 (.map (some b))) (fun t9 => cc Try.prog 29 #[t9] K) w Q := by
  obtain ⟨D0, ho, hp, hs⟩ := ownsMap_of h hk hL
  have hc := sorted_c ho (by rw [hs]; unfold maxLen; omega) (by rw [hs]; omega)
  unfold f30
  simp only [↓bx_e, ↓al_e, ↓fa_e, ↓ld_e, ↓ad_e, ↓su_e, ↓mu_e, ↓lt_e, ↓le_e, ↓gt_e, ↓ge_e, ↓eqi_e, ↓nei_e, ↓qu_e, ↓re_e, ↓cv_e, ↓nt_e, ↓pk_t, ↓pk_f, ↓pk_e, ↓eqb_e, ↓neb_e, ↓nc_e, ↓ex_e, ↓lnl_e, ↓lns_e, ↓idv_e, ↓cl_e, ↓cnd_e, ↓gd_e, ↓gd_u, ↓gdu_e, ↓rt_e, ↓jn_e, ↓dr_q, ↓kp_e, ↓mnm_e, ↓mxm_e, ↓mif_e, ↓asrt_e, ↓eqs_e, ↓nes_e, Value.cells, add_lit, cell_psh_new, cell_drw, Nat.zero_add, Nat.reduceAdd, get4_0, get4_1, get4_2, get4_3, get3_0, get3_1, get3_2, get2_0, get2_1, get1_0, Option.some.injEq, exists_eq_left', decide_true, decide_false, decide_eq_true_eq, if_true, if_false, Bool.not_true, Bool.not_false, Bool.false_eq_true, Bool.true_eq_false, Bool.not_eq_true', decide_eq_false_iff_not, not_false_eq_true, not_true_eq_false, reduceCtorEq, bx_e, al_e, fa_e, ld_e, ad_e, su_e, mu_e, lt_e, le_e, gt_e, ge_e, eqi_e, nei_e, qu_e, re_e, cv_e, nt_e, pk_t, pk_f, pk_e, eqb_e, neb_e, nc_e, ex_e, lnl_e, lns_e, idv_e, cl_e, cnd_e, gd_e, gd_u, gdu_e, rt_e, jn_e, dr_q, kp_e, mnm_e, mxm_e, mif_e, asrt_e, eqs_e, nes_e, cond_true, cond_false, Bool.true_and, Bool.and_true, Bool.false_and, Bool.and_false, decide_not]
  refine hc.mono ?_
  rintro e w' ⟨v, ss, rfl, hS, hrow, hb⟩
  have e1 : ss.mergeSort (fun x y => decide (x ≤ y)) = (L.map (·.1)).mergeSort (fun x y => decide (x ≤ y)) := by
    have hp2 : ((ss.mergeSort (fun x y => decide (x ≤ y))).Perm ((L.map (·.1)).mergeSort (fun x y => decide (x ≤ y)))) := (List.mergeSort_perm _ _).trans ((hS.trans hp).trans (List.mergeSort_perm _ _).symm)
    refine hp2.eq_of_pairwise (le := fun x y => x ≤ y) (fun a b _ _ h1 h2 => by omega) ?_ ?_
    · exact (List.pairwise_mergeSort (le := fun x y => decide (x ≤ y)) (fun a b c h1 h2 => by simp at *; omega) (fun a b => by simp; omega) _).imp (by simp)
    · exact (List.pairwise_mergeSort (le := fun x y => decide (x ≤ y)) (fun a b c h1 h2 => by simp at *; omega) (fun a b => by simp; omega) _).imp (by simp)
  rw [e1] at hrow
  have hl : ss.length = ((L.map (·.1)).mergeSort (fun x y => decide (x ≤ y))).length := by rw [← e1, List.length_mergeSort]
  refine kk w' v ?_ ⟨hb.os, hb.tape, hb.output, Nat.le_trans (by simp) hb.size, fun k hk => ?_⟩
  · have : ownI (w.heap.size + 1) 3 .i64 w' v ((L.map (·.1)).mergeSort (fun x y => decide (x ≤ y))) := by
      unfold ownI
      rw [← hl]
      exact hrow
    exact ownI_weak this (by omega)
  · rw [hb.block k (by omega)]
    exact Below.heap_alloc _ _ k hk
end Go.Proofs.Ytjaiodbonffciaa
