/- The call of ReportParts returns true for every input, and its arguments read behind it as they read before. -/
import Derived.Test.YtiajdaagamhbnaaZ0
import Derived.SizedLaws
import Derived.Carry
import Derived.ProofKit
import Derived.JoinedCond
import Derived.Deep.CondSized
import Derived.OpenShut
set_option linter.unusedVariables false
set_option linter.unusedSimpArgs false
set_option linter.unusedSectionVars false
namespace Go.Proofs.Ytiajdaagamhbnaa
open Go.Shelf
open Sh RowKit Go.Maps Go.Sort
def kI : Int → Value := fun i => .int .i64 i
theorem sortsA (m : Nat) : AnyZI.SortsIn Try.prog sortedA_ren Fence.wide m :=
  ⟨fun blk off cap ss W hH hblk hsz => callsIn_wide.2 (AnyM.slices_Sort_int sortA blk off cap ss W hH hblk hsz),
   fun p cap W => callsIn_wide.2 (AnyM.slices_Sort_int_none sortA p cap W)⟩
abbrev R0 : Value → Option (DataW Unit × List MemPlace) := fun _ => some (.map [], [])
theorem sorted_c {w : World} {b nn : Nat} {D0 : DataW Unit} (hown : w.ownsMap Try.prog 3 R0 b nn D0) (hmax : Maps.size D0 ≤ maxLen) (hbytes : Maps.size D0 * 8 ≤ 140737488355328) :
    Calls Try.prog 25 #[.func (.func 46) #[] #[.pointer (some ⟨w.heap.size, 0, none⟩)]] (w.alloc (.cells #[.map (some b)] 58)) fun e w' => ∃ (v : Value) (ss : List Int), e = .returned v ∧ ss.Perm (intKeys D0) ∧
      w'.ownsRow (w.heap.size + 1) 3 1 v ss.length ((ss.mergeSort (fun x y => decide (x ≤ y))).map encZ) ∧ Below (w.heap.size + 1) (w.alloc (.cells #[.map (some b)] 58)) w' := by
  refine (callsIn_wide (n := 5)).1 ?_
  have hbl := hown.lt
  have hseq : SeqGives Fence.wide 2 Try.prog 46 #[.pointer (some ⟨w.heap.size, 0, none⟩)] encZ (fun ss => ss.Perm (intKeys D0)) (Maps.size D0) (w.alloc (.cells #[.map (some b)] 58)) :=
    AnyZI.keys_gives (ρ := keysA_ren) { keysA with } Fence.wide _ trivial rfl (by omega) w.heap.size b nn D0 _ (by simp) (by simp) (by
      obtain ⟨es, clock, hb, Ft, hs, hD⟩ := hown
      exact ⟨es, clock, (Below.heap_alloc _ _ b hbl).trans hb, Ft, hs, hD⟩)
  have cS := AnyZI.sorted_in sortedA Fence.wide 5 trivial trivial trivial trivial rfl (by omega) (sortsA _) (enters_of Try.func45 (by kernel_rfl) rfl) 46 #[.pointer (some ⟨w.heap.size, 0, none⟩)] trivial (enters_of Try.func46 (by kernel_rfl) rfl) _ _ hmax hbytes _ hseq
  change CallsIn _ _ Try.prog 25 _ _ _ at cS
  refine cS.mono ?_
  rintro e w' ⟨v, ss, rfl, hS, hrow, hnil, hb⟩
  have hrow2 : w'.ownsRow (w.heap.size + 1) 3 1 v ss.length ((ss.mergeSort (fun x y => decide (x ≤ y))).map encZ) := by
    have := hrow
    simp only [World.size_alloc] at this
    exact this
  exact ⟨v, ss, rfl, hS, hrow2, by simpa using hb⟩
open Go.WideElems in
theorem ownsMap_of {w : World} {b : Nat} {L : List (Int × Value)} (h : MapAt kI w b L) (hk : ∀ p ∈ L, (Lit.int .i64 p.1).wf = true) (hL : L.length ≤ 4096) :
    ∃ D0 : DataW Unit, w.ownsMap Try.prog 3 R0 b L.length D0 ∧ (intKeys D0).Perm (L.map (·.1)) ∧ Maps.size D0 = L.length := by
  obtain ⟨es, clock, h1, h2, h3⟩ := h
  have hlen : es.size = L.length := by have := congrArg List.length h3; simpa using this
  have hrd : ∀ x ∈ es.toList, ∃ i : Int, (∃ v, (i, v) ∈ L) ∧ x.key = .int .i64 i ∧ WideElems.rd (H := Unit) Try.prog 3 R0 x = some (.int .i64 i, .map []) := by
    intro x hx
    have : (x.key, x.val) ∈ L.map (fun p => (kI p.1, p.2)) := h3 ▸ List.mem_map.2 ⟨x, hx, rfl⟩
    obtain ⟨p, hp, e⟩ := List.mem_map.1 this
    have e1 : x.key = kI p.1 := (Prod.mk.inj e).1.symm
    have hw : (Lit.int .i64 p.1).wf = true := hk p hp
    refine ⟨p.1, ⟨p.2, hp⟩, e1, ?_⟩
    unfold WideElems.rd
    rw [e1, show kI p.1 = .int .i64 p.1 from rfl, Go.Maps.keyOf_int_mk Try.underlying3 hw]
    rfl
  refine ⟨.map ((es.toList.map (rg Try.prog 3 R0)).foldr DataW.insert []), ⟨es, clock, h1, ⟨by rw [hlen]; unfold maxLen; omega, h2, fun x hx => ?_⟩, by omega, rfl⟩, ?_, ?_⟩
  · obtain ⟨i, _, _, e⟩ := hrd x hx
    exact ⟨_, e⟩
  · show List.Perm (((es.toList.map (rg Try.prog 3 R0)).foldr DataW.insert []).map fun p => Go.intOf p.1) _
    refine ((WideShapes.sorted_perm _).map _).trans ?_
    have : (es.toList.map (rg (H := Unit) Try.prog 3 R0)).map (fun p => Go.intOf p.1) = L.map (·.1) := by
      rw [List.map_map]
      have e2 : L.map (·.1) = (L.map (fun p => (kI p.1, p.2))).map (fun q => match q.1 with | .int _ a => a | _ => 0) := by
        rw [List.map_map]; rfl
      rw [e2, ← h3, List.map_map]
      refine List.map_congr_left fun x hx => ?_
      obtain ⟨i, _, e, e'⟩ := hrd x hx
      simp [rg, e', e, Go.intOf]
    rw [this]
  · show ((es.toList.map (rg Try.prog 3 R0)).foldr DataW.insert []).length = _
    rw [(WideShapes.sorted_perm _).length_eq, List.length_map, Array.length_toList, hlen]
/-- the keys of a map, in order -/
theorem keys_s {w : World} {b : Nat} {L : List (Int × Value)} {K : Value → M} {Q : Value → World → Prop} (h : MapAt kI w b L) (hk : ∀ p ∈ L, (Lit.int .i64 p.1).wf = true) (hL : L.length ≤ 4096)
    (kk : ∀ w' v, ownI w.heap.size 3 .i64 w' v ((L.map (·.1)).mergeSort (fun x y => decide (x ≤ y))) → Below w.heap.size w w' → K v w' Q) : cc Try.prog 26 #[.map (some b)] (fun t9 => cc Try.prog 25 #[t9] K) w Q := by
  obtain ⟨D0, ho, hp, hs⟩ := ownsMap_of h hk hL
  have hc := sorted_c ho (by rw [hs]; unfold maxLen; omega) (by rw [hs]; omega)
  have cK : Calls Try.prog 26 #[.map (some b)] w fun e w' => e = .returned (.func (.func 46) #[] #[.pointer (some ⟨w.heap.size, 0, none⟩)]) ∧ w' = w.alloc (.cells #[.map (some b)] 58) := (callsIn_wide (n := 5)).1 (AnyZI.keys_in keysA Fence.wide 5 trivial rfl (some b) w)
  refine cK.mono ?_
  rintro e w' ⟨rfl, rfl⟩
  refine hc.mono ?_
  rintro e w' ⟨v, ss, rfl, hS, hrow, hb⟩
  have e1 : ss.mergeSort (fun x y => decide (x ≤ y)) = (L.map (·.1)).mergeSort (fun x y => decide (x ≤ y)) := by
    have hp2 : ((ss.mergeSort (fun x y => decide (x ≤ y))).Perm ((L.map (·.1)).mergeSort (fun x y => decide (x ≤ y)))) := (List.mergeSort_perm _ _).trans ((hS.trans hp).trans (List.mergeSort_perm _ _).symm)
    refine hp2.eq_of_pairwise (le := fun x y => x ≤ y) (fun a b _ _ h1 h2 => by omega) ?_ ?_
    · exact (List.pairwise_mergeSort (le := fun x y => decide (x ≤ y)) (fun a b c h1 h2 => by simp at *; omega) (fun a b => by simp; omega) _).imp (by simp)
    · exact (List.pairwise_mergeSort (le := fun x y => decide (x ≤ y)) (fun a b c h1 h2 => by simp at *; omega) (fun a b => by simp; omega) _).imp (by simp)
  rw [e1] at hrow
  have hl : ss.length = ((L.map (·.1)).mergeSort (fun x y => decide (x ≤ y))).length := by rw [← e1, List.length_mergeSort]
  refine kk w' v ?_ ⟨hb.os, hb.tape, hb.output, Nat.le_trans (by simp) hb.size, fun k hk => ?_⟩
  · have : ownI (w.heap.size + 1) 3 .i64 w' v ((L.map (·.1)).mergeSort (fun x y => decide (x ≤ y))) := by
      unfold ownI
      rw [← hl]
      exact hrow
    exact ownI_weak this (by omega)
  · rw [hb.block k (by omega)]
    exact Below.heap_alloc _ _ k hk
end Go.Proofs.Ytiajdaagamhbnaa

namespace Go.Proofs.Ytiajdaagamhbnaa
open Sh RowKit Go.MapKept

theorem KKc : KeyK Try.prog 58 3 28 (.int .i64) kI := ⟨by kernel_rfl, by kernel_rfl, fun a => by simp [kI, IsKey], fun a b h => by simpa [kI] using h⟩
theorem zero28 : zeroIs Try.prog 28 (.agg (cC (ctL []))) := by
  unfold zeroIs
  kernel_rfl
/-- a program's workflows -/
def flP (p : Int) (l : List Fl) : List Fl := l.filter fun f => decide (f.prog = p)
theorem flP_one (p : Int) (l : List Fl) (f : Fl) : flP p (l ++ [f]) = flP p l ++ (if f.prog = p then [f] else []) := by
  unfold flP
  rw [List.filter_append, List.filter_cons]
  by_cases c : f.prog = p <;> simp [c]
/-- the map of what each program's workflows come to -/
def MapOf (l : List Fl) (L : List (Int × Value)) : Prop := ∀ p, lk L p = if flP p l = [] then none else some (.agg (cC (ctL (flP p l))))
theorem MapOf.get {l : List Fl} {L : List (Int × Value)} (h : MapOf l L) (p : Int) : (lk L p).getD (.agg (cC (ctL []))) = .agg (cC (ctL (flP p l))) := by
  rw [h p]
  by_cases c : flP p l = []
  · rw [if_pos c, c]; rfl
  · rw [if_neg c]; rfl
theorem MapOf.put {l : List Fl} {L : List (Int × Value)} (h : MapOf l L) (f : Fl) : MapOf (l ++ [f]) (put L f.prog (.agg (cC (ctL (flP f.prog l ++ [f]))))) := by
  intro p
  rw [lk_put, flP_one]
  by_cases c : p = f.prog
  · subst c
    rw [if_pos rfl, if_pos rfl, if_neg (by simp)]
  · rw [if_neg c, if_neg (Ne.symm c), List.append_nil]
    exact h p
theorem MapOf.nil : MapOf [] [] := by
  intro p
  rfl
theorem MapOf.keys {l : List Fl} {L : List (Int × Value)} (h : MapOf l L) (p : Int) : p ∈ L.map (·.1) ↔ ∃ f ∈ l, f.prog = p := by
  have h1 : p ∈ L.map (·.1) ↔ lk L p ≠ none := by
    rw [Ne, lk_none]
    constructor
    · intro hp e
      obtain ⟨q, hq, e2⟩ := List.mem_map.1 hp
      exact e q hq e2
    · intro hp
      apply Classical.byContradiction
      intro hn
      exact hp fun q hq e => hn (List.mem_map.2 ⟨q, hq, e⟩)
  rw [h1, h p]
  by_cases c : flP p l = []
  · rw [if_pos c]
    constructor
    · intro e; exact absurd rfl e
    · rintro ⟨f, hf, e⟩
      have : f ∈ flP p l := List.mem_filter.2 ⟨hf, by simpa using e⟩
      rw [c] at this; cases this
  · rw [if_neg c]
    constructor
    · intro _
      obtain ⟨f, hf⟩ := List.exists_mem_of_ne_nil _ c
      obtain ⟨h2, h3⟩ := List.mem_filter.1 hf
      exact ⟨f, h2, by simpa using h3⟩
    · intro _ e; cases e
/-- a line: a program, its workflows -/
def encL (x : Int × List Fl) : List Value := .int .i64 x.1 :: (cC (ctL x.2)).toList
theorem encL_len : ∀ x, (encL x).length = 7 := fun _ => rfl
theorem encL_one : ∀ x, ∀ c ∈ encL x, c.oneCell' = true := by
  intro x c hc
  rcases List.mem_cons.1 hc with rfl | hc
  · rfl
  · exact cC_one _ c hc
theorem build31 (p : Int) (x : Nat → Int) (w : World) : (Instr.build 31 #[(0, .int .i64 p), (1, .agg (cC x))]).run Try.prog w = .ok (.agg #[.int .i64 p, .int .i64 (x 0), .int .i64 (x 1), .int .i64 (x 2), .int .i64 (x 3), .int .i64 (x 4), .int .i64 (x 5)]) w := by
  kernel_rfl
section
variable {w : World} {Q : Value → World → Prop} {b : Nat} {lf : List Fl}
set_option maxRecDepth 20000 in
theorem by_loop {W : World} {v : Value} {j1 : Value → M} (hr : rdS 14 (eR encF) W v lf) (hl : lf.length ≤ 1000000) (hB : W.heap.size ≤ b) : ∀ (m i : Nat) (L : List (Int × Value)) (w : World), i + m = lf.length → Below W.heap.size W w → MapAt kI w b L → MapOf (lf.take i) L →
    (∀ w' L', Below W.heap.size W w' → MapAt kI w' b L' → MapOf lf L' → j1 (.map (some b)) w' Q) →
    itr (fun _ _ _ _ => bot) (f9_b2 j1) (m + 1) (.map (some b)) v (.int .i64 (lf.length : Int)) (.int .i64 (i : Int)) w Q := by
  intro m
  induction m with
  | zero =>
    intro i L w hi hb hm hc kk
    show f9_b2 _ _ _ _ _ _ w Q
    unfold f9_b2
    have c1 : ¬ (i : Int) < (lf.length : Int) := by omega
    simp only [↓reduceIte, ↓LL, LM, Value.cells, Nat.reduceAdd, Option.some.injEq, exists_eq_left', decide_true, decide_false, if_true, if_false, reduceCtorEq, cond_true, cond_false, c1]
    rw [List.take_of_length_le (by omega)] at hc
    exact kk w L hb hm hc
  | succ m ih =>
    intro i L w hi hb hm hc kk
    have hil : i < lf.length := by omega
    show f9_b2 _ _ _ _ _ _ w Q
    unfold f9_b2
    have c1 : (i : Int) < (lf.length : Int) := by omega
    have e5 : IntKind.i64.wrap ((i : Int) + 1) = ((i + 1 : Nat) : Int) := by rw [w64 (by omega) (by omega)]; omega
    simp only [lt_e, cnd_e, c1, decide_true, cond_true]
    refine take14 hr hb hil ?_
    have htk : lf.take (i + 1) = lf.take i ++ [lf[i]] := by rw [List.take_succ_eq_append_getElem hil]
    generalize lf[i] = f at *
    refine box14 rfl fun w1 h1 b1 => ?_
    have hm1 := hm.below b1
    have p1 : w1.cell? ⟨w.heap.size, 1, none⟩ = some (.int .i64 f.prog) := by rw [cell_of_blk (n := 1) h1]; rfl
    simp only [↓reduceIte, ↓LL, LM, Value.cells, Nat.reduceAdd, Option.some.injEq, exists_eq_left', decide_true, decide_false, if_true, if_false, reduceCtorEq, cond_true, cond_false, add_lit, Nat.zero_add, p1]
    refine (look_v KKc hm1 zero28 f.prog).mpr ?_
    rw [hc.get]
    have h2 := blk_psh_new (w := w1) (o := .cells #[.int .i64 0, .int .i64 0, .int .i64 0, .int .i64 0, .int .i64 0, .int .i64 0] 28)
    have b2 := b_psh w1 (.cells #[.int .i64 0, .int .i64 0, .int .i64 0, .int .i64 0, .int .i64 0, .int .i64 0] 28)
    show stn 6 _ _ _ (psh w1 (.cells #[.int .i64 0, .int .i64 0, .int .i64 0, .int .i64 0, .int .i64 0, .int .i64 0] 28)) Q
    refine stn_box (cs := cC (ctL (flP f.prog (lf.take i)))) h2 rfl rfl (cC_one _) fun w3 h3 u3 => ?_
    have b3 : Below w1.heap.size w1 w3 := b2.trans (u3.below (Nat.le_refl _))
    have h13 := stay b3 h1
    have hm3 := hm1.below b3
    refine ldn_box h13 rfl ?_
    rw [cl_e]
    refine f24_s h3 fun w4 h4 c4 => ?_
    have hlt : b < w1.heap.size := hm1.lt
    have hlt2 : w.heap.size < w1.heap.size := blk_lt h1
    have h14 := c4.keep h13 (by omega)
    have hm4 := hm3.chg c4 (by omega)
    have p4 : w4.cell? ⟨w.heap.size, 1, none⟩ = some (.int .i64 f.prog) := by rw [cell_of_blk (n := 1) h14]; rfl
    simp only [↓reduceIte, ↓LL, LM, Value.cells, Nat.reduceAdd, Option.some.injEq, exists_eq_left', decide_true, decide_false, if_true, if_false, reduceCtorEq, cond_true, cond_false, add_lit, Nat.zero_add, p4]
    refine ldn_box h4 rfl ?_
    refine upd_map KKc hm4 f.prog _ fun w5 hm5 u5 => ?_
    have b15 : Below W.heap.size W w5 := (bc (bt hb (bt b1 b3)) (Nat.le_trans hb.size b1.size) (bt hb (bt b1 b3)).size c4).trans (u5.below hB)
    simp only [↓reduceIte, ↓LL, LM, Value.cells, Nat.reduceAdd, Option.some.injEq, exists_eq_left', decide_true, decide_false, if_true, if_false, reduceCtorEq, cond_true, cond_false, e5]
    refine ih (i + 1) _ w5 (by omega) b15 hm5 ?_ kk
    rw [htk]
    exact hc.put f
set_option maxRecDepth 20000 in
theorem lines_loop {W : World} {j3 : Value → M} {ks : List Int} {L : List (Int × Value)} {kv : Value} (hk : rdI .i64 W kv ks) (hl : ks.length ≤ 1000000) (hm : MapAt kI W b L) (hc : MapOf lf L) {B : Nat} (hB : B ≤ W.heap.size) : ∀ (m i : Nat) (ov : Value) (w : World), i + m = ks.length → Below W.heap.size W w →
    ownE W.heap.size 31 7 encL w ov ((ks.take i).map fun p => (p, flP p lf)) →
    (∀ w' ov', Below W.heap.size W w' → ownE W.heap.size 31 7 encL w' ov' (ks.map fun p => (p, flP p lf)) → j3 ov' w' Q) →
    itr (fun _ _ _ _ _ => bot) (f9_b4 j3) (m + 1) (.map (some b)) ov kv (.int .i64 (ks.length : Int)) (.int .i64 (i : Int)) w Q := by
  intro m
  induction m with
  | zero =>
    intro i ov w hi hb ho kk
    show f9_b4 _ _ _ _ _ _ _ w Q
    unfold f9_b4
    have c1 : ¬ (i : Int) < (ks.length : Int) := by omega
    simp only [↓reduceIte, ↓LL, LM, Value.cells, Nat.reduceAdd, Option.some.injEq, exists_eq_left', decide_true, decide_false, if_true, if_false, reduceCtorEq, cond_true, cond_false, c1]
    rw [List.take_of_length_le (by omega)] at ho
    exact kk w ov hb ho
  | succ m ih =>
    intro i ov w hi hb ho kk
    have hil : i < ks.length := by omega
    show f9_b4 _ _ _ _ _ _ _ w Q
    unfold f9_b4
    have c1 : (i : Int) < (ks.length : Int) := by omega
    have e5 : IntKind.i64.wrap ((i : Int) + 1) = ((i + 1 : Nat) : Int) := by rw [w64 (by omega) (by omega)]; omega
    have e6 : (i : Int).toNat = i := Int.toNat_natCast i
    simp only [lt_e, cnd_e, c1, decide_true, cond_true]
    refine ia_ld (rdI_below hb hk) (by omega) (by omega) fun _ => ?_
    simp only [e6]
    have htk : ks.take (i + 1) = ks.take i ++ [ks[i]] := by rw [List.take_succ_eq_append_getElem hil]
    generalize ks[i] = p at *
    refine (look_v KKc (hm.below hb) zero28 p).mpr ?_
    rw [hc.get, smr_e]
    refine ⟨_, build31 _ _ _, ?_⟩
    have h31 : slT Try.prog 25 31 _ 7 _ := slt25
    refine bslE (x := (p, flP p lf)) (enc := encL) h31 rfl (by decide) (by decide) rfl fun w2 h2 hb2 => ?_
    have b2 := bt hb hb2
    have o2 := ownE_below ho hb2
    have hlt : ((ks.take i).map fun p => (p, flP p lf)).length = i := by rw [List.length_map, List.length_take]; omega
    refine ap_E (m := [(p, flP p lf)]) h31 rfl (by decide) encL_len encL_one o2 (rd_lit rfl h2) (by rw [hlt]; unfold maxLen; simp; omega) (by rw [hlt]; simp; omega) b2.size fun v3 w3 o3 g3 _ => ?_
    simp only [↓reduceIte, ↓LL, LM, Value.cells, Nat.reduceAdd, Option.some.injEq, exists_eq_left', decide_true, decide_false, if_true, if_false, reduceCtorEq, cond_true, cond_false, e5]
    refine ih (i + 1) v3 w3 (by omega) (b2.grown g3 b2.size (fun k hk => (ownE_blk o2 k hk).1)) ?_ kk
    rw [htk, List.map_append]
    exact o3
/-- the lines, program by program -/
theorem f9_s {W : World} {v : Value} (hr : rdS 14 (eR encF) W v lf) (hl : lf.length ≤ 1000) (hwf : ∀ f ∈ lf, (Lit.int .i64 f.prog).wf = true)
    (kk : ∀ w' ov (ks : List Int), Below W.heap.size W w' → ks.Pairwise (· < ·) → (∀ p, p ∈ ks ↔ ∃ f ∈ lf, f.prog = p) → ks.length ≤ 1000 → ownE W.heap.size 31 7 encL w' ov (ks.map fun p => (p, flP p lf)) → Q ov w') : f9 v W Q := by
  unfold f9
  refine mm_map (kv := kI) fun w1 hm1 b1 => ?_
  refine lnl_S hr ?_
  rw [jn_e]
  refine ⟨_, by_loop (W := W) hr (by omega) (Nat.le_refl _) lf.length 0 [] w1 (by omega) b1 hm1 MapOf.nil fun w2 L b2 hm2 hc2 => ?_⟩
  unfold f9_j1
  have hnd := hm2.nodup
  have hkeys := hc2.keys
  have hlen : L.length ≤ 1000 := by
    have this := List.Nodup.length_le_of_subset hnd (l₂ := lf.map (·.prog)) fun p hp => by
      obtain ⟨f, hf, e⟩ := (hkeys p).1 hp
      exact List.mem_map.2 ⟨f, hf, e⟩
    rw [List.length_map, List.length_map] at this
    omega
  refine keys_s hm2 (fun p hp => ?_) (by omega) fun w3 kv hkv b3 => ?_
  · obtain ⟨f, hf, e⟩ := (hkeys p.1).1 (List.mem_map.2 ⟨p, hp, rfl⟩)
    rw [← e]; exact hwf f hf
  have hm3 := hm2.below b3
  have rkv := ownI_rd hkv
  refine lnl_rd rkv ?_
  have hks : ((L.map (·.1)).mergeSort (fun x y => decide (x ≤ y))).Pairwise (· < ·) := by
    have h1 := (List.pairwise_mergeSort (le := fun x y : Int => decide (x ≤ y)) (fun a b c h1 h2 => by simp at *; omega) (fun a b => by simp; omega) (L.map (·.1)))
    have h2 : ((L.map (·.1)).mergeSort (fun x y => decide (x ≤ y))).Nodup := (List.mergeSort_perm _ _).nodup_iff.2 hnd
    refine (h1.and h2).imp ?_
    rintro a b ⟨h3, h4⟩
    have h3 : a ≤ b := by simpa using h3
    have h4 : a ≠ b := h4
    omega
  have hmem : ∀ p, p ∈ (L.map (·.1)).mergeSort (fun x y => decide (x ≤ y)) ↔ ∃ f ∈ lf, f.prog = p := fun p => by
    rw [(List.mergeSort_perm _ _).mem_iff]; exact hkeys p
  have hkl : ((L.map (·.1)).mergeSort (fun x y => decide (x ≤ y))).length ≤ 1000 := by rw [List.length_mergeSort, List.length_map]; exact hlen
  have b13 := bt b2 b3
  generalize (L.map (·.1)).mergeSort (fun x y => decide (x ≤ y)) = ks at *
  rw [jn_e]
  refine ⟨_, lines_loop (W := w3) (B := 0) rkv (by omega) hm3 hc2 (Nat.zero_le _) ks.length 0 (.slice none 0 0) w3 (by omega) (Below.refl _ _) ownE_nil fun w4 ov b4 o4 => ?_⟩
  unfold f9_j3
  rw [rt_e]
  exact kk w4 ov ks (bt b13 b4) hks hmem hkl (ownE_weak o4 b13.size)
end
end Go.Proofs.Ytiajdaagamhbnaa

namespace Go.Proofs.Ytiajdaagamhbnaa
open Sh RowKit Go.MapKept

def noV : Vl := ⟨0, 0, ⟨#[]⟩⟩
def litF (st steps : Int) : Fl := ⟨0, 0, noV, st, steps, 0, noV, 0, none, 0, 0, false⟩
theorem build55a (w : World) : (Instr.build 55 #[(3, .int .i64 1), (4, .int .i64 2)]).run Try.prog w = .ok (.agg (cF (litF 1 2))) w := by kernel_rfl
theorem build55b (w : World) : (Instr.build 55 #[(3, .int .i64 4), (4, .int .i64 3)]).run Try.prog w = .ok (.agg (cF (litF 4 3))) w := by kernel_rfl
theorem build55c (w : World) : (Instr.build 55 #[]).run Try.prog w = .ok (.agg (cF (litF 0 0))) w := by kernel_rfl
theorem slice2 (w : World) : (Instr.buildSlice 22 2 #[(0, .agg (cF (litF 1 2))), (1, .agg (cF (litF 4 3)))]).run Try.prog w = .ok (.slice (some ⟨w.heap.size, 0, none⟩) 2 2) (psh w (.cells (([litF 1 2, litF 4 3].flatMap encF).toArray) 55)) := by
  kernel_rfl
theorem rd_row {α : Type} {enc : α → List Value} {n : Nat} {e : TypeId} {w : World} {g : Nat} {l : List α} (hn : ∀ x, (enc x).length = n) (hn0 : 0 < n) (hl : l.length ≤ maxLen) (h : w.heap[g]? = some (.cells (l.flatMap enc).toArray e (0, 0))) :
    rdS n (eR enc) w (.slice (some ⟨g, 0, none⟩) l.length l.length) l := by
  have hf := flat_len hn l
  refine ownE_rd (B := 0) (e := e) hn hn0 ⟨by rw [hf], .inr ⟨g, l.length, (l.flatMap enc).toArray, rfl, Nat.zero_le _, h, Nat.le_refl _, hl, by simpa using hf, ?_⟩⟩
  rw [List.take_of_length_le (by simp only [List.toList_toArray]; omega)]
theorem build28 (w : World) : (Instr.build 28 #[(0, .int .i64 1), (3, .int .i64 1), (5, .int .i64 5)]).run Try.prog w = .ok (.agg (cC fun i => if i = 0 then 1 else if i = 3 then 1 else if i = 5 then 5 else 0)) w := by kernel_rfl
section
variable {w : World} {Q : Value → World → Prop}
theorem f7_s (kk : ∀ w', Below w.heap.size w w' → Q (.bool true) w') : f7 w Q := by
  unfold f7
  rw [smr_e]
  refine ⟨_, build55a _, ?_⟩
  rw [smr_e]
  refine ⟨_, build55b _, ?_⟩
  refine ⟨_, _, slice2 w, ?_⟩
  have h1 := blk_psh_new (w := w) (o := .cells (([litF 1 2, litF 4 3].flatMap encF).toArray) 55)
  have b1 := b_psh w (.cells (([litF 1 2, litF 4 3].flatMap encF).toArray) 55)
  generalize psh w (.cells (([litF 1 2, litF 4 3].flatMap encF).toArray) 55) = w1 at *
  show cl _ _ w1 Q
  rw [cl_e]
  refine f11_s (rd_row (l := [litF 1 2, litF 4 3]) encF_len (by decide) (by decide) h1) (by decide) fun w2 b2 => ?_
  have b12 := bt b1 b2
  rw [al_e]
  have h3 := blk_psh_new (w := w2) (o := .cells #[.int .i64 0, .int .i64 0, .int .i64 0, .int .i64 0, .int .i64 0, .int .i64 0] 28)
  have b3 := b_psh w2 (.cells #[.int .i64 0, .int .i64 0, .int .i64 0, .int .i64 0, .int .i64 0, .int .i64 0] 28)
  refine stn_box (cs := cC (ctL [litF 1 2, litF 4 3])) h3 rfl rfl (cC_one _) fun w4 h4 u4 => ?_
  have b4 := b12.trans ((b3.trans (u4.below (Nat.le_refl _))).mono b12.size)
  refine ldn_box h4 rfl ?_
  rw [smr_e]
  refine ⟨_, build28 _, ?_⟩
  rw [smr_e]
  refine ⟨_, eq28t (fun i hi => ?_) _ _ _, ?_⟩
  · have : i = 0 ∨ i = 1 ∨ i = 2 ∨ i = 3 ∨ i = 4 ∨ i = 5 := by omega
    rcases this with rfl | rfl | rfl | rfl | rfl | rfl <;> rfl
  simp only [↓reduceIte, ↓LL, LM, Value.cells, Nat.reduceAdd, Option.some.injEq, exists_eq_left', decide_true, decide_false, if_true, if_false, reduceCtorEq, cond_true, cond_false]
  rw [smr_e]
  refine ⟨_, build55c _, ?_⟩
  simp only [↓reduceIte, ↓LL, LM, Value.cells, Nat.reduceAdd, Option.some.injEq, exists_eq_left', decide_true, decide_false, if_true, if_false, reduceCtorEq, cond_true, cond_false]
  refine bslE (x := litF 0 0) (enc := encF) slt22 rfl (by decide) (by decide) rfl fun w5 h5 b5 => ?_
  simp only [↓reduceIte, ↓LL, LM, Value.cells, Nat.reduceAdd, Option.some.injEq, exists_eq_left', decide_true, decide_false, if_true, if_false, reduceCtorEq, cond_true, cond_false]
  refine f9_s (rd_lit rfl h5) (by decide) (fun f hf => by rw [List.mem_singleton.1 hf]; rfl) fun w6 ov ks b6 hp hm hl ho => ?_
  have hk : ks = [0] := by
    have h0 : (0 : Int) ∈ ks := (hm 0).2 ⟨litF 0 0, by simp, rfl⟩
    have h1 : ∀ p ∈ ks, p = 0 := fun p hp => by
      obtain ⟨f, hf, e⟩ := (hm p).1 hp
      rw [List.mem_singleton.1 hf] at e
      exact e.symm
    match ks, hp, h0, h1 with
    | [a], _, _, h1 => rw [h1 a (by simp)]
    | a :: b :: r, hp, _, h1 =>
      have e1 := h1 a (by simp)
      have e2 := h1 b (by simp)
      have := (List.pairwise_cons.1 hp).1 b (by simp)
      omega
  subst hk
  have ro := ownE_rd encL_len (by decide) ho
  try simp only [↓reduceIte, ↓LL, LM, Value.cells, Nat.reduceAdd, Option.some.injEq, exists_eq_left', decide_true, decide_false, if_true, if_false, reduceCtorEq, cond_true, cond_false]
  refine lnl_S ro ?_
  simp only [↓reduceIte, ↓LL, LM, Value.cells, Nat.reduceAdd, Option.some.injEq, exists_eq_left', decide_true, decide_false, if_true, if_false, reduceCtorEq, cond_true, cond_false, List.length_map, List.length_singleton, show (((1 : Nat) : Int) = 1) from rfl]
  exact kk w6 (bt (bt b4 b5) b6)
/-- the first 150 -/
theorem f8_s {v : Value} {l : List Fl} (hr : rdS 14 (eR encF) w v l) (kk : ∀ v', rdS 14 (eR encF) w v' (l.take 150) → Q v' w) : f8 v w Q := by
  unfold f8
  refine lnl_S hr ?_
  have e1 : (if (150 : Int) < (l.length : Int) then (150 : Int) else (l.length : Int)) = ((min l.length 150 : Nat) : Int) := by split <;> omega
  simp only [↓reduceIte, ↓LL, LM, Value.cells, Nat.reduceAdd, Option.some.injEq, exists_eq_left', decide_true, decide_false, if_true, if_false, reduceCtorEq, cond_true, cond_false, e1]
  refine sll_S hr (Nat.min_le_left _ _) fun v' hr' => ?_
  rw [rt_e]
  refine kk v' ?_
  have : l.take (min l.length 150) = l.take 150 := by
    rcases Nat.le_total l.length 150 with c | c
    · rw [Nat.min_eq_left c, List.take_of_length_le (Nat.le_refl _), List.take_of_length_le c]
    · rw [Nat.min_eq_right c]
  rw [← this]; exact hr'
end
end Go.Proofs.Ytiajdaagamhbnaa

namespace Go.Proofs.Ytiajdaagamhbnaa
open Sh RowKit Go.MapKept

/-- the sum over programs -/
def smP (j : Nat) (l : List Fl) : List Int → Int
  | [] => 0
  | p :: ks => tt j (flP p l) + smP j l ks
theorem smP_app (j : Nat) (l : List Fl) (p : Int) : ∀ ks, smP j l (ks ++ [p]) = smP j l ks + tt j (flP p l)
  | [] => by simp [smP]
  | q :: ks => by show tt j (flP q l) + smP j l (ks ++ [p]) = tt j (flP q l) + smP j l ks + tt j (flP p l); rw [smP_app j l p ks]; omega
theorem flP_cons (p : Int) (f : Fl) (l : List Fl) : flP p (f :: l) = if f.prog = p then f :: flP p l else flP p l := by
  unfold flP
  rw [List.filter_cons]
  by_cases c : f.prog = p <;> simp [c]
theorem smP_cons (j : Nat) (f : Fl) (l : List Fl) : ∀ ks : List Int, ks.Nodup → smP j (f :: l) ks = smP j l ks + (if f.prog ∈ ks then dd j f else 0)
  | [], _ => by simp [smP]
  | p :: ks, h => by
    obtain ⟨h1, h2⟩ := List.nodup_cons.1 h
    show tt j (flP p (f :: l)) + smP j (f :: l) ks = tt j (flP p l) + smP j l ks + _
    rw [smP_cons j f l ks h2, flP_cons]
    by_cases c : f.prog = p
    · subst c
      rw [if_pos rfl, if_neg h1, if_pos List.mem_cons_self]
      show dd j f + tt j (flP f.prog l) + (smP j l ks + 0) = _
      omega
    · rw [if_neg c]
      by_cases d : f.prog ∈ ks
      · rw [if_pos d, if_pos (List.mem_cons_of_mem _ d)]; omega
      · rw [if_neg d, if_neg (by rw [List.mem_cons]; rintro (e | e) <;> first | exact c e | exact d e)]; omega
theorem smP_nil (j : Nat) : ∀ ks, smP j [] ks = 0
  | [] => rfl
  | p :: ks => by show 0 + smP j [] ks = 0; rw [smP_nil j ks]; rfl
/-- all programs' counts together -/
theorem smP_all (j : Nat) {ks : List Int} (hn : ks.Nodup) : ∀ l : List Fl, (∀ f ∈ l, f.prog ∈ ks) → smP j l ks = tt j l
  | [], _ => smP_nil j ks
  | f :: l, h => by
    rw [smP_cons j f l ks hn, smP_all j hn l (fun g hg => h g (List.mem_cons_of_mem _ hg)), if_pos (h f List.mem_cons_self)]
    show tt j l + dd j f = dd j f + tt j l
    omega
def acC (l : List Fl) (ks : List Int) (j : Nat) : Int := IntKind.i64.wrap (smP j l ks)
theorem ac_one (l : List Fl) (ks : List Int) (p : Int) : jnC (acC l ks) (ctL (flP p l)) = acC l (ks ++ [p]) := by
  funext j
  unfold jnC acC ctL
  rw [ww, ww', smP_app]
theorem ct_join (a b : List Fl) : jnC (ctL a) (ctL b) = ctL (a ++ b) := by
  funext j
  unfold jnC ctL
  rw [ww, ww', tt_app]
theorem cells_tail {w : World} {a : Addr} {v : Value} {es : List Value} (h : cellsAt w a (v :: es)) : cellsAt w (a.add 1) es := by
  intro j u hj
  have := h (j + 1) u (by simpa using hj)
  have e : (a.add 1).add j = a.add (j + 1) := by
    unfold Addr.add
    by_cases z : j = 0
    · subst z; simp
    · simp [z, Nat.add_assoc, Nat.add_comm 1 j]
  rw [e]; exact this
section
variable {w : World} {Q : Value → World → Prop} {b : Nat} {l : List Fl}
theorem parts_loop {W : World} {t0 t1 t5 lv : Value} {ks : List Int} {j1 : Value → Value → Value → Value → M} (hr : rdS 7 (eR encL) W lv (ks.map fun p => (p, flP p l))) (hl : ks.length ≤ 1000) (hB : W.heap.size ≤ b) : ∀ (m i : Nat) (w : World), i + m = ks.length → Below W.heap.size W w →
    w.heap[b]? = some (.cells (cC (acC l (ks.take i))) 28 (0, 0)) → (∀ w', Below W.heap.size W w' → w'.heap[b]? = some (.cells (cC (acC l ks)) 28 (0, 0)) → j1 t0 t1 t5 (.pointer (some ⟨b, 0, none⟩)) w' Q) →
    itr (fun _ _ _ _ _ _ => bot) (f3_b2 j1) (m + 1) t0 t1 t5 lv (.pointer (some ⟨b, 0, none⟩)) (.int .i64 (i : Int)) w Q := by
  intro m
  induction m with
  | zero =>
    intro i w hi hb hc kk
    show f3_b2 _ _ _ _ _ _ _ _ w Q
    unfold f3_b2
    refine lnl_S hr ?_
    rw [List.length_map]
    have c1 : ¬ (i : Int) < (ks.length : Int) := by omega
    simp only [↓reduceIte, ↓LL, LM, Value.cells, Nat.reduceAdd, Option.some.injEq, exists_eq_left', decide_true, decide_false, if_true, if_false, reduceCtorEq, cond_true, cond_false, c1]
    rw [List.take_of_length_le (by omega)] at hc
    exact kk w hb hc
  | succ m ih =>
    intro i w hi hb hc kk
    have hil : i < ks.length := by omega
    show f3_b2 _ _ _ _ _ _ _ _ w Q
    unfold f3_b2
    refine lnl_S hr ?_
    rw [List.length_map]
    have c1 : (i : Int) < (ks.length : Int) := by omega
    have e5 : IntKind.i64.wrap ((i : Int) + 1) = ((i + 1 : Nat) : Int) := by rw [w64 (by omega) (by omega)]; omega
    obtain ⟨a, es, e1, e2, e3, e4⟩ := rdS_at hr (i := i) (by simpa using hil)
    rw [List.getElem_map] at e3
    have e3 : es = encL (ks[i], flP ks[i] l) := e3
    subst e3
    have htk : ks.take (i + 1) = ks.take i ++ [ks[i]] := by rw [List.take_succ_eq_append_getElem hil]
    generalize ks[i] = p at *
    have hb : Below W.heap.size W (drw w) := Below_drw hb
    have hc : (drw w).heap[b]? = _ := hc
    simp only [lt_e, cnd_e, c1, decide_true, cond_true, dr_q, if_true, ↓reduceIte]
    generalize drw w = w1 at *
    refine ldn_box hc rfl ?_
    simp only [idv_e, e4, fa_e]
    refine ldn_at (es := (cC (ctL (flP p l))).toList) (cells_tail (cellsAt_below hb e2)) rfl ?_
    rw [cl_e]
    refine f10_s fun w2 b2 => ?_
    have hc2 := stay b2 hc
    rw [ac_one]
    refine stn_box (cs := cC (acC l (ks.take i ++ [p]))) hc2 rfl rfl (cC_one _) fun w3 h3 u3 => ?_
    simp only [↓reduceIte, ↓LL, LM, Value.cells, Nat.reduceAdd, Option.some.injEq, exists_eq_left', decide_true, decide_false, if_true, if_false, reduceCtorEq, cond_true, cond_false, e5]
    refine ih (i + 1) w3 (by omega) ((bt hb b2).trans (u3.below hB)) ?_ kk
    rw [htk]; exact h3
set_option maxRecDepth 20000 in
theorem f3_s {W : World} {va vb : Value} {la lb : List Fl} (ha : rdS 14 (eR encF) W va la) (hb : rdS 14 (eR encF) W vb lb) (wa : ∀ f ∈ la, (Lit.int .i64 f.prog).wf = true) (wb : ∀ f ∈ lb, (Lit.int .i64 f.prog).wf = true)
    (kk : ∀ w', Below W.heap.size W w' → Q (.bool true) w') : f3 va vb W Q := by
  unfold f3
  rw [cl_e]
  refine f7_s fun w1 b1 => ?_
  simp only [↓reduceIte, ↓LL, LM, Value.cells, Nat.reduceAdd, Option.some.injEq, exists_eq_left', decide_true, decide_false, if_true, if_false, reduceCtorEq, cond_true, cond_false]
  refine f8_s (rdS_below eR_st b1 ha) fun va' ha1 => ?_
  try rw [cl_e]
  refine f8_s (rdS_below eR_st b1 hb) fun vb' hb1 => ?_
  have la1 : (la.take 150).length ≤ 150 := by rw [List.length_take]; omega
  have lb1 : (lb.take 150).length ≤ 150 := by rw [List.length_take]; omega
  have wa1 : ∀ f ∈ la.take 150, (Lit.int .i64 f.prog).wf = true := fun f hf => wa f (List.mem_of_mem_take hf)
  have wb1 : ∀ f ∈ lb.take 150, (Lit.int .i64 f.prog).wf = true := fun f hf => wb f (List.mem_of_mem_take hf)
  generalize la.take 150 = xa at *
  generalize lb.take 150 = xb at *
  refine ap_E (B := w1.heap.size) (l := []) slt22 rfl (by decide) encF_len encF_one ownE_nil ha1 (by unfold maxLen; simp; omega) (by simp; omega) (Nat.le_refl _) fun v2 w2 o2 g2 _ => ?_
  rw [List.nil_append] at o2
  have b2 : Below w1.heap.size w1 w2 := (Below.refl _ _).grown g2 (Nat.le_refl _) (fun k hk => by cases hk)
  have hb2 := rdS_below eR_st b2 hb1
  refine ap_E slt22 rfl (by decide) encF_len encF_one o2 hb2 (by unfold maxLen; omega) (by omega) b2.size fun v3 w3 o3 g3 _ => ?_
  have b3 : Below w1.heap.size w1 w3 := b2.grown g3 b2.size (fun k hk => (ownE_blk o2 k hk).1)
  have r3 := ownE_rd encF_len (by decide) o3
  have hall : (xa ++ xb).length ≤ 300 := by simp; omega
  try rw [cl_e]
  refine f9_s r3 (by omega) (fun f hf => by rcases List.mem_append.1 hf with h | h <;> first | exact wa1 f h | exact wb1 f h) fun w4 ov ks b4 hp hm hl ho => ?_
  rw [al_e]
  have h5 := blk_psh_new (w := w4) (o := .cells #[.int .i64 0, .int .i64 0, .int .i64 0, .int .i64 0, .int .i64 0, .int .i64 0] 28)
  have b5 := b_psh w4 (.cells #[.int .i64 0, .int .i64 0, .int .i64 0, .int .i64 0, .int .i64 0, .int .i64 0] 28)
  have ro := ownE_rd encL_len (by decide) ho
  have b14 := bt b3 b4
  generalize psh w4 (.cells #[.int .i64 0, .int .i64 0, .int .i64 0, .int .i64 0, .int .i64 0, .int .i64 0] 28) = w5 at *
  rw [jn_e]
  refine ⟨_, parts_loop (W := w4) (b := w4.heap.size) (l := xa ++ xb) ro hl (Nat.le_refl _) ks.length 0 w5 (by omega) b5 h5 fun w6 b6 h6 => ?_⟩
  unfold f3_j1
  have hks : ∀ j, acC (xa ++ xb) ks j = ctL (xa ++ xb) j := fun j => by
    unfold acC ctL
    rw [smP_all j (hp.imp (fun h => by omega)) _ (fun f hf => (hm f.prog).2 ⟨f, hf, rfl⟩)]
  have b16 := bt b14 b6
  have b16 : Below w1.heap.size w1 (drw w6) := Below_drw b16
  have b36 : Below w3.heap.size w3 (drw w6) := Below_drw (bt b4 b6)
  have h6 : (drw w6).heap[w4.heap.size]? = _ := h6
  simp only [dr_q, idv_e, cl_e]
  generalize drw w6 = w7 at *
  refine f11_s (rdS_below eR_st b36 r3) (by omega) fun w8 b8 => ?_
  refine f11_s (rdS_below eR_st (bt b16 b8) ha1) (by omega) fun w9 b9 => ?_
  refine f11_s (rdS_below eR_st (bt (bt b16 b8) b9) hb1) (by omega) fun w10 b10 => ?_
  refine f10_s fun w11 b11 => ?_
  rw [ct_join, smr_e]
  refine ⟨_, eq28t (fun _ _ => rfl) _ _ _, ?_⟩
  have b811 := bt (bt (bt b8 b9) b10) b11
  have h11 := stay b811 h6
  simp only [idv_e, gd_e, if_true, ↓reduceIte]
  refine ldn_box h11 rfl ?_
  simp only [idv_e, gd_e, if_true, ↓reduceIte, cl_e]
  have b11' := bt (bt b8 b9) (bt b10 b11)
  refine f11_s (rdS_below eR_st (bt b36 b811) r3) (by omega) fun w12 b12 => ?_
  have h12 := stay b12 h11
  rw [kp_e]
  refine ⟨fun _ => ⟨_, _, rfl, rfl, rds2 h12, rfl⟩, ?_⟩
  simp only [gd_e, if_true, ↓reduceIte]
  rw [smr_e]
  refine ⟨_, eq28t (fun i _ => hks i) _ _ _, ?_⟩
  simp only [↓reduceIte, ↓LL, LM, Value.cells, Nat.reduceAdd, Option.some.injEq, exists_eq_left', decide_true, decide_false, if_true, if_false, reduceCtorEq, cond_true, cond_false]
  exact kk w12 (bt b1 (bt (bt b16 b811) b12))
end
end Go.Proofs.Ytiajdaagamhbnaa

namespace Go.Proofs.Ytiajdaagamhbnaa
namespace Sh
open RowKit
section
variable {H : Type} {enc : TypeId × Value → H} {P : Program}
theorem trodAll_below (hl : laidOutB P = true) {W W' : World} (hb : Below W.heap.size W W') : ∀ (ts : List TypeId) (vs : List Value) (ds : List (DataW H)) (ps : List MemPlace),
    (∀ t ∈ ts, P.readableRec t = true ∧ t < P.types.size) → DataW.TrodAll enc P W 0 (fun _ => true) true ts vs ds ps → (∀ x ∈ ps, x.block < W.heap.size) →
    DataW.TrodAll enc P W' 0 (fun b => decide (b < W.heap.size)) true ts vs ds ps := by
  intro ts
  induction ts with
  | nil =>
    intro vs ds ps _ h _
    match vs, ds, h with
    | [], [], h => exact h
  | cons t ts ih =>
    intro vs ds ps ht h hp
    match vs, ds, h with
    | v :: vs, d :: ds, ⟨p, q, h1, h2, h3⟩ =>
      subst h3
      exact ⟨p, q, Below.trod hl (ht t (by simp)).1 (ht t (by simp)).2 h1 hb (fun x hx => hp x (by simp [hx])), ih vs ds q (fun u hu => ht u (by simp [hu])) h2 (fun x hx => hp x (by simp [hx])), rfl⟩
theorem trodAll_len : ∀ (ts : List TypeId) (vs : List Value) (ds : List (DataW H)) (ps : List MemPlace) {W : World}, DataW.TrodAll enc P W 0 (fun _ => true) true ts vs ds ps → ds.length = ts.length := by
  intro ts
  induction ts with
  | nil => intro vs ds ps W h; match vs, ds, h with | [], [], h => rfl
  | cons t ts ih => intro vs ds ps W h; match vs, ds, h with | v :: vs, d :: ds, ⟨p, q, h1, h2, h3⟩ => simp [ih vs ds q h2]
theorem law_post {fn : Func} {s : ChangeSpec} {apart : Bool} {W W' : World} {args : Array Value} {ds gs : List (DataW H)} {before : List MemPlace} {tb : TypeId} (hv : s.vars = []) (hl : laidOutB P = true)
    (hp : ∀ t ∈ fn.params.toList, P.readableRec t = true ∧ t < P.types.size) (hr : fn.resultTypes = #[tb]) (hb : P.underlying tb = some .bool)
    (hs : ∀ ds : List (DataW H), ds.length = fn.params.toList.length → (s.fn H ds).results = [.lit (.bool true)] ∧ (s.fn H ds).args = ds ∧ (s.fn H ds).vars = [])
    (hW : DataW.Whole enc P fn.params.toList s.vars apart W args.toList ds gs before) (h : Below W.heap.size W W') :
    s.post enc P fn apart true false false W args (.bool true) W' := by
  have hW0 := hW
  obtain ⟨p, q, hA, hV, rfl, hfz, hnd⟩ := hW
  rw [hv] at hV
  have hg : gs = [] ∧ q = [] := by
    cases gs with
    | nil => exact ⟨rfl, hV⟩
    | cons g gs => exact hV.elim
  obtain ⟨rfl, rfl⟩ := hg
  obtain ⟨e1, e2, e3⟩ := hs ds (trodAll_len _ _ _ _ hA)
  refine ⟨ds, [], p ++ [], [], p, [], hW0, ?_, ?_, ?_, Below.frame h _, fun h => by cases h⟩
  · rw [hr, List.append_nil, e1]
    exact ⟨[], [], ⟨1, by simp [DataW.trod, hb, Value.cells]⟩, rfl, rfl⟩
  · rw [List.append_nil, e2]
    exact trodAll_below hl h _ _ _ _ hp hA (fun x hx => by have := hW0.lt x (by simp [hx]); simpa using this)
  · rw [List.append_nil, hv, e3]
    rfl
theorem law_lifted {C : Checked} {os : Os} {f : FuncId} {fn : Func} {s : ChangeSpec} {conds : List PathCond} {tb : TypeId}
    (own : ownKnob C.prog.godebug = none) (started : os.Started) (noInit : C.prog.inits.idxOf? f = none) (hfn : C.prog.funcs[f]? = some fn)
    (witness : ∃ (w : World) (tape : Tape) (i : Input), w.os = os ∧ (w.forCall tape i).Shaped C.prog ∧ i.vars = [] ∧ Input.okWide C.prog (w.forCall tape i) .any w.heap.size f i ∧
      s.pre6 enc C.prog fn conds false (w.forCall tape i).memory i.args ∧ ({} : Assume).holds C.prog (lone (Frame.enter C.prog f i.args .normal) [] (w.forCall tape i)))
    (hv : s.vars = []) (hl : laidOutB C.prog = true) (hp : fn.params.toList.all (fun t => C.prog.readableRec t && decide (t < C.prog.types.size)) = true) (hr : fn.resultTypes = #[tb]) (hb : C.prog.underlying tb = some .bool)
    (hs : ∀ ds : List (DataW H), ds.length = fn.params.toList.length → (s.fn H ds).results = [.lit (.bool true)] ∧ (s.fn H ds).args = ds ∧ (s.fn H ds).vars = [])
    (contract : ∀ (W : World) (base : Nat) (args : Array Value) (ds : List (DataW H)) (p : List MemPlace),
      (∀ (j : Nat) t v, fn.params[j]? = some t → args[j]? = some v → Value.okWide C.prog W .any base t v) →
      DataW.TrodAll enc C.prog W 0 (fun _ => true) true fn.params.toList args.toList ds p →
      (DataW.weightsEach C.prog fn.params.toList ds).all (· ≤ reachBytes) = true →
      Calls C.prog f args W (Rt fun v W' => v = .bool true ∧ Below W.heap.size W W')) :
    ReturnsInHanded {} C os f .any (s.pre6 enc C.prog fn conds false) (s.post enc C.prog fn false true false false) := by
  refine returnsInHanded_of_change_sized own started noInit hfn witness ?_
  intro W base args ds gs before hval hW _ hz _
  have hp' : ∀ t ∈ fn.params.toList, C.prog.readableRec t = true ∧ t < C.prog.types.size := fun t ht => by
    have := List.all_eq_true.1 hp t ht
    simpa using this
  obtain ⟨p, q, hA, hV, hq⟩ := hW
  have hW : DataW.Whole enc C.prog fn.params.toList s.vars false W args.toList ds gs before := ⟨p, q, hA, hV, hq⟩
  have hg : gs = [] := by
    rw [hv] at hV
    cases gs with
    | nil => rfl
    | cons g gs => exact hV.elim
  subst hg
  have hvt : s.plain.varTypes C.prog = [] := by
    simp [ChangeSpec.plain, DataSpec.varTypes, hv]
  rw [hvt, List.append_nil, List.append_nil] at hz
  refine (contract W base args ds p hval hA hz).mono fun e W' he => ?_
  cases e with
  | returned v =>
    obtain ⟨hv', hbel⟩ := he
    subst hv'
    exact ⟨_, rfl, law_post hv hl hp' hr hb hs hW hbel⟩
  | panicked c => exact he.elim
  | outgrown => exact he.elim
end
end Sh
end Go.Proofs.Ytiajdaagamhbnaa

namespace Go.Proofs.Ytiajdaagamhbnaa
namespace Sh
open RowKit ChangeShapes
/-- all arguments, told by R -/
def OpensA (P : Program) (ts : List TypeId) (α : Type) (R : World → List Value → α → Prop) (bulk : α → Nat) : Prop :=
  ∀ {H : Type} (enc : TypeId × Value → H) (W : World) (vs : List Value) (ds : List (DataW H)) (ps : List MemPlace) (base : Nat),
    (∀ (j : Nat) t v, ts[j]? = some t → vs[j]? = some v → Value.okWide P W .any base t v) →
    DataW.TrodAll enc P W 0 (fun _ => true) true ts vs ds ps → (DataW.weightsEach P ts ds).all (· ≤ reachBytes) = true → ∃ a, R W vs a ∧ bulk a ≤ Rows.uptoBulkAll ds
section
variable {P : Program}
theorem oa_nil : OpensA P [] Unit (fun _ vs _ => vs = []) (fun _ => 0) := by
  intro H enc W vs ds ps base hv h _
  match vs, ds, h with
  | [], [], _ => exact ⟨(), rfl, Nat.zero_le _⟩
theorem OpensA.mono {ts : List TypeId} {α β : Type} {R : World → List Value → α → Prop} {S : World → List Value → β → Prop} {b : α → Nat} {c : β → Nat} (h : OpensA P ts α R b)
    (f : ∀ W vs a, R W vs a → ∃ x, S W vs x ∧ c x ≤ b a) : OpensA P ts β S c := by
  intro H enc W vs ds ps base hv hd hw
  obtain ⟨a, h1, h2⟩ := h enc W vs ds ps base hv hd hw
  obtain ⟨y, h3, h4⟩ := f W vs a h1
  exact ⟨y, h3, Nat.le_trans h4 h2⟩
theorem oa_one {t : TypeId} {ts : List TypeId} {α β : Type} {R : RepT α} {S : World → List Value → β → Prop} {b : α → Nat} {c : β → Nat} (h : Opens P t α R b) (hs : isSc P t = true) (h1 : ∀ w cs a, R w cs a → ∃ v, cs = [v])
    (hr : OpensA P ts β S c) : OpensA P (t :: ts) (α × β) (fun w vs x => ∃ v r, vs = v :: r ∧ R w [v] x.1 ∧ S w r x.2) (fun x => b x.1 + c x.2) := by
  intro H enc W vs ds ps base hv hd hw
  match vs, ds, hd with
  | v :: vs, d :: ds, ⟨p, q, k1, k2, k3⟩ =>
    simp only [DataW.weightsEach, List.all_append, Bool.and_eq_true] at hw
    obtain ⟨a, e1, e2⟩ := open_one h hs h1 (hv 0 t v rfl rfl) k1 hw.1
    obtain ⟨a', e3, e4⟩ := hr enc W vs ds q base (fun j t v g1 g2 => hv (j + 1) t v g1 g2) k2 hw.2
    exact ⟨(a, a'), ⟨v, vs, rfl, e1, e3⟩, by simp only [Rows.uptoBulkAll]; omega⟩
end
section
variable {H : Type} {enc : TypeId × Value → H}
theorem law_from {C : Checked} {os : Os} {f : FuncId} {fn : Func} {s : ChangeSpec} {conds : List PathCond} {tb : TypeId} {α : Type} {R : World → List Value → α → Prop} {b : α → Nat}
    (own : ownKnob C.prog.godebug = none) (started : os.Started) (noInit : C.prog.inits.idxOf? f = none) (hfn : C.prog.funcs[f]? = some fn)
    (witness : ∃ (w : World) (tape : Tape) (i : Input), w.os = os ∧ (w.forCall tape i).Shaped C.prog ∧ i.vars = [] ∧ Input.okWide C.prog (w.forCall tape i) .any w.heap.size f i ∧
      s.pre6 enc C.prog fn conds false (w.forCall tape i).memory i.args ∧ ({} : Assume).holds C.prog (lone (Frame.enter C.prog f i.args .normal) [] (w.forCall tape i)))
    (hv : s.vars = []) (hl : laidOutB C.prog = true) (hp : fn.params.toList.all (fun t => C.prog.readableRec t && decide (t < C.prog.types.size)) = true) (hr : fn.resultTypes = #[tb]) (hb : C.prog.underlying tb = some .bool)
    (hs : ∀ ds : List (DataW H), ds.length = fn.params.toList.length → (s.fn H ds).results = [.lit (.bool true)] ∧ (s.fn H ds).args = ds ∧ (s.fn H ds).vars = [])
    (oa : OpensA C.prog fn.params.toList α R b)
    (law : ∀ (W : World) (vs : List Value) (a : α), R W vs a → Calls C.prog f vs.toArray W (Rt fun v W' => v = .bool true ∧ Below W.heap.size W W')) :
    ReturnsInHanded {} C os f .any (s.pre6 enc C.prog fn conds false) (s.post enc C.prog fn false true false false) := by
  refine law_lifted own started noInit hfn witness hv hl hp hr hb hs ?_
  intro W base args ds p hval hA hz
  obtain ⟨a, h1, _⟩ := oa enc W args.toList ds p base (fun j t v h1 h2 => hval j t v (by simpa using h1) (by simpa using h2)) hA hz
  exact law W args.toList a h1
end
end Sh
end Go.Proofs.Ytiajdaagamhbnaa

namespace Go.Proofs.Ytiajdaagamhbnaa
open Sh RowKit
theorem u2 : Try.prog.underlying 2 = some (.int .i64) := by kernel_rfl
theorem u3 : Try.prog.underlying 3 = some (.int .i64) := by kernel_rfl
theorem u4 : Try.prog.underlying 4 = some .bool := by kernel_rfl
theorem u9 : Try.prog.underlying 9 = some .string := by kernel_rfl
theorem u48 : Try.prog.underlying 48 = some (.int .i64) := by kernel_rfl
theorem u22 : Try.prog.underlying 22 = some (.slice 55) := by kernel_rfl
theorem u51 : Try.prog.underlying 51 = some (.slice 50) := by kernel_rfl
theorem xsc22 : isSc Try.prog 22 = true := by kernel_rfl
theorem len2 {cs : List Value} (h : cs.length = 2) : ∃ a b, cs = [a, b] := by
  match cs, h with
  | [a, b], _ => exact ⟨a, b, rfl⟩
theorem len3 {cs : List Value} (h : cs.length = 3) : ∃ a b c, cs = [a, b, c] := by
  match cs, h with
  | [a, b, c], _ => exact ⟨a, b, c, rfl⟩
theorem len14 {cs : List Value} (h : cs.length = 14) : ∃ a b c d e f g i j k l m n o, cs = [a, b, c, d, e, f, g, i, j, k, l, m, n, o] := by
  match cs, h with
  | [a, b, c, d, e, f, g, i, j, k, l, m, n, o], _ => exact ⟨a, b, c, d, e, f, g, i, j, k, l, m, n, o, rfl⟩
theorem one_cell {x y : Value} (h : [x] = [y]) : x = y := (List.cons.inj h).1
theorem op50 : Opens Try.prog 50 Vl (eR encV) (fun _ => 1) := by
  refine Opens.mono (op_struct Try.underlying50 (n := 3) (by kernel_rfl) (opf_cons (n := 1) (by kernel_rfl) (op_int u48) (opf_cons (n := 1) (by kernel_rfl) (op_int u2)
    (opf_cons (n := 1) (by kernel_rfl) (op_str u9) opf_nil)))) ?_
  rintro w cs ⟨a, b, n, ⟨⟩⟩ ⟨hl, ⟨h0, h0'⟩, ⟨h1, h1'⟩, ⟨h2, h2'⟩, -⟩
  obtain ⟨c0, c1, c2, rfl⟩ := len3 hl
  have e0 := one_cell (x := c0) h0
  have e1 := one_cell (x := c1) h1
  have e2 := one_cell (x := c2) h2
  exact ⟨⟨a, b, n⟩, by rw [e0, e1, e2]; rfl, by simp⟩
/-- a frame -/
structure Fr where
  pc : Int
  rp : Option Addr
  rl : Nat
  rc : Nat
def frR : RepT Fr := fun w cs f => cs = [.int .i64 f.pc, .slice f.rp f.rl f.rc] ∧ ∃ rl, rdS 3 (eR encV) w (.slice f.rp f.rl f.rc) rl
theorem op53 : Opens Try.prog 53 Fr frR (fun _ => 0) := by
  refine Opens.mono (op_struct Try.underlying53 (n := 2) (by kernel_rfl) (opf_cons (n := 1) (by kernel_rfl) (op_int u3) (opf_cons (n := 1) (by kernel_rfl) (op_slice u51 (n := 3) (by kernel_rfl) op50) opf_nil))) ?_
  rintro w cs ⟨a, l, ⟨⟩⟩ ⟨hl, ⟨h0, h0'⟩, ⟨v, hv, hr, hs⟩, -⟩
  obtain ⟨c0, c1, rfl⟩ := len2 hl
  have e0 := one_cell (x := c0) h0
  have e1 := one_cell (x := c1) hv
  obtain ⟨p, c, e2⟩ := rdS_len hr
  refine ⟨⟨a, p, l.length, c⟩, ⟨by rw [e0, e1, e2], l, by rw [e2] at hr; exact hr⟩, Nat.zero_le _⟩
/-- a workflow in an argument: its program's number is one, its registers can be read -/
def flR : RepT Fl := fun w cs f => cs = encF f ∧ (Lit.int .i64 f.prog).wf = true ∧ ∃ rl, rdS 3 (eR encV) w f.regs rl
theorem op55 : Opens Try.prog 55 Fl flR (fun _ => 0) := by
  refine Opens.mono (op_struct Try.underlying55 (n := 14) (by kernel_rfl) (opf_cons (n := 1) (by kernel_rfl) (op_int u3) (opf_cons (n := 1) (by kernel_rfl) (op_int u3) (opf_cons (n := 3) (by kernel_rfl) op50
    (opf_cons (n := 1) (by kernel_rfl) (op_int u3) (opf_cons (n := 1) (by kernel_rfl) (op_int u3) (opf_cons (n := 1) (by kernel_rfl) (op_int u2) (opf_cons (n := 3) (by kernel_rfl) op50 (opf_cons (n := 2) (by kernel_rfl) op53 (opf_cons (n := 1) (by kernel_rfl) (op_bool u4) opf_nil)))))))))) ?_
  rintro w cs ⟨a0, a1, a2, a3, a4, a5, a6, a7, a8, ⟨⟩⟩ ⟨hl, ⟨h0, h0'⟩, ⟨h1, h1'⟩, h2, ⟨h3, h3'⟩, ⟨h4, h4'⟩, ⟨h5, h5'⟩, h6, ⟨h7, h7'⟩, h8, -⟩
  obtain ⟨c0, c1, c2, c3, c4, c5, c6, c7, c8, c9, c10, c11, c12, c13, rfl⟩ := len14 hl
  have e0 := one_cell (x := c0) h0
  have e1 := one_cell (x := c1) h1
  have e2 : [c2, c3, c4] = encV a2 := h2
  have e3 := one_cell (x := c5) h3
  have e4 := one_cell (x := c6) h4
  have e5 := one_cell (x := c7) h5
  have e6 : [c8, c9, c10] = encV a6 := h6
  have e7 : [c11, c12] = [.int .i64 a7.pc, .slice a7.rp a7.rl a7.rc] := h7
  have e8 := one_cell (x := c13) h8
  simp only [encV, List.cons.injEq, and_true] at e2 e6 e7
  obtain ⟨rfl, rfl, rfl⟩ := e2
  obtain ⟨rfl, rfl, rfl⟩ := e6
  obtain ⟨rfl, rfl⟩ := e7
  exact ⟨⟨a0, a1, a2, a3, a4, a5, a6, a7.pc, a7.rp, a7.rl, a7.rc, a8⟩, ⟨by rw [e0, e1, e3, e4, e5, e8]; rfl, h1', h7'⟩, Nat.zero_le _⟩
theorem flR_eq {w : World} {v : Value} {l : List Fl} (h : rdS 14 flR w v l) : rdS 14 (eR encF) w v l := rdS_mono (fun _ _ h => h.1) h
theorem flR_all {w : World} {v : Value} {l : List Fl} (h : rdS 14 flR w v l) : ∀ f ∈ l, (Lit.int .i64 f.prog).wf = true ∧ ∃ rl, rdS 3 (eR encV) w f.regs rl := by
  intro f hf
  obtain ⟨i, hi, rfl⟩ := List.mem_iff_getElem.1 hf
  obtain ⟨_, _, _, _, hz, _⟩ := rdS_at h hi
  exact hz.2
def R3 : World → List Value → List Fl × List Fl → Prop := fun W vs x => ∃ v u, vs = [v, u] ∧ rdS 14 flR W v x.1 ∧ rdS 14 flR W u x.2
def b3 : List Fl × List Fl → Nat := fun _ => 0
theorem oa3 : OpensA Try.prog [22, 22] (List Fl × List Fl) R3 b3 := by
  refine OpensA.mono (oa_one (op_slice u22 (n := 14) (by kernel_rfl) op55) xsc22 (fun w cs a h => ⟨_, h.choose_spec.1⟩) (oa_one (op_slice u22 (n := 14) (by kernel_rfl) op55) xsc22 (fun w cs a h => ⟨_, h.choose_spec.1⟩) oa_nil)) ?_
  rintro W vs ⟨l, k, ⟨⟩⟩ ⟨v, r, rfl, ⟨v', hv, hr, hl⟩, v2, r2, rfl, ⟨v2', hv2, hr2, hl2⟩, rfl⟩
  exact ⟨(l, k), ⟨v, v2, rfl, by rw [one_cell hv]; exact hr, by rw [one_cell hv2]; exact hr2⟩, Nat.zero_le _⟩
def b4 : List Fl → Nat := fun _ => 0
end Go.Proofs.Ytiajdaagamhbnaa

namespace Go.Proofs.Ytiajdaagamhbnaa
open Go.ChangeShapes Go.WideShapes Go.ChangeAt Go.RowKit
open Sh
theorem law3 (W : World) (vs : List Value) (a : List Fl × List Fl) (h : R3 W vs a) : Calls Try.prog 3 vs.toArray W (Rt fun v W' => v = .bool true ∧ Below W.heap.size W W') := by
  obtain ⟨v, u, rfl, hr, hu⟩ := h
  exact s3 _ _ _ _ (f3_s (flR_eq hr) (flR_eq hu) (fun f hf => (flR_all hr f hf).1) (fun f hf => (flR_all hu f hf).1) fun w' h => ⟨rfl, h⟩)
theorem own : ownKnob Try.prog.godebug = none := by kernel_rfl
set_option maxRecDepth 100000 in
theorem lifted3 (os : Os) (started : os.Started) (H : Type) (enc : TypeId × Value → H) :
    ReturnsInHanded {} Try.checked os 3 .any (Rows.reportPartsSpec.pre6 enc Try.prog Try.f3 Rows.reportPartsRow.domain false) (Rows.reportPartsSpec.post enc Try.prog Try.f3 false true false false) := by
  refine law_from (C := Try.checked) (tb := 4) (R := R3) (b := b3) own started (by kernel_rfl) Try.func3
    (ChangeSpec.witness6 (enc := enc) (C := Try.checked) false ⟨#[], #[.slice none 0 0, .slice none 0 0], []⟩ 8 (by kernel_rfl) (by kernel_rfl) (by kernel_rfl) (by kernel_rfl))
    rfl (by kernel_rfl) (by kernel_rfl) rfl Try.underlying4 (fun ds hd => ?_) ?_ law3
  · match ds, hd with
    | [d0, d1], _ => exact ⟨rfl, rfl, rfl⟩
  · show OpensA Try.prog Try.f3.params.toList _ R3 b3
    rw [Try.params3]; exact oa3
theorem reportParts_holds : Rows.ReportPartsSaid :=
  OpenClaim.holds_of_wide 3 Try.f3 rfl rfl rfl rfl rfl rfl rfl ⟨rfl, rfl, rfl, rfl, rfl⟩ rfl rfl rfl rfl rfl (by kernel_rfl) Try.func3 (by kernel_rfl)
    (of_decide_eq_true (by kernel_rfl)) (by unfold Func.isWrapper; first | (rw [if_pos (by decide +kernel)]; kernel_rfl) | (rw [if_neg (by decide +kernel)]; exact ⟨rfl, rfl⟩))
    (fun os started H enc _ => lifted3 os started H enc)
#print axioms reportParts_holds
end Go.Proofs.Ytiajdaagamhbnaa
