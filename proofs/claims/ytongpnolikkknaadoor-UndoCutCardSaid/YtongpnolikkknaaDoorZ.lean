/- The call of UndoCut returns true for every input, and its arguments read behind it as they read before. -/
import Derived.Test.YtongpnolikkknaaDoorZ2
import Derived.Shelf.Abstract
import Derived.SizedLaws
import Derived.Carry
import Derived.ProofKit
import Derived.JoinedCond
import Derived.Deep.CondSized
import Derived.OpenShut
import Derived.Test.YtongpnolikkknaaDoorTie
import Derived.LaidLaws
import Derived.LaidHandle
import Derived.SevenTiedAt
import Derived.Test.YtongpnolikkknaaDoorCards
import GoSem.PinnedTables
set_option linter.unusedVariables false
set_option linter.unusedSimpArgs false
set_option linter.unusedSectionVars false
set_option maxRecDepth 20000
set_option maxHeartbeats 4000000
namespace Go.Proofs.YtongpnolikkknaaDoor
open Sh RowKit Go.MapKept
theorem right2 : rightB [3, 258] = true := by decide
theorem dirL2 : strOfNums (dirL [3, 258]) = ⟨#[2, 0, 3, 1, 2]⟩ := rfl
theorem dirW2 : dirW [3, 258] = ((pad ⟨#[2, 0, 3, 1, 2]⟩).1, 0) := by
  unfold dirW
  rw [if_neg (by decide), if_pos right2, dirL2]
theorem mkd_mark (b : Bool) : mkd (markB b).1 = b := by
  cases b <;> rfl
theorem lit22 (x y : Int) (w : World) : (Instr.buildSlice 22 2 #[(0, .int .i64 x), (1, .int .i64 y)]).run Tryd.prog w = .ok (.slice (some ⟨w.heap.size, 0, none⟩) 2 2) (psh w (.cells #[.int .i64 x, .int .i64 y] 3)) := by
  kernel_rfl
section
variable {W w : World} {Q : Value → World → Prop}
theorem rdI_two {g : Nat} {x y : Int} {t : TypeId} {fr : Nat × Nat} (h : w.heap[g]? = some (.cells #[.int .i64 x, .int .i64 y] t fr)) : rdI .i64 w (.slice (some ⟨g, 0, none⟩) 2 2) [x, y] := by
  refine ⟨_, 2, rfl, fun i hi => ⟨_, rfl, ?_⟩⟩
  rw [add_lit, Nat.zero_add, cell_of_blk h]
  match i, hi with
  | 0, _ => rfl
  | 1, _ => rfl
theorem get0 (x y : Value) : (#[x, y] : Array Value)[0]? = some x := rfl
theorem get1 (x y : Value) : (#[x, y] : Array Value)[1]? = some y := rfl
theorem f12_s (kk : ∀ w', Below w.heap.size w w' → Q (.bool true) w') : f12 w Q := by
  unfold f12
  refine ⟨_, _, lit22 3 258 w, ?_⟩
  have b1 := b_psh w (.cells #[.int .i64 3, .int .i64 258] 3)
  have r1 := rdI_two (blk_psh_new (w := w) (o := .cells #[.int .i64 3, .int .i64 258] 3))
  generalize psh w (.cells #[.int .i64 3, .int .i64 258] 3) = w1 at *
  try simp only [↓reduceIte, ↓LL, LM, Value.cells, Nat.reduceAdd, Option.some.injEq, exists_eq_left', decide_true, decide_false, if_true, if_false, reduceCtorEq, cond_true, cond_false]
  refine f13_s r1 (by decide) (by decide) fun w2 b2 => ?_
  have b02 := bt b1 b2
  rw [dirW2]
  try simp only [↓reduceIte, ↓LL, LM, Value.cells, Nat.reduceAdd, Option.some.injEq, exists_eq_left', decide_true, decide_false, if_true, if_false, reduceCtorEq, cond_true, cond_false, get0, get1]
  refine f42_s _ fun w3 b3 => ?_
  have b03 := bt b02 b3
  have hback := dir_back (l := [3, 258]) (by decide) right2
  have e1 : (dirW [3, 258]).1 = (pad ⟨#[2, 0, 3, 1, 2]⟩).1 := by rw [dirW2]
  rw [e1] at hback
  try simp only [↓reduceIte, ↓LL, LM, Value.cells, Nat.reduceAdd, Option.some.injEq, exists_eq_left', decide_true, decide_false, if_true, if_false, reduceCtorEq, cond_true, cond_false]
  refine f15_s (by rw [(pad _).2]; decide) (fun w4 b4 h => by rw [hback.2.2.2] at h; cases h) (fun w4 u b4 _ o4 => ?_)
  have hl : (rdA (pad ⟨#[2, 0, 3, 1, 2]⟩).1).1 = [3, 258] := by rw [rdA_ok hback.1]; exact hback.2.1
  rw [hl] at o4
  have r4 := ownI_rd o4
  have b04 := bt b03 b4
  obtain ⟨ax, cx, hax⟩ := ld_i r4 (i := 1) (by decide)
  have hax1 : ∀ (K : Value → M) (w : World) (Q : Value → World → Prop), ia 1 u (.int .i64 1) K w Q = K (.pointer (some ax)) w Q := fun K w Q => hax K w Q
  have l2 : ((([3, 258] : List Int).length : Nat) : Int) = 2 := rfl
  try simp only [↓reduceIte, ↓LL, LM, Value.cells, Nat.reduceAdd, Option.some.injEq, exists_eq_left', decide_true, decide_false, if_true, if_false, reduceCtorEq, cond_true, cond_false, get0, get1]
  refine f42_s _ fun w5 b5 => ?_
  have b05 := bt b04 b5
  obtain ⟨pu, cu, eu, _⟩ := r4
  have qx := cx w5 b5
  have lu : ∀ (K : Value → M) (w : World) (Q : Value → World → Prop), lnl u K w Q = K (.int .i64 2) w Q := fun K w Q => by rw [eu, lnl_e]; rfl
  have x258 : ([3, 258] : List Int)[1] = 258 := rfl
  try simp only [↓reduceIte, ↓LL, LM, Value.cells, Nat.reduceAdd, Option.some.injEq, exists_eq_left', decide_true, decide_false, if_true, if_false, reduceCtorEq, cond_true, cond_false, lu, hax1, qx, x258]
  refine f21_s (by decide) (by decide) ?_
  try simp only [↓reduceIte, ↓LL, LM, Value.cells, Nat.reduceAdd, Option.some.injEq, exists_eq_left', decide_true, decide_false, if_true, if_false, reduceCtorEq, cond_true, cond_false]
  refine f18_s fun w6 b6 => ?_
  try simp only [↓reduceIte, ↓LL, LM, Value.cells, Nat.reduceAdd, Option.some.injEq, exists_eq_left', decide_true, decide_false, if_true, if_false, reduceCtorEq, cond_true, cond_false]
  refine f19_s ?_
  rw [mkd_mark]
  try simp only [↓reduceIte, ↓LL, LM, Value.cells, Nat.reduceAdd, Option.some.injEq, exists_eq_left', decide_true, decide_false, if_true, if_false, reduceCtorEq, cond_true, cond_false]
  exact kk w6 (bt b05 b6)
/-- UndoDirectory -/
theorem f3_s {v : Value} {l : List Int} {s : ByteArray} (h : rdI .i64 w v l) (hl : l.length ≤ 140737488355328) (hwf : ∀ x ∈ l, x ≤ 9223372036854775807) (hs : s.size ≤ 140737488355328) (kk : ∀ w', Below w.heap.size w w' → Q (.bool true) w') : f3 v (.string s) w Q := by
  unfold f3
  try simp only [↓reduceIte, ↓LL, LM, Value.cells, Nat.reduceAdd, Option.some.injEq, exists_eq_left', decide_true, decide_false, if_true, if_false, reduceCtorEq, cond_true, cond_false]
  refine f12_s fun w1 b1 => ?_
  try simp only [↓reduceIte, ↓LL, LM, Value.cells, Nat.reduceAdd, Option.some.injEq, exists_eq_left', decide_true, decide_false, if_true, if_false, reduceCtorEq, cond_true, cond_false]
  refine f13_s (rdI_below b1 h) hl hwf fun w2 b2 => ?_
  have b02 := bt b1 b2
  try simp only [↓reduceIte, ↓LL, LM, Value.cells, Nat.reduceAdd, Option.some.injEq, exists_eq_left', decide_true, decide_false, if_true, if_false, reduceCtorEq, cond_true, cond_false, get0, get1]
  refine f14_s (rdI_below b02 h) hl fun w3 b3 => ?_
  have b03 := bt b02 b3
  try simp only [↓reduceIte, ↓LL, LM, Value.cells, Nat.reduceAdd, Option.some.injEq, exists_eq_left', decide_true, decide_false, if_true, if_false, reduceCtorEq, cond_true, cond_false, get0, get1]
  have fin : ∀ (w5 : World) (x y : Value) (m : List Int) (e : Int), Below w.heap.size w w5 → rdI .i64 w5 x m → rdI .i64 w5 y m → m.length ≤ 300 → f17 x y w5 (fun v w' => Q v w') := by
    intro w5 x y m e b5 hx hy hm
    refine f17_s hx hy (by omega) fun w6 b6 => ?_
    rw [decide_eq_true rfl]
    exact kk w6 (bt b5 b6)
  have rn : ∀ w', rdI .i64 w' (.slice none 0 0) [] := fun w' => ⟨none, 0, rfl, fun i hi => by simp at hi⟩
  refine f15_s (by omega) (fun w4 b4 hd => ?_) (fun w4 u b4 hd o4 => ?_)
  · have b04 := bt b03 b4
    try simp only [↓reduceIte, ↓LL, LM, Value.cells, Nat.reduceAdd, Option.some.injEq, exists_eq_left', decide_true, decide_false, if_true, if_false, reduceCtorEq, cond_true, cond_false, get0, get1]
    refine f16_s (by omega) (fun w5 b5 _ => ?_) (fun w5 u b5 h => by rw [hd] at h; cases h)
    try simp only [↓reduceIte, ↓LL, LM, Value.cells, Nat.reduceAdd, Option.some.injEq, exists_eq_left', decide_true, decide_false, if_true, if_false, reduceCtorEq, cond_true, cond_false, get0, get1]
    exact fin w5 _ _ [] 10 (bt b04 b5) (rn _) (rn _) (by decide)
  · have b04 := bt b03 b4
    have hl4 : (rdA s).1 = lst s := by rw [rdA_ok (dir_iff.1 hd).1]
    rw [hl4] at o4
    try simp only [↓reduceIte, ↓LL, LM, Value.cells, Nat.reduceAdd, Option.some.injEq, exists_eq_left', decide_true, decide_false, if_true, if_false, reduceCtorEq, cond_true, cond_false, get0, get1]
    refine f16_s (by omega) (fun w5 b5 h => by rw [hd] at h; cases h) (fun w5 u5 b5 _ o5 => ?_)
    try simp only [↓reduceIte, ↓LL, LM, Value.cells, Nat.reduceAdd, Option.some.injEq, exists_eq_left', decide_true, decide_false, if_true, if_false, reduceCtorEq, cond_true, cond_false, get0, get1]
    have hn := n1_lt s
    exact fin w5 _ _ (lst s) 0 (bt b04 b5) (rdI_below b5 (ownI_rd o4)) (ownI_rd o5) (by rw [lst_len]; omega)
/-- UndoBack -/
theorem f4_s {v : Value} {l : List Int} {s : ByteArray} (h : rdI .i64 w v l) (hl : l.length ≤ 140737488355328) (hwf : ∀ x ∈ l, x ≤ 9223372036854775807) (hs : s.size ≤ 140737488355328) (kk : ∀ w', Below w.heap.size w w' → Q (.bool true) w') : f4 v (.string s) w Q := by
  unfold f4
  try simp only [↓reduceIte, ↓LL, LM, Value.cells, Nat.reduceAdd, Option.some.injEq, exists_eq_left', decide_true, decide_false, if_true, if_false, reduceCtorEq, cond_true, cond_false]
  refine f12_s fun w1 b1 => ?_
  try simp only [↓reduceIte, ↓LL, LM, Value.cells, Nat.reduceAdd, Option.some.injEq, exists_eq_left', decide_true, decide_false, if_true, if_false, reduceCtorEq, cond_true, cond_false]
  refine f13_s (rdI_below b1 h) hl hwf fun w2 b2 => ?_
  have b02 := bt b1 b2
  try simp only [↓reduceIte, ↓LL, LM, Value.cells, Nat.reduceAdd, Option.some.injEq, exists_eq_left', decide_true, decide_false, if_true, if_false, reduceCtorEq, cond_true, cond_false, get0, get1]
  have hn := n1_lt s
  -- the second half
  have fin : ∀ w3, Below w.heap.size w w3 → f15 (.string s) w3 (fun v w' => (ex 0 v fun t40 => ex 1 v fun t41 => cl (f13 t40) fun t44 => ex 0 t44 fun t45 => ex 1 t44 fun t46 =>
      nei .i64 t41 (.int .i64 0) fun t48 => gd t48 false (idv t46) fun t50 => gd t48 false (eqi .i64 t50 (.int .i64 0)) fun t51 => gd t48 false (idv t51) fun t52 => gd t52 true (idv t45) fun t53 => gd t52 true (idv (.string s)) fun t54 =>
      gd t52 true (eqs t53 t54) fun t55 => gd t48 false (pk t52 t55 (.bool false)) fun t56 => pk t48 (.bool true) t56 fun t57 => rt t57) w' Q) := by
    intro w3 b3
    refine f15_s (by omega) (fun w4 b4 hd => ?_) (fun w4 u b4 hd o4 => ?_)
    · have b04 := bt b3 b4
      try simp only [↓reduceIte, ↓LL, LM, Value.cells, Nat.reduceAdd, Option.some.injEq, exists_eq_left', decide_true, decide_false, if_true, if_false, reduceCtorEq, cond_true, cond_false, get0, get1]
      refine f13_s (l := []) ⟨none, 0, rfl, fun i hi => by simp at hi⟩ (by decide) (by simp) fun w5 b5 => ?_
      have z : ¬ (10 : Int) = 0 := by decide
      try simp only [↓reduceIte, ↓LL, LM, Value.cells, Nat.reduceAdd, Option.some.injEq, exists_eq_left', decide_true, decide_false, if_true, if_false, reduceCtorEq, cond_true, cond_false, get0, get1, z, ne_eq]
      exact kk w5 (bt b04 b5)
    · have b04 := bt b3 b4
      have hl4 : (rdA s).1 = lst s := by rw [rdA_ok (dir_iff.1 hd).1]
      have hbd : ∀ x ∈ (rdA s).1, 0 ≤ x ∧ x ≤ 65535 := rdN_bd _ _ _
      rw [hl4] at o4 hbd
      try simp only [↓reduceIte, ↓LL, LM, Value.cells, Nat.reduceAdd, Option.some.injEq, exists_eq_left', decide_true, decide_false, if_true, if_false, reduceCtorEq, cond_true, cond_false, get0, get1]
      refine f13_s (ownI_rd o4) (by rw [lst_len]; omega) (fun x hx => by have := hbd x hx; omega) fun w5 b5 => ?_
      rw [(dir_iff.1 hd).2]
      try simp only [↓reduceIte, ↓LL, LM, Value.cells, Nat.reduceAdd, Option.some.injEq, exists_eq_left', decide_true, decide_false, if_true, if_false, reduceCtorEq, cond_true, cond_false, get0, get1, ne_eq]
      exact kk w5 (bt b04 b5)
  by_cases c1 : l.length ≤ 31 ∧ rightB l = true
  · obtain ⟨hf, hlst, hz, hB⟩ := dir_back c1.1 c1.2
    have hA : (rdA (dirW l).1).1 = l := by rw [rdA_ok hf]; exact hlst
    have hsz : (dirW l).1.size ≤ 64 := by
      have : dirW l = ((pad (strOfNums (dirL l))).1, 0) := by unfold dirW; rw [if_neg (by omega), if_pos c1.2]
      rw [this]; exact Nat.le_of_eq (pad _).2
    refine f15_s (by omega) (fun w3 b3 hd => by rw [hB] at hd; cases hd) (fun w3 u b3 hd o3 => ?_)
    rw [hA] at o3
    have b03 := bt b02 b3
    try simp only [↓reduceIte, ↓LL, LM, Value.cells, Nat.reduceAdd, Option.some.injEq, exists_eq_left', decide_true, decide_false, if_true, if_false, reduceCtorEq, cond_true, cond_false, get0, get1, hz, ne_eq]
    refine f17_s (ownI_rd o3) (rdI_below b03 h) hl fun w4 b4 => ?_
    rw [decide_eq_true rfl]
    try simp only [↓reduceIte, ↓LL, LM, Value.cells, Nat.reduceAdd, Option.some.injEq, exists_eq_left', decide_true, decide_false, if_true, if_false, reduceCtorEq, cond_true, cond_false]
    exact fin w4 (bt b03 b4)
  · have hz : ¬ (dirW l).2 = 0 := by
      unfold dirW
      by_cases c2 : 31 < l.length
      · rw [if_pos c2]; simp
      · rw [if_neg c2, if_neg (fun h => c1 ⟨by omega, h⟩)]; simp
    have hsz : (dirW l).1.size ≤ 64 := by
      unfold dirW
      by_cases c2 : 31 < l.length
      · rw [if_pos c2]; decide
      · rw [if_neg c2, if_neg (fun h => c1 ⟨by omega, h⟩)]; decide
    refine f15_s (by omega) (fun w3 b3 hd => ?_) (fun w3 u b3 hd o3 => ?_)
    · have b03 := bt b02 b3
      try simp only [↓reduceIte, ↓LL, LM, Value.cells, Nat.reduceAdd, Option.some.injEq, exists_eq_left', decide_true, decide_false, if_true, if_false, reduceCtorEq, cond_true, cond_false, get0, get1, hz, ne_eq]
      exact fin w3 b03
    · have b03 := bt b02 b3
      try simp only [↓reduceIte, ↓LL, LM, Value.cells, Nat.reduceAdd, Option.some.injEq, exists_eq_left', decide_true, decide_false, if_true, if_false, reduceCtorEq, cond_true, cond_false, get0, get1, hz, ne_eq]
      exact fin w3 b03
end
end Go.Proofs.YtongpnolikkknaaDoor

set_option maxRecDepth 20000
set_option maxHeartbeats 4000000
namespace Go.Proofs.YtongpnolikkknaaDoor
open Sh RowKit Go.MapKept
def um (x m : Int) : Int := (IntKind.u64.wrap x).tmod m
theorem um_bd (x : Int) {m : Int} (h : 0 < m) : 0 ≤ um x m ∧ um x m < m := by
  have h0 : 0 ≤ IntKind.u64.wrap x := by rw [wrap_u64]; omega
  unfold um
  exact ⟨Int.tmod_nonneg _ h0, Int.tmod_lt_of_pos _ h⟩
section
variable {W w : World} {Q : Value → World → Prop}
theorem sls_to {s : ByteArray} {k : Nat} {K : Value → M} (h : k ≤ s.size) (kk : K (.string (s.extract 0 k)) w Q) : sls (.string s) none (some (.int .i64 (k : Int))) K w Q :=
  ⟨s, 0, k, rfl, bnd_hi h, bnd_none, kk⟩
theorem sls_from {s : ByteArray} {k : Nat} {K : Value → M} (h : k ≤ s.size) (kk : K (.string (s.extract k s.size)) w Q) : sls (.string s) (some (.int .i64 (k : Int))) none K w Q :=
  ⟨s, k, s.size, rfl, bnd_none, bnd_hi h, kk⟩
theorem sls_in {s : ByteArray} {k l : Nat} {K : Value → M} (h : k ≤ l) (hl : l ≤ s.size) (kk : K (.string (s.extract k l)) w Q) : sls (.string s) (some (.int .i64 (k : Int))) (some (.int .i64 (l : Int))) K w Q :=
  ⟨s, k, l, rfl, bnd_hi hl, bnd_hi h, kk⟩
theorem mark_len (b : Bool) : (markB b).1.size = 64 := (markB b).2
theorem mark_head (b : Bool) : ∃ x r, byL (markB b).1 = x :: r ∧ decide (x ≠ 0) = b := by
  have h := mkd_mark b
  unfold mkd at h
  cases e : byL (markB b).1 with
  | nil =>
    have := byL_len (markB b).1
    rw [e, mark_len] at this; simp at this
  | cons x r => exact ⟨x, r, rfl, by rw [e] at h; exact h⟩
theorem mkd_torn (a b : Bool) (k : Nat) (hk : k ≤ 64) : mkd ((markB a).1.extract 0 k ++ (markB b).1.extract k (markB b).1.size) = a ∨ mkd ((markB a).1.extract 0 k ++ (markB b).1.extract k (markB b).1.size) = b := by
  have e : byL ((markB a).1.extract 0 k ++ (markB b).1.extract k (markB b).1.size) = (byL (markB a).1).take k ++ (byL (markB b).1).drop k := by
    rw [byL_app, byL_take, byL_take, List.drop_zero]
    congr 2
    exact List.take_of_length_le (by rw [byL_len]; exact Nat.le_refl _)
  obtain ⟨x, r, hx, ha⟩ := mark_head a
  obtain ⟨y, q, hy, hb⟩ := mark_head b
  unfold mkd
  rw [e, hx, hy]
  cases k with
  | zero => right; exact hb
  | succ k => left; exact ha
theorem f5_s {a b : Bool} {cut : Int} (kk : ∀ w', Below w.heap.size w w' → Q (.bool true) w') : f5 (.bool a) (.bool b) (.int .i64 cut) w Q := by
  unfold f5
  try simp only [↓reduceIte, ↓LL, LM, Value.cells, Nat.reduceAdd, Option.some.injEq, exists_eq_left', decide_true, decide_false, if_true, if_false, reduceCtorEq, cond_true, cond_false]
  refine f12_s fun w1 b1 => ?_
  try simp only [↓reduceIte, ↓LL, LM, Value.cells, Nat.reduceAdd, Option.some.injEq, exists_eq_left', decide_true, decide_false, if_true, if_false, reduceCtorEq, cond_true, cond_false]
  refine f18_s fun w2 b2 => ?_
  try simp only [↓reduceIte, ↓LL, LM, Value.cells, Nat.reduceAdd, Option.some.injEq, exists_eq_left', decide_true, decide_false, if_true, if_false, reduceCtorEq, cond_true, cond_false]
  refine f18_s fun w3 b3 => ?_
  have b03 := bt (bt b1 b2) b3
  have s64 : ∀ b, (((markB b).1.size : Nat) : Int) = 64 := fun b => by rw [mark_len]; rfl
  have bb : ∀ x : Bool, (!(x == x)) = false := fun x => by cases x <;> rfl
  try simp only [↓reduceIte, ↓LL, LM, Value.cells, Nat.reduceAdd, Option.some.injEq, exists_eq_left', decide_true, decide_false, if_true, if_false, reduceCtorEq, cond_true, cond_false, s64, ne_eq]
  refine f19_s ?_
  rw [mkd_mark]
  try simp only [↓reduceIte, ↓LL, LM, Value.cells, Nat.reduceAdd, Option.some.injEq, exists_eq_left', decide_true, decide_false, if_true, if_false, reduceCtorEq, cond_true, cond_false, bb]
  refine f19_s ?_
  rw [mkd_mark]
  try simp only [↓reduceIte, ↓LL, LM, Value.cells, Nat.reduceAdd, Option.some.injEq, exists_eq_left', decide_true, decide_false, if_true, if_false, reduceCtorEq, cond_true, cond_false, bb]
  refine f19_s ?_
  rw [mkd_nil rfl]
  have z65 : ¬ (65 : Int) = 0 := by decide
  obtain ⟨h0, h1⟩ := um_bd cut (m := 65) (by decide)
  have e1 : (IntKind.u64.wrap cut).tmod 65 = um cut 65 := rfl
  have e2 : IntKind.i64.wrap (um cut 65) = ((um cut 65).toNat : Int) := by rw [w64 (by omega) (by omega)]; omega
  try simp only [↓reduceIte, ↓LL, LM, Value.cells, Nat.reduceAdd, Option.some.injEq, exists_eq_left', decide_true, decide_false, if_true, if_false, reduceCtorEq, cond_true, cond_false, ne_eq, z65, true_and, e1, e2]
  refine sls_to (by rw [mark_len]; omega) ?_
  try simp only [↓reduceIte, ↓LL, LM, Value.cells, Nat.reduceAdd, Option.some.injEq, exists_eq_left', decide_true, decide_false, if_true, if_false, reduceCtorEq, cond_true, cond_false]
  refine sls_from (by rw [mark_len]; omega) ?_
  try simp only [↓reduceIte, ↓LL, LM, Value.cells, Nat.reduceAdd, Option.some.injEq, exists_eq_left', decide_true, decide_false, if_true, if_false, reduceCtorEq, cond_true, cond_false]
  rw [cat_e]
  refine ⟨by rw [ByteArray.size_extract, ByteArray.size_extract, mark_len, mark_len]; omega, ?_⟩
  try simp only [↓reduceIte, ↓LL, LM, Value.cells, Nat.reduceAdd, Option.some.injEq, exists_eq_left', decide_true, decide_false, if_true, if_false, reduceCtorEq, cond_true, cond_false]
  refine f19_s ?_
  have hor := mkd_torn a b (um cut 65).toNat (by omega)
  generalize mkd _ = x at *
  have bd : Below w.heap.size w (drw w3) := b03.trans ⟨rfl, rfl, rfl, Nat.le_refl _, fun _ _ => rfl⟩
  try simp only [↓reduceIte, ↓LL, LM, Value.cells, Nat.reduceAdd, Option.some.injEq, exists_eq_left', decide_true, decide_false, if_true, if_false, reduceCtorEq, cond_true, cond_false]
  by_cases hxa : x = a
  · have : (x == a) = true := by rw [hxa]; cases a <;> rfl
    rw [this]
    try simp only [↓reduceIte, ↓LL, LM, Value.cells, Nat.reduceAdd, Option.some.injEq, exists_eq_left', decide_true, decide_false, if_true, if_false, reduceCtorEq, cond_true, cond_false]
    exact kk _ bd
  · have : (x == a) = false := by cases x <;> cases a <;> simp_all
    rw [this]
    have hxb := hor.resolve_left hxa
    have : (x == b) = true := by rw [hxb]; cases b <;> rfl
    try simp only [↓reduceIte, ↓LL, LM, Value.cells, Nat.reduceAdd, Option.some.injEq, exists_eq_left', decide_true, decide_false, if_true, if_false, reduceCtorEq, cond_true, cond_false, this]
    exact kk _ bd
theorem iaa0 {g : Nat} {K : Value → M} : iaa 2 1 (.pointer (some ⟨g, 0, none⟩)) (.int .i64 0) K w Q = K (.pointer (some ⟨g, 0, none⟩)) w Q := by
  rw [iaa_e]
  apply propext
  exact ⟨fun h => h.2.2, fun h => ⟨by decide, by decide, h⟩⟩
theorem iaa1 {g : Nat} {K : Value → M} : iaa 2 1 (.pointer (some ⟨g, 0, none⟩)) (.int .i64 1) K w Q = K (.pointer (some ⟨g, 1, none⟩)) w Q := by
  rw [iaa_e]
  apply propext
  exact ⟨fun h => h.2.2, fun h => ⟨by decide, by decide, h⟩⟩
theorem f6_s {a0 a1 c0 c1 pg : Int} (kk : ∀ w', Below w.heap.size w w' → Q (.bool true) w') : f6 (.agg #[.int .i64 a0, .int .i64 a1]) (.agg #[.int .i64 c0, .int .i64 c1]) (.int .i64 pg) w Q := by
  unfold f6
  have b1 := b_psh w (.cells (Value.agg #[.int .i64 a0, .int .i64 a1]).cells 35)
  have k1 := blk_psh_new (w := w) (o := .cells (Value.agg #[.int .i64 a0, .int .i64 a1]).cells 35)
  rw [bx_e]
  generalize psh w (.cells (Value.agg #[.int .i64 a0, .int .i64 a1]).cells 35) = w1 at *
  have b2 := b_psh w1 (.cells (Value.agg #[.int .i64 c0, .int .i64 c1]).cells 35)
  have k2 := blk_psh_new (w := w1) (o := .cells (Value.agg #[.int .i64 c0, .int .i64 c1]).cells 35)
  rw [bx_e]
  have k1 := stay b2 k1
  generalize psh w1 (.cells (Value.agg #[.int .i64 c0, .int .i64 c1]).cells 35) = w2 at *
  have b02 := bt b1 b2
  try simp only [↓reduceIte, ↓LL, LM, Value.cells, Nat.reduceAdd, Option.some.injEq, exists_eq_left', decide_true, decide_false, if_true, if_false, reduceCtorEq, cond_true, cond_false]
  refine f12_s fun w3 b3 => ?_
  have b03 := bt b02 b3
  have k1 := stay b3 k1
  have k2 := stay b3 k2
  have x0 : ∀ w' : World, w'.heap = w3.heap → w'.cell? ⟨w.heap.size, 0, none⟩ = some (.int .i64 a0) := fun w' h => by rw [cell_of_blk (by rw [h]; exact k1)]; rfl
  have x1 : ∀ w' : World, w'.heap = w3.heap → w'.cell? ⟨w.heap.size, 1, none⟩ = some (.int .i64 a1) := fun w' h => by rw [cell_of_blk (by rw [h]; exact k1)]; rfl
  have y0 : ∀ w' : World, w'.heap = w3.heap → w'.cell? ⟨w1.heap.size, 0, none⟩ = some (.int .i64 c0) := fun w' h => by rw [cell_of_blk (by rw [h]; exact k2)]; rfl
  have y1 : ∀ w' : World, w'.heap = w3.heap → w'.cell? ⟨w1.heap.size, 1, none⟩ = some (.int .i64 c1) := fun w' h => by rw [cell_of_blk (by rw [h]; exact k2)]; rfl
  have p0 := x0 (drw w3) rfl
  have p1 := x1 (drw w3) rfl
  have p2 := y0 (drw (drw w3)) rfl
  have p3 := y1 (drw (drw w3)) rfl
  have p4 := x0 (drw (drw (drw w3))) rfl
  have p5 := x1 (drw (drw (drw w3))) rfl
  obtain ⟨n0, n1'⟩ := um_bd pg (m := 1000) (by decide)
  have m1 : (IntKind.u64.wrap pg).tmod 1000 = um pg 1000 := rfl
  have m2 : IntKind.i64.wrap (um pg 1000) = um pg 1000 := w64 (by omega) (by omega)
  have m3 : IntKind.i64.wrap (um pg 1000 + 1) = um pg 1000 + 1 := w64 (by omega) (by omega)
  obtain ⟨n, hn⟩ : ∃ n, n = um pg 1000 + 1 := ⟨_, rfl⟩
  rw [← hn] at m3
  have mn : IntKind.u64.wrap n = n := wu64 (by omega) (by omega)
  have z1000 : ¬ (1000 : Int) = 0 := by decide
  have z31 : ¬ (31 : Int) = 0 := by decide
  have z4 : ¬ (4 : Int) = 0 := by decide
  have zn : ¬ n = 0 := by omega
  have um_w : ∀ (x m : Int), 0 < m → m ≤ 100000 → IntKind.i64.wrap (um x m) = um x m := fun x m h0 h1 => by have := um_bd x h0; exact w64 (by omega) (by omega)
  obtain ⟨ka, kb⟩ := um_bd a0 (m := 31) (by decide)
  obtain ⟨ja, jb⟩ := um_bd a1 (m := 4) (by decide)
  obtain ⟨pa, pb⟩ := um_bd c0 (m := n) (by omega)
  obtain ⟨ia, ib⟩ := um_bd c1 (m := 4) (by decide)
  obtain ⟨qa, qb⟩ := um_bd a0 (m := n) (by omega)
  have ef : ∀ x m : Int, (IntKind.u64.wrap x).tmod m = um x m := fun _ _ => rfl
  have w1' := um_w a0 31 (by decide) (by decide)
  have w2' := um_w a1 4 (by decide) (by decide)
  have w3' := um_w c0 n (by omega) (by omega)
  have w4' := um_w c1 4 (by decide) (by decide)
  have w5' := um_w a0 n (by omega) (by omega)
  try simp only [↓reduceIte, ↓LL, LM, Value.cells, Nat.reduceAdd, Option.some.injEq, exists_eq_left', decide_true, decide_false, if_true, if_false, reduceCtorEq, cond_true, cond_false, ne_eq, z1000, not_false_eq_true, true_and, ef, m2, ← hn, m3]
  try simp only [↓reduceIte, ↓LL, LM, Value.cells, Nat.reduceAdd, Option.some.injEq, exists_eq_left', decide_true, decide_false, if_true, if_false, reduceCtorEq, cond_true, cond_false, iaa0, iaa1, p0, p1, p2, p3, p4, p5, ne_eq, z31, z4, zn, mn, not_false_eq_true, true_and, ef, w1', w2', w3', w4', w5']
  refine f20_s (by omega) (by omega) ?_
  try simp only [↓reduceIte, ↓LL, LM, Value.cells, Nat.reduceAdd, Option.some.injEq, exists_eq_left', decide_true, decide_false, if_true, if_false, reduceCtorEq, cond_true, cond_false]
  refine f21_s (by omega) (by omega) ?_
  try simp only [↓reduceIte, ↓LL, LM, Value.cells, Nat.reduceAdd, Option.some.injEq, exists_eq_left', decide_true, decide_false, if_true, if_false, reduceCtorEq, cond_true, cond_false, iaa0, iaa1, p0, p1, p2, p3, p4, p5, ne_eq, z31, z4, zn, mn, not_false_eq_true, true_and, ef, w1', w2', w3', w4', w5']
  refine f21_s (by omega) (by omega) ?_
  have g1 : (2 : Int) ≤ 2 + 4 * um a0 31 + um a1 4 := by omega
  have g2 : 2 + 4 * um a0 31 + um a1 4 < 126 + 4 * 0 + 0 := by omega
  have g3 : 126 + 4 * 0 + 0 ≤ 126 + 4 * um c0 n + um c1 4 := by omega
  have g4 : 126 + 4 * um c0 n + um c1 4 < 126 + 4 * n := by omega
  try simp only [↓reduceIte, ↓LL, LM, Value.cells, Nat.reduceAdd, Option.some.injEq, exists_eq_left', decide_true, decide_false, if_true, if_false, reduceCtorEq, cond_true, cond_false, g1]
  refine f21_s (by decide) (by decide) ?_
  try simp only [↓reduceIte, ↓LL, LM, Value.cells, Nat.reduceAdd, Option.some.injEq, exists_eq_left', decide_true, decide_false, if_true, if_false, reduceCtorEq, cond_true, cond_false, g2]
  refine f21_s (by decide) (by decide) ?_
  try simp only [↓reduceIte, ↓LL, LM, Value.cells, Nat.reduceAdd, Option.some.injEq, exists_eq_left', decide_true, decide_false, if_true, if_false, reduceCtorEq, cond_true, cond_false, g3]
  refine f22_s (by omega) ?_
  have v1 : IntKind.i64.wrap (4 * um a0 31) = 4 * um a0 31 := w64 (by omega) (by omega)
  have v2 : IntKind.i64.wrap (2 + 4 * um a0 31) = 2 + 4 * um a0 31 := w64 (by omega) (by omega)
  have v3 : IntKind.i64.wrap (2 + 4 * um a0 31 + um a1 4) = 2 + 4 * um a0 31 + um a1 4 := w64 (by omega) (by omega)
  have v4 : IntKind.i64.wrap (4 * um c0 n) = 4 * um c0 n := w64 (by omega) (by omega)
  have v5 : IntKind.i64.wrap (126 + 4 * um c0 n) = 126 + 4 * um c0 n := w64 (by omega) (by omega)
  have v6 : IntKind.i64.wrap (126 + 4 * um c0 n + um c1 4) = 126 + 4 * um c0 n + um c1 4 := w64 (by omega) (by omega)
  have bd : Below w.heap.size w (drw (drw (drw w3))) := b03.trans ⟨rfl, rfl, rfl, Nat.le_refl _, fun _ _ => rfl⟩
  have tt : ∀ b : Bool, (b == b) = true := fun b => by cases b <;> rfl
  try simp only [↓reduceIte, ↓LL, LM, Value.cells, Nat.reduceAdd, Option.some.injEq, exists_eq_left', decide_true, decide_false, if_true, if_false, reduceCtorEq, cond_true, cond_false, g4, v1, v2, v3, v4, v5, v6]
  by_cases e1 : um c0 n = um a0 n
  · by_cases e2 : um c1 4 = um a1 4
    · try simp only [↓reduceIte, ↓LL, LM, Value.cells, Nat.reduceAdd, Option.some.injEq, exists_eq_left', decide_true, decide_false, if_true, if_false, reduceCtorEq, cond_true, cond_false, tt, e1, e2, v1, v2, v3]
      rw [e1, e2] at v6
      rw [e1] at v4 v5
      try simp only [↓reduceIte, ↓LL, LM, Value.cells, Nat.reduceAdd, Option.some.injEq, exists_eq_left', decide_true, decide_false, if_true, if_false, reduceCtorEq, cond_true, cond_false, tt, e1, e2, v1, v2, v3, v4, v5, v6]
      exact kk _ bd
    · have e3 : ¬ (126 + 4 * um a0 n + um c1 4 = 126 + 4 * um a0 n + um a1 4) := by omega
      rw [e1] at v4 v5 v6
      try simp only [↓reduceIte, ↓LL, LM, Value.cells, Nat.reduceAdd, Option.some.injEq, exists_eq_left', decide_true, decide_false, if_true, if_false, reduceCtorEq, cond_true, cond_false, tt, e1, e2, e3, v1, v2, v3, v4, v5, v6]
      exact kk _ bd
  · have e3 : ¬ (126 + 4 * um c0 n + um c1 4 = 126 + 4 * um a0 n + um a1 4) := by omega
    try simp only [↓reduceIte, ↓LL, LM, Value.cells, Nat.reduceAdd, Option.some.injEq, exists_eq_left', decide_true, decide_false, if_true, if_false, reduceCtorEq, cond_true, cond_false, tt, e1, e3, v1, v2, v3, v4, v5, v6]
    exact kk _ bd
end
end Go.Proofs.YtongpnolikkknaaDoor

set_option maxRecDepth 20000
set_option maxHeartbeats 4000000
namespace Go.Proofs.YtongpnolikkknaaDoor
open Sh RowKit Go.MapKept
/-- a slice that reads as texts -/
def rdT (w : World) (v : Value) (l : List ByteArray) : Prop := (v = .slice none 0 0 ∧ l = []) ∨ ∃ a c, v = .slice (some a) l.length c ∧ l.length ≤ c ∧ ∀ i (h : i < l.length), w.cell? (a.add i) = some (.string l[i])
/-- all of some texts -/
def catL (l : List ByteArray) : ByteArray := strOfNums (l.flatMap byL)
theorem byL_catL (l : List ByteArray) : byL (catL l) = l.flatMap byL := byL_son fun x hx => by
  obtain ⟨s, _, hs⟩ := List.mem_flatMap.1 hx
  exact byL_nn hs
theorem catL_snoc (l : List ByteArray) (s : ByteArray) : catL l ++ s = catL (l ++ [s]) := by
  apply byL_inj
  rw [byL_app, byL_catL, byL_catL, List.flatMap_append]; simp
theorem catL_nil : catL [] = ⟨#[]⟩ := rfl
theorem catL_size (l : List ByteArray) : (catL l).size = (l.map (·.size)).sum := by
  rw [← byL_len, byL_catL]
  induction l with
  | nil => rfl
  | cons s l ih => rw [List.flatMap_cons, List.length_append, ih, byL_len, List.map_cons, List.sum_cons]
theorem catL_64 {l : List ByteArray} (h : ∀ s ∈ l, s.size = 64) : (catL l).size = 64 * l.length := by
  rw [catL_size]
  induction l with
  | nil => rfl
  | cons s l ih => rw [List.map_cons, List.sum_cons, ih (fun t ht => h t (by simp [ht])), h s (by simp), List.length_cons]; omega
/-- four sectors? -/
def four (l : List ByteArray) : Bool := decide (l.length = 4 ∧ ∀ s ∈ l, s.size = 64)
def joinB (l : List ByteArray) : ByteArray × Int := if four l = true then (catL l, 0) else (⟨#[]⟩, 1)
/-- a page's sectors -/
def chunk (s : ByteArray) (j : Nat) : ByteArray := s.extract (64 * j) (64 * j + 64)
def cutL (s : ByteArray) (n : Nat) : List ByteArray := (List.range n).map (chunk s)
theorem cutL_len (s : ByteArray) (n : Nat) : (cutL s n).length = n := by unfold cutL; rw [List.length_map, List.length_range]
theorem cutL_succ (s : ByteArray) (n : Nat) : cutL s (n + 1) = cutL s n ++ [chunk s n] := by unfold cutL; rw [List.range_succ, List.map_append]; rfl
theorem chunk_size {s : ByteArray} {j : Nat} (h : s.size = 256) (hj : j < 4) : (chunk s j).size = 64 := by unfold chunk; rw [ByteArray.size_extract]; omega
theorem cutL_cat {s : ByteArray} : ∀ n, 64 * n ≤ s.size → byL (catL (cutL s n)) = (byL s).take (64 * n)
  | 0, _ => rfl
  | n + 1, h => by
    rw [cutL_succ, ← catL_snoc, byL_app, cutL_cat n (by omega)]
    unfold chunk
    rw [byL_take, List.drop_take, show 64 * n + 64 - 64 * n = 64 from by omega, ← List.take_add, show 64 * (n + 1) = 64 * n + 64 from by omega]
theorem cut_back {s : ByteArray} (h : s.size = 256) : four (cutL s 4) = true ∧ catL (cutL s 4) = s := by
  constructor
  · refine decide_eq_true ⟨cutL_len s 4, fun t ht => ?_⟩
    obtain ⟨j, hj, rfl⟩ := List.mem_map.1 ht
    exact chunk_size h (List.mem_range.1 hj)
  · apply byL_inj
    rw [cutL_cat 4 (by omega), List.take_of_length_le (by rw [byL_len]; omega)]
theorem sl39 : slT Tryd.prog 39 9 (.string ⟨#[]⟩) 1 16 := ⟨by kernel_rfl, by kernel_rfl⟩
theorem en61 : ∀ args w, (callFunc 61 args).run Tryd.prog w = .ok (.enter 61 args) w := enters_of Tryd.func61 (by kernel_rfl) rfl
theorem join_cat (l : List ByteArray) : (⟨(Lib.join (l.map (·.data.toList)) (⟨#[]⟩ : ByteArray).data.toList).toArray⟩ : ByteArray) = catL l := by
  apply byL_inj
  rw [byL_catL]
  have e : Lib.join (l.map (·.data.toList)) (⟨#[]⟩ : ByteArray).data.toList = l.flatMap (·.data.toList) := by
    show List.intercalate [] _ = _
    unfold List.intercalate
    have : ∀ l : List (List UInt8), (l.intersperse []).flatten = l.flatten := by
      intro l
      induction l with
      | nil => rfl
      | cons x l ih =>
        cases l with
        | nil => rfl
        | cons y l => rw [List.intersperse_cons_cons, List.flatten_cons, List.flatten_cons, ih]; rfl
    rw [this, List.flatMap_def]
  rw [e]
  unfold byL
  simp only [List.toList_toArray]
  rw [List.map_flatMap]
section
variable {W w w' : World} {Q : Value → World → Prop}
theorem rdT_b {v : Value} {l : List ByteArray} (hb : Below w.heap.size w w') (h : rdT w v l) : rdT w' v l := by
  rcases h with h | ⟨a, c, rfl, hc, h⟩
  · exact .inl h
  · exact .inr ⟨a, c, rfl, hc, fun i hi => cell_below hb (h i hi)⟩
theorem rdT_own {B : Nat} {e : TypeId} {v : Value} {l : List ByteArray} (h : ownV B e w v (l.map .string)) : rdT w v l := by
  rcases ownV_cases h with ⟨rfl, h0⟩ | ⟨g, cap, cur, rfl, hg, hb, hn, hm, hs, ht⟩
  · exact .inl ⟨rfl, by simpa using h0⟩
  · rw [List.length_map] at hn ht ⊢
    refine .inr ⟨_, cap, rfl, hn, fun i hi => ?_⟩
    rw [add_lit, Nat.zero_add, cell_of_blk hb]
    have : (cur.toList.take l.length)[i]? = (l.map Value.string)[i]? := by rw [ht]
    rw [List.getElem?_take_of_lt hi, List.getElem?_map, List.getElem?_eq_getElem hi] at this
    simpa using this
theorem lnl_T {W w1 : World} {v : Value} {l : List ByteArray} (h : rdT W v l) : ∀ (K : Value → M) (Q : Value → World → Prop), lnl v K w1 Q = K (.int .i64 (l.length : Nat)) w1 Q := by
  intro K Q
  rcases h with ⟨rfl, rfl⟩ | ⟨a, c, rfl, _, _⟩ <;> rw [lnl_e] <;> rfl
theorem ld_t {v : Value} {l : List ByteArray} {i : Nat} (h : rdT W v l) (hi : i < l.length) : ∃ a : Addr, (∀ w, Below W.heap.size W w → w.cell? a = some (.string l[i])) ∧ ∀ (K : Value → M) (w : World) (Q : Value → World → Prop), ia 1 v (.int .i64 (i : Int)) K w Q = K (.pointer (some a)) w Q := by
  rcases h with ⟨rfl, rfl⟩ | ⟨a, c, rfl, _, h⟩
  · simp at hi
  · refine ⟨a.add i, fun w hb => cell_below hb (h i hi), fun K w Q => ?_⟩
    rw [ia_e, Int.toNat_natCast, Nat.mul_one]
    exact propext ⟨fun h => h.2.2, fun h => ⟨by omega, by omega, h⟩⟩
/-- one text more -/
theorem ap_T {v : Value} {l : List ByteArray} {s : ByteArray} {K : Value → M} (h : ownV W.heap.size 9 w v (l.map .string)) (hb : Below W.heap.size W w) (hl : l.length ≤ 1000000) (kk : ∀ w' u, ownV W.heap.size 9 w' u ((l ++ [s]).map .string) → Below W.heap.size W w' → K u w' Q) :
    sm Tryd.prog (Instr.buildSlice 39 1 #[(0, .string s)]) (fun t => sm Tryd.prog (Builtin.append_ #[39, 39] 39 #[v, t]) K) w Q := by
  refine ap_V (x := .string s) sl39 rfl rfl rfl h (by rw [List.length_map]; unfold maxLen; omega) (by rw [List.length_map]; omega) hb.size fun v' w' ho' hf hsz hos hown => ?_
  refine kk w' v' (by rw [List.map_append]; exact ho') ⟨hos.1.trans hb.os, hos.2.1.trans hb.tape, hos.2.2.trans hb.output, Nat.le_trans hb.size hsz, fun k hk => ?_⟩
  rw [hf k (Nat.lt_of_lt_of_le hk hb.size) (fun e => by have := (ownV_lt h k e).1; omega)]
  exact hb.block k hk
theorem byL_ext (s : ByteArray) (k : Nat) : byL (s.extract k s.size) = (byL s).drop k := by rw [byL_take, List.take_of_length_le (by rw [byL_len]; exact Nat.le_refl _)]
theorem cut_loop {s : ByteArray} (hs : s.size = 256) {j1 : Value → M} : ∀ (d m i : Nat) (w : World) (u : Value), i + d = 4 → d < m → Below W.heap.size W w → ownV W.heap.size 9 w u ((cutL s i).map .string) →
    (∀ w' u', Below W.heap.size W w' → ownV W.heap.size 9 w' u' ((cutL s 4).map .string) → j1 u' w' Q) →
    itr (fun _ _ => bot) (f23_b2 j1) m (.string (s.extract (64 * i) s.size)) u w Q := by
  intro d
  induction d with
  | zero =>
    intro m i w u hi hm hb ho kk
    obtain ⟨m, rfl⟩ : ∃ x, m = x + 1 := ⟨m - 1, by omega⟩
    show f23_b2 j1 _ _ _ w Q
    unfold f23_b2
    have hi4 : i = 4 := by omega
    subst hi4
    have e : s.extract (64 * 4) s.size = ⟨#[]⟩ := by
      apply byL_inj
      rw [byL_take, List.drop_of_length_le (by rw [List.length_take, byL_len]; omega)]; rfl
    rw [e]
    try simp only [↓reduceIte, ↓LL, LM, Value.cells, Nat.reduceAdd, Option.some.injEq, exists_eq_left', decide_true, decide_false, if_true, if_false, reduceCtorEq, cond_true, cond_false, ne_eq]
    exact kk w u hb ho
  | succ d ih =>
    intro m i w u hi hm hb ho kk
    obtain ⟨m, rfl⟩ : ∃ x, m = x + 1 := ⟨m - 1, by omega⟩
    show f23_b2 j1 _ _ _ w Q
    unfold f23_b2
    have hsz : (s.extract (64 * i) s.size).size = 256 - 64 * i := by rw [ByteArray.size_extract]; omega
    have hne : ¬ s.extract (64 * i) s.size = ⟨#[]⟩ := fun e => by rw [e] at hsz; have h0 : (⟨#[]⟩ : ByteArray).size = 0 := rfl; omega
    have e1 : (s.extract (64 * i) s.size).extract 0 64 = chunk s i := by
      apply byL_inj
      unfold chunk
      rw [byL_take, byL_ext, byL_take, List.drop_zero, List.drop_take, show 64 * i + 64 - 64 * i = 64 from by omega]
    have e2 : (s.extract (64 * i) s.size).extract 64 (s.extract (64 * i) s.size).size = s.extract (64 * (i + 1)) s.size := by
      apply byL_inj
      rw [byL_ext, byL_ext, byL_ext, List.drop_drop]
      congr 1
    try simp only [↓reduceIte, ↓LL, LM, Value.cells, Nat.reduceAdd, Option.some.injEq, exists_eq_left', decide_true, decide_false, if_true, if_false, reduceCtorEq, cond_true, cond_false, ne_eq, hne]
    refine sls_to (k := 64) (by omega) ?_
    rw [e1]
    refine ap_T ho hb (by rw [cutL_len]; omega) fun w1 u1 o1 b1 => ?_
    rw [← cutL_succ] at o1
    try simp only [↓reduceIte, ↓LL, LM, Value.cells, Nat.reduceAdd, Option.some.injEq, exists_eq_left', decide_true, decide_false, if_true, if_false, reduceCtorEq, cond_true, cond_false]
    refine sls_from (k := 64) (by omega) ?_
    rw [e2]
    exact ih m (i + 1) w1 u1 (by omega) (by omega) b1 o1 kk
theorem f23_s {s : ByteArray} (k1 : s.size ≠ 256 → Q (.tuple #[.slice none 0 0, .int .i64 1]) w) (k0 : s.size = 256 → ∀ w' u, Below w.heap.size w w' → ownV w.heap.size 9 w' u ((cutL s 4).map .string) → Q (.tuple #[u, .int .i64 0]) w') : f23 (.string s) w Q := by
  unfold f23
  by_cases h : s.size = 256
  · have h' : ((s.size : Nat) : Int) = 256 := by omega
    have e0 : s.extract (64 * 0) s.size = s := by apply byL_inj; rw [byL_take, List.take_of_length_le (by rw [byL_len]; exact Nat.le_refl _)]; rfl
    try simp only [↓reduceIte, ↓LL, LM, Value.cells, Nat.reduceAdd, Option.some.injEq, exists_eq_left', decide_true, decide_false, if_true, if_false, reduceCtorEq, cond_true, cond_false, ne_eq, h']
    have := cut_loop (W := w) (Q := Q) h (j1 := f23_j1) 4 5 0 w (.slice none 0 0) (by omega) (by omega) (Below.refl _ _) ownV_nil fun w1 u1 b1 o1 => ?_
    · rw [e0] at this
      exact ⟨_, this⟩
    · unfold f23_j1
      try simp only [↓reduceIte, ↓LL, LM, Value.cells, Nat.reduceAdd, Option.some.injEq, exists_eq_left', decide_true, decide_false, if_true, if_false, reduceCtorEq, cond_true, cond_false]
      exact k0 h w1 u1 b1 o1
  · have h' : ¬ ((s.size : Nat) : Int) = 256 := by omega
    try simp only [↓reduceIte, ↓LL, LM, Value.cells, Nat.reduceAdd, Option.some.injEq, exists_eq_left', decide_true, decide_false, if_true, if_false, reduceCtorEq, cond_true, cond_false, ne_eq, h']
    exact k1 h
theorem cut5_loop {s : ByteArray} (hs : s.size = 256) {j1 : Value → M} : ∀ (d m i : Nat) (w : World) (u : Value), i + d = 4 → d < m → Below W.heap.size W w → ownV W.heap.size 9 w u ((cutL s i).map .string) →
    (∀ w' u', Below W.heap.size W w' → ownV W.heap.size 9 w' u' ((cutL s 4).map .string) → j1 u' w' Q) →
    itr (fun _ _ _ => bot) (f24_b2 j1) m (.string s) u (.int .i64 ((64 * i : Nat) : Int)) w Q := by
  intro d
  induction d with
  | zero =>
    intro m i w u hi hm hb ho kk
    obtain ⟨m, rfl⟩ : ∃ x, m = x + 1 := ⟨m - 1, by omega⟩
    show f24_b2 j1 _ _ _ _ w Q
    unfold f24_b2
    have hi4 : i = 4 := by omega
    subst hi4
    have cc : ¬ ((64 * 4 : Nat) : Int) < 256 := by decide
    try simp only [↓reduceIte, ↓LL, LM, Value.cells, Nat.reduceAdd, Option.some.injEq, exists_eq_left', decide_true, decide_false, if_true, if_false, reduceCtorEq, cond_true, cond_false, cc]
    exact kk w u hb ho
  | succ d ih =>
    intro m i w u hi hm hb ho kk
    obtain ⟨m, rfl⟩ : ∃ x, m = x + 1 := ⟨m - 1, by omega⟩
    show f24_b2 j1 _ _ _ _ w Q
    unfold f24_b2
    have cc : ((64 * i : Nat) : Int) < 256 := by omega
    have e1 : IntKind.i64.wrap (((64 * i : Nat) : Int) + 64) = ((64 * i + 64 : Nat) : Int) := by rw [w64 (by omega) (by omega)]; omega
    try simp only [↓reduceIte, ↓LL, LM, Value.cells, Nat.reduceAdd, Option.some.injEq, exists_eq_left', decide_true, decide_false, if_true, if_false, reduceCtorEq, cond_true, cond_false, cc, e1]
    refine sls_in (k := 64 * i) (l := 64 * i + 64) (by omega) (by omega) ?_
    refine ap_T ho hb (by rw [cutL_len]; omega) fun w1 u1 o1 b1 => ?_
    have o1 : ownV W.heap.size 9 w1 u1 ((cutL s (i + 1)).map .string) := by rw [cutL_succ]; exact o1
    try simp only [↓reduceIte, ↓LL, LM, Value.cells, Nat.reduceAdd, Option.some.injEq, exists_eq_left', decide_true, decide_false, if_true, if_false, reduceCtorEq, cond_true, cond_false, e1]
    rw [show 64 * i + 64 = 64 * (i + 1) from by omega]
    exact ih m (i + 1) w1 u1 (by omega) (by omega) b1 o1 kk
theorem f24_s {s : ByteArray} (k1 : s.size ≠ 256 → Q (.tuple #[.slice none 0 0, .int .i64 1]) w) (k0 : s.size = 256 → ∀ w' u, Below w.heap.size w w' → ownV w.heap.size 9 w' u ((cutL s 4).map .string) → Q (.tuple #[u, .int .i64 0]) w') : f24 (.string s) w Q := by
  unfold f24
  by_cases h : s.size = 256
  · have h' : ((s.size : Nat) : Int) = 256 := by omega
    try simp only [↓reduceIte, ↓LL, LM, Value.cells, Nat.reduceAdd, Option.some.injEq, exists_eq_left', decide_true, decide_false, if_true, if_false, reduceCtorEq, cond_true, cond_false, ne_eq, h']
    refine ⟨_, cut5_loop (W := w) (Q := Q) h (j1 := f24_j1) 4 5 0 w (.slice none 0 0) (by omega) (by omega) (Below.refl _ _) ownV_nil fun w1 u1 b1 o1 => ?_⟩
    unfold f24_j1
    try simp only [↓reduceIte, ↓LL, LM, Value.cells, Nat.reduceAdd, Option.some.injEq, exists_eq_left', decide_true, decide_false, if_true, if_false, reduceCtorEq, cond_true, cond_false]
    exact k0 h w1 u1 b1 o1
  · have h' : ¬ ((s.size : Nat) : Int) = 256 := by omega
    try simp only [↓reduceIte, ↓LL, LM, Value.cells, Nat.reduceAdd, Option.some.injEq, exists_eq_left', decide_true, decide_false, if_true, if_false, reduceCtorEq, cond_true, cond_false, ne_eq, h']
    exact k1 h
end
end Go.Proofs.YtongpnolikkknaaDoor

set_option maxRecDepth 20000
set_option maxHeartbeats 4000000
namespace Go.Proofs.YtongpnolikkknaaDoor
open Sh RowKit Go.MapKept
theorem joinB_ok {l : List ByteArray} (h4 : l.length = 4) (c : ∀ s ∈ l, s.size = 64) : joinB l = (catL l, 0) := by
  unfold joinB; rw [if_pos (show four l = true from decide_eq_true ⟨h4, c⟩)]
theorem joinB_bad {l : List ByteArray} (c : ¬ (l.length = 4 ∧ ∀ s ∈ l, s.size = 64)) : joinB l = (⟨#[]⟩, 1) := by
  unfold joinB; rw [if_neg (fun e : four l = true => c (of_decide_eq_true e))]
section
variable {W w w' : World} {Q : Value → World → Prop}
theorem idx_loop {v : Value} {l : List ByteArray} (h : rdT W v l) (hl : l.length ≤ 140737488355328) : ∀ (d m i : Nat) (w : World), i + d = l.length → d < m → Below W.heap.size W w → (∀ s ∈ l.take i, s.size = 64) →
    (∀ w' (r : Int), Below W.heap.size W w' → (0 ≤ r ↔ ¬ ∀ s ∈ l, s.size = 64) → Q (.int .i64 r) w') →
    itr (fun _ _ _ _ => bot) (f89_b2 f89_j1) m v (.func (.func 61) #[] #[]) (.int .i64 (l.length : Nat)) (.int .i64 (i : Int)) w Q := by
  intro d
  induction d with
  | zero =>
    intro m i w hi hm hb he kk
    obtain ⟨m, rfl⟩ : ∃ x, m = x + 1 := ⟨m - 1, by omega⟩
    show f89_b2 f89_j1 _ _ _ _ _ w Q
    unfold f89_b2
    have c : ¬ (i : Int) < (l.length : Nat) := by omega
    try simp only [↓reduceIte, ↓LL, LM, Value.cells, Nat.reduceAdd, Option.some.injEq, exists_eq_left', decide_true, decide_false, if_true, if_false, reduceCtorEq, cond_true, cond_false, c]
    unfold f89_j1
    try simp only [↓reduceIte, ↓LL, LM, Value.cells, Nat.reduceAdd, Option.some.injEq, exists_eq_left', decide_true, decide_false, if_true, if_false, reduceCtorEq, cond_true, cond_false]
    rw [List.take_of_length_le (by omega)] at he
    exact kk w (-1) hb ⟨fun h => by omega, fun h => absurd he h⟩
  | succ d ih =>
    intro m i w hi hm hb he kk
    obtain ⟨m, rfl⟩ : ∃ x, m = x + 1 := ⟨m - 1, by omega⟩
    show f89_b2 f89_j1 _ _ _ _ _ w Q
    unfold f89_b2
    have c : (i : Int) < (l.length : Nat) := by omega
    have hil : i < l.length := by omega
    obtain ⟨ax, cx, hax⟩ := ld_t h hil
    have qx := cx _ hb
    have h3 : IntKind.i64.wrap ((i : Int) + 1) = ((i + 1 : Nat) : Int) := by rw [w64 (by omega) (by omega)]; rfl
    try simp only [↓reduceIte, ↓LL, LM, Value.cells, Nat.reduceAdd, Option.some.injEq, exists_eq_left', decide_true, decide_false, if_true, if_false, reduceCtorEq, cond_true, cond_false, c, hax, qx]
    refine cf_p en61 ?_
    refine s61 (.string l[i]) w _ ?_
    unfold f61
    by_cases hv : l[i].size = 64
    · have hv' : ((l[i].size : Nat) : Int) = 64 := by omega
      try simp only [↓reduceIte, ↓LL, LM, Value.cells, Nat.reduceAdd, Option.some.injEq, exists_eq_left', decide_true, decide_false, if_true, if_false, reduceCtorEq, cond_true, cond_false, ne_eq, hv', h3]
      refine ih m (i + 1) w (by omega) (by omega) hb ?_ kk
      rw [List.take_succ_eq_append_getElem hil]
      intro s hs
      rcases List.mem_append.1 hs with hs | hs
      · exact he s hs
      · rw [List.mem_singleton.1 hs]; exact hv
    · have hv' : ¬ ((l[i].size : Nat) : Int) = 64 := by omega
      try simp only [↓reduceIte, ↓LL, LM, Value.cells, Nat.reduceAdd, Option.some.injEq, exists_eq_left', decide_true, decide_false, if_true, if_false, reduceCtorEq, cond_true, cond_false, ne_eq, hv']
      exact kk w _ hb ⟨fun _ hh => hv (hh _ (List.getElem_mem hil)), fun _ => by omega⟩
theorem cfn_s {v : Value} {l : List ByteArray} (h : rdT w v l) (hl : l.length ≤ 140737488355328) (kk : ∀ w', Below w.heap.size w w' → Q (.bool (decide (¬ ∀ s ∈ l, s.size = 64))) w') : f60 v (.func (.func 61) #[] #[]) w Q := by
  unfold f60
  try simp only [↓reduceIte, ↓LL, LM, Value.cells, Nat.reduceAdd, Option.some.injEq, exists_eq_left', decide_true, decide_false, if_true, if_false, reduceCtorEq, cond_true, cond_false]
  unfold f89
  rw [lnl_T h]
  try simp only [↓reduceIte, ↓LL, LM, Value.cells, Nat.reduceAdd, Option.some.injEq, exists_eq_left', decide_true, decide_false, if_true, if_false, reduceCtorEq, cond_true, cond_false]
  refine ⟨_, idx_loop (W := w) h hl l.length (l.length + 1) 0 w (by omega) (by omega) (Below.refl _ _) (by simp) fun w1 r b1 hr => ?_⟩
  by_cases c : ∀ s ∈ l, s.size = 64
  · have : ¬ 0 ≤ r := fun e => hr.1 e c
    have e : decide (¬ ∀ s ∈ l, s.size = 64) = false := decide_eq_false fun h => h c
    have := kk w1 b1
    rw [e] at this
    have c' : ¬ r ≥ 0 := by omega
    try simp only [↓reduceIte, ↓LL, LM, Value.cells, Nat.reduceAdd, Option.some.injEq, exists_eq_left', decide_true, decide_false, if_true, if_false, reduceCtorEq, cond_true, cond_false, c', ‹¬ 0 ≤ r›]
    exact this
  · have h0 : 0 ≤ r := hr.2 c
    have e : decide (¬ ∀ s ∈ l, s.size = 64) = true := decide_eq_true c
    have := kk w1 b1
    rw [e] at this
    have c' : r ≥ 0 := h0
    try simp only [↓reduceIte, ↓LL, LM, Value.cells, Nat.reduceAdd, Option.some.injEq, exists_eq_left', decide_true, decide_false, if_true, if_false, reduceCtorEq, cond_true, cond_false, c', h0]
    exact this
theorem join_s {v : Value} {l : List ByteArray} {K : Value → M} (h : rdT w v l) (h4 : l.length = 4) (h64 : ∀ s ∈ l, s.size = 64) (kk : ∀ w', Below w.heap.size w w' → K (.string (catL l)) w' Q) : cc Tryd.prog 62 #[v, .string ⟨#[]⟩] K w Q := by
  rcases h with ⟨rfl, rfl⟩ | ⟨a, c, rfl, hc, h⟩
  · simp at h4
  · have h0 := h 0 (by omega)
    obtain ⟨b, o, sp⟩ := a
    have hs : sp = none := by
      cases sp with
      | none => rfl
      | some x =>
        exfalso
        unfold World.cell? at h0
        split at h0
        · split at h0
          · cases h0
          · rename_i hn; simp [Addr.add] at hn
        · cases h0
    subst hs
    have hbk : b < w.heap.size := by have := cell_lt h0; simpa [add_lit] using this
    refine cc_of (Tryd.strings_Join b o c l ⟨#[]⟩ w (fun j x hx => ?_) hbk (by omega) hc ?_) fun e w' he => ?_
    · obtain ⟨hj, e⟩ := List.getElem?_eq_some_iff.1 hx
      have := h j hj
      rw [add_lit, e] at this
      exact this
    · have := congrArg ByteArray.size (join_cat l)
      rw [catL_64 h64] at this
      have e : ∀ x : List UInt8, (⟨x.toArray⟩ : ByteArray).size = x.length := fun x => rfl
      rw [e] at this
      omega
    · obtain ⟨h1, h2⟩ := he
      exact ⟨_, h1, by rw [join_cat]; exact kk w' h2⟩
theorem f25_s {v : Value} {l : List ByteArray} (h : rdT w v l) (hl : l.length ≤ 140737488355328) (kk : ∀ w', Below w.heap.size w w' → Q (.tuple #[.string (joinB l).1, .int .i64 (joinB l).2]) w') : f25 v w Q := by
  unfold f25
  rw [lnl_T h]
  by_cases h4 : l.length = 4
  · have h4' : ((l.length : Nat) : Int) = 4 := by omega
    try simp only [↓reduceIte, ↓LL, LM, Value.cells, Nat.reduceAdd, Option.some.injEq, exists_eq_left', decide_true, decide_false, if_true, if_false, reduceCtorEq, cond_true, cond_false, ne_eq, h4']
    refine cfn_s h hl fun w1 b1 => ?_
    by_cases c : ∀ s ∈ l, s.size = 64
    · have e : decide (¬ ∀ s ∈ l, s.size = 64) = false := decide_eq_false fun h => h c
      rw [e]
      try simp only [↓reduceIte, ↓LL, LM, Value.cells, Nat.reduceAdd, Option.some.injEq, exists_eq_left', decide_true, decide_false, if_true, if_false, reduceCtorEq, cond_true, cond_false]
      refine join_s (rdT_b b1 h) h4 c fun w2 b2 => ?_
      have := kk w2 (bt b1 b2)
      rw [joinB_ok h4 c] at this
      try simp only [↓reduceIte, ↓LL, LM, Value.cells, Nat.reduceAdd, Option.some.injEq, exists_eq_left', decide_true, decide_false, if_true, if_false, reduceCtorEq, cond_true, cond_false]
      exact this
    · have e : decide (¬ ∀ s ∈ l, s.size = 64) = true := decide_eq_true c
      rw [e]
      try simp only [↓reduceIte, ↓LL, LM, Value.cells, Nat.reduceAdd, Option.some.injEq, exists_eq_left', decide_true, decide_false, if_true, if_false, reduceCtorEq, cond_true, cond_false]
      have := kk w1 b1
      rw [joinB_bad fun e => c e.2] at this
      exact this
  · have h4' : ¬ ((l.length : Nat) : Int) = 4 := by omega
    try simp only [↓reduceIte, ↓LL, LM, Value.cells, Nat.reduceAdd, Option.some.injEq, exists_eq_left', decide_true, decide_false, if_true, if_false, reduceCtorEq, cond_true, cond_false, ne_eq, h4']
    have := kk w (Below.refl _ _)
    rw [joinB_bad fun e => h4 e.1] at this
    exact this
theorem joinR_loop {v : Value} {l : List ByteArray} (h : rdT W v l) (h4 : l.length = 4) : ∀ (d m i : Nat) (w : World), i + d = l.length → d < m → Below W.heap.size W w → (∀ s ∈ l.take i, s.size = 64) →
    (∀ w', Below W.heap.size W w' → Q (.tuple #[.string (joinB l).1, .int .i64 (joinB l).2]) w') →
    itr (fun _ _ _ => bot) (f26_b2 f26_j1) m v (.string (catL (l.take i))) (.int .i64 (i : Int)) w Q := by
  intro d
  induction d with
  | zero =>
    intro m i w hi hm hb he kk
    obtain ⟨m, rfl⟩ : ∃ x, m = x + 1 := ⟨m - 1, by omega⟩
    show f26_b2 f26_j1 _ _ _ _ w Q
    unfold f26_b2
    rw [lnl_T h]
    have c : ¬ (i : Int) < (l.length : Nat) := by omega
    try simp only [↓reduceIte, ↓LL, LM, Value.cells, Nat.reduceAdd, Option.some.injEq, exists_eq_left', decide_true, decide_false, if_true, if_false, reduceCtorEq, cond_true, cond_false, c]
    unfold f26_j1
    try simp only [↓reduceIte, ↓LL, LM, Value.cells, Nat.reduceAdd, Option.some.injEq, exists_eq_left', decide_true, decide_false, if_true, if_false, reduceCtorEq, cond_true, cond_false]
    rw [List.take_of_length_le (by omega)] at he ⊢
    have := kk w hb
    rw [joinB_ok h4 he] at this
    exact this
  | succ d ih =>
    intro m i w hi hm hb he kk
    obtain ⟨m, rfl⟩ : ∃ x, m = x + 1 := ⟨m - 1, by omega⟩
    show f26_b2 f26_j1 _ _ _ _ w Q
    unfold f26_b2
    rw [lnl_T h]
    have c : (i : Int) < (l.length : Nat) := by omega
    have hil : i < l.length := by omega
    obtain ⟨ax, cx, hax⟩ := ld_t h hil
    have qx := cx _ hb
    have h3 : IntKind.i64.wrap ((i : Int) + 1) = ((i + 1 : Nat) : Int) := by rw [w64 (by omega) (by omega)]; rfl
    by_cases hv : l[i].size = 64
    · have hv' : ((l[i].size : Nat) : Int) = 64 := by omega
      have e2 : l.take (i + 1) = l.take i ++ [l[i]] := List.take_succ_eq_append_getElem hil
      have hz : (catL (l.take i)).size ≤ 1000 := by rw [catL_64 he, List.length_take]; omega
      try simp only [↓reduceIte, ↓LL, LM, Value.cells, Nat.reduceAdd, Option.some.injEq, exists_eq_left', decide_true, decide_false, if_true, if_false, reduceCtorEq, cond_true, cond_false, c, hax, qx, ne_eq, hv']
      rw [cat_e]
      refine ⟨by omega, ?_⟩
      rw [catL_snoc, ← e2]
      try simp only [↓reduceIte, ↓LL, LM, Value.cells, Nat.reduceAdd, Option.some.injEq, exists_eq_left', decide_true, decide_false, if_true, if_false, reduceCtorEq, cond_true, cond_false, h3]
      refine ih m (i + 1) w (by omega) (by omega) hb ?_ kk
      rw [e2]
      intro s hs
      rcases List.mem_append.1 hs with hs | hs
      · exact he s hs
      · rw [List.mem_singleton.1 hs]; exact hv
    · have hv' : ¬ ((l[i].size : Nat) : Int) = 64 := by omega
      try simp only [↓reduceIte, ↓LL, LM, Value.cells, Nat.reduceAdd, Option.some.injEq, exists_eq_left', decide_true, decide_false, if_true, if_false, reduceCtorEq, cond_true, cond_false, c, hax, qx, ne_eq, hv']
      have := kk w hb
      rw [joinB_bad fun e => hv (e.2 _ (List.getElem_mem hil))] at this
      exact this
theorem f26_s {v : Value} {l : List ByteArray} (h : rdT w v l) (hl : l.length ≤ 140737488355328) (kk : ∀ w', Below w.heap.size w w' → Q (.tuple #[.string (joinB l).1, .int .i64 (joinB l).2]) w') : f26 v w Q := by
  unfold f26
  rw [lnl_T h]
  by_cases h4 : l.length = 4
  · have h4' : ((l.length : Nat) : Int) = 4 := by omega
    try simp only [↓reduceIte, ↓LL, LM, Value.cells, Nat.reduceAdd, Option.some.injEq, exists_eq_left', decide_true, decide_false, if_true, if_false, reduceCtorEq, cond_true, cond_false, ne_eq, h4']
    exact ⟨_, joinR_loop (W := w) h h4 l.length (l.length + 1) 0 w (by omega) (by omega) (Below.refl _ _) (by simp) kk⟩
  · have h4' : ¬ ((l.length : Nat) : Int) = 4 := by omega
    try simp only [↓reduceIte, ↓LL, LM, Value.cells, Nat.reduceAdd, Option.some.injEq, exists_eq_left', decide_true, decide_false, if_true, if_false, reduceCtorEq, cond_true, cond_false, ne_eq, h4']
    have := kk w (Below.refl _ _)
    rw [joinB_bad fun e => h4 e.1] at this
    exact this
theorem sameT_loop {x y : Value} {l : List ByteArray} (hx : rdT W x l) (hy : rdT W y l) (hl : l.length ≤ 140737488355328) : ∀ (d m i : Nat) (w : World), i + d = l.length → d < m → Below W.heap.size W w →
    (∀ w', Below W.heap.size W w' → Q (.bool true) w') →
    itr (fun _ _ _ => bot) (f27_b2 f27_j1) m x y (.int .i64 (i : Int)) w Q := by
  intro d
  induction d with
  | zero =>
    intro m i w hi hm hb kk
    obtain ⟨m, rfl⟩ : ∃ x, m = x + 1 := ⟨m - 1, by omega⟩
    show f27_b2 f27_j1 _ _ _ _ w Q
    unfold f27_b2
    rw [lnl_T hx]
    have c : ¬ (i : Int) < (l.length : Nat) := by omega
    try simp only [↓reduceIte, ↓LL, LM, Value.cells, Nat.reduceAdd, Option.some.injEq, exists_eq_left', decide_true, decide_false, if_true, if_false, reduceCtorEq, cond_true, cond_false, c]
    unfold f27_j1
    try simp only [↓reduceIte, ↓LL, LM, Value.cells, Nat.reduceAdd, Option.some.injEq, exists_eq_left', decide_true, decide_false, if_true, if_false, reduceCtorEq, cond_true, cond_false]
    exact kk w hb
  | succ d ih =>
    intro m i w hi hm hb kk
    obtain ⟨m, rfl⟩ : ∃ x, m = x + 1 := ⟨m - 1, by omega⟩
    show f27_b2 f27_j1 _ _ _ _ w Q
    unfold f27_b2
    rw [lnl_T hx]
    have c : (i : Int) < (l.length : Nat) := by omega
    have hil : i < l.length := by omega
    have bd : Below W.heap.size W (drw w) := hb.trans ⟨rfl, rfl, rfl, Nat.le_refl _, fun _ _ => rfl⟩
    obtain ⟨ax, cx, hax⟩ := ld_t hx hil
    obtain ⟨ay, cy, hay⟩ := ld_t hy hil
    have qx := cx _ bd
    have qy := cy _ bd
    have h3 : IntKind.i64.wrap ((i : Int) + 1) = ((i + 1 : Nat) : Int) := by rw [w64 (by omega) (by omega)]; rfl
    try simp only [↓reduceIte, ↓LL, LM, Value.cells, Nat.reduceAdd, Option.some.injEq, exists_eq_left', decide_true, decide_false, if_true, if_false, reduceCtorEq, cond_true, cond_false, c, hax, hay, qx, qy, ne_eq, h3]
    exact ih m (i + 1) (drw w) (by omega) (by omega) bd kk
theorem sameT_s {x y : Value} {l : List ByteArray} (hx : rdT w x l) (hy : rdT w y l) (hl : l.length ≤ 140737488355328) (kk : ∀ w', Below w.heap.size w w' → Q (.bool true) w') : f27 x y w Q := by
  unfold f27
  rw [lnl_T hx]
  try simp only [↓reduceIte, ↓LL, LM, Value.cells, Nat.reduceAdd, Option.some.injEq, exists_eq_left', decide_true, decide_false, if_true, if_false, reduceCtorEq, cond_true, cond_false]
  rw [lnl_T hy]
  try simp only [↓reduceIte, ↓LL, LM, Value.cells, Nat.reduceAdd, Option.some.injEq, exists_eq_left', decide_true, decide_false, if_true, if_false, reduceCtorEq, cond_true, cond_false, ne_eq]
  exact ⟨_, sameT_loop (W := w) hx hy hl l.length (l.length + 1) 0 w (by omega) (by omega) (Below.refl _ _) kk⟩
theorem rdT_nil : rdT w (.slice none 0 0) [] := .inl ⟨rfl, rfl⟩
/-- UndoCut -/
theorem f7_s {v : Value} {l : List ByteArray} {s : ByteArray} (h : rdT w v l) (hl : l.length ≤ 140737488355328) (kk : ∀ w', Below w.heap.size w w' → Q (.bool true) w') : f7 (.string s) v w Q := by
  unfold f7
  try simp only [↓reduceIte, ↓LL, LM, Value.cells, Nat.reduceAdd, Option.some.injEq, exists_eq_left', decide_true, decide_false, if_true, if_false, reduceCtorEq, cond_true, cond_false]
  refine f12_s fun w1 b1 => ?_
  try simp only [↓reduceIte, ↓LL, LM, Value.cells, Nat.reduceAdd, Option.some.injEq, exists_eq_left', decide_true, decide_false, if_true, if_false, reduceCtorEq, cond_true, cond_false]
  refine f23_s (fun hs => ?_) (fun hs w2 u b2 o2 => ?_)
  · try simp only [↓reduceIte, ↓LL, LM, Value.cells, Nat.reduceAdd, Option.some.injEq, exists_eq_left', decide_true, decide_false, if_true, if_false, reduceCtorEq, cond_true, cond_false, get0, get1]
    refine f24_s (fun _ => ?_) (fun h => absurd h hs)
    try simp only [↓reduceIte, ↓LL, LM, Value.cells, Nat.reduceAdd, Option.some.injEq, exists_eq_left', decide_true, decide_false, if_true, if_false, reduceCtorEq, cond_true, cond_false, get0, get1]
    refine f25_s (rdT_b b1 h) hl fun w4 b4 => ?_
    have b04 := bt b1 b4
    try simp only [↓reduceIte, ↓LL, LM, Value.cells, Nat.reduceAdd, Option.some.injEq, exists_eq_left', decide_true, decide_false, if_true, if_false, reduceCtorEq, cond_true, cond_false, get0, get1]
    refine f26_s (rdT_b b04 h) hl fun w5 b5 => ?_
    have b05 := bt b04 b5
    try simp only [↓reduceIte, ↓LL, LM, Value.cells, Nat.reduceAdd, Option.some.injEq, exists_eq_left', decide_true, decide_false, if_true, if_false, reduceCtorEq, cond_true, cond_false, get0, get1]
    refine f25_s rdT_nil (by decide) fun w6 b6 => ?_
    have b06 := bt b05 b6
    try simp only [↓reduceIte, ↓LL, LM, Value.cells, Nat.reduceAdd, Option.some.injEq, exists_eq_left', decide_true, decide_false, if_true, if_false, reduceCtorEq, cond_true, cond_false, get0, get1]
    refine sameT_s rdT_nil rdT_nil (by decide) fun w7 b7 => ?_
    have z : ¬ (1 : Int) = 0 := by decide
    try simp only [↓reduceIte, ↓LL, LM, Value.cells, Nat.reduceAdd, Option.some.injEq, exists_eq_left', decide_true, decide_false, if_true, if_false, reduceCtorEq, cond_true, cond_false, get0, get1, ne_eq, z]
    exact kk w7 (bt b06 b7)
  · have b02 := bt b1 b2
    try simp only [↓reduceIte, ↓LL, LM, Value.cells, Nat.reduceAdd, Option.some.injEq, exists_eq_left', decide_true, decide_false, if_true, if_false, reduceCtorEq, cond_true, cond_false, get0, get1]
    refine f24_s (fun h => absurd hs h) (fun _ w3 u3 b3 o3 => ?_)
    have b03 := bt b02 b3
    have r2 := rdT_b b3 (rdT_own o2)
    have r3 := rdT_own o3
    try simp only [↓reduceIte, ↓LL, LM, Value.cells, Nat.reduceAdd, Option.some.injEq, exists_eq_left', decide_true, decide_false, if_true, if_false, reduceCtorEq, cond_true, cond_false, get0, get1]
    refine f25_s (rdT_b b03 h) hl fun w4 b4 => ?_
    have b04 := bt b03 b4
    try simp only [↓reduceIte, ↓LL, LM, Value.cells, Nat.reduceAdd, Option.some.injEq, exists_eq_left', decide_true, decide_false, if_true, if_false, reduceCtorEq, cond_true, cond_false, get0, get1]
    refine f26_s (rdT_b b04 h) hl fun w5 b5 => ?_
    have b35 := bt b4 b5
    have b05 := bt b03 b35
    try simp only [↓reduceIte, ↓LL, LM, Value.cells, Nat.reduceAdd, Option.some.injEq, exists_eq_left', decide_true, decide_false, if_true, if_false, reduceCtorEq, cond_true, cond_false, get0, get1]
    refine f25_s (rdT_b b35 r2) (by rw [cutL_len]; decide) fun w6 b6 => ?_
    have b36 := bt b35 b6
    have b06 := bt b05 b6
    try simp only [↓reduceIte, ↓LL, LM, Value.cells, Nat.reduceAdd, Option.some.injEq, exists_eq_left', decide_true, decide_false, if_true, if_false, reduceCtorEq, cond_true, cond_false, get0, get1]
    refine sameT_s (rdT_b b36 r2) (rdT_b b36 r3) (by rw [cutL_len]; decide) fun w7 b7 => ?_
    have hj : joinB (cutL s 4) = (s, 0) := by unfold joinB; rw [if_pos (cut_back hs).1, (cut_back hs).2]
    try simp only [↓reduceIte, ↓LL, LM, Value.cells, Nat.reduceAdd, Option.some.injEq, exists_eq_left', decide_true, decide_false, if_true, if_false, reduceCtorEq, cond_true, cond_false, get0, get1, ne_eq, hj]
    exact kk w7 (bt b06 b7)
end
end Go.Proofs.YtongpnolikkknaaDoor

namespace Go.Proofs.YtongpnolikkknaaDoor
namespace Sh
open RowKit
theorem wf64 {a : Int} (h : (Lit.int .i64 a).wf = true) : -9223372036854775808 ≤ a ∧ a ≤ 9223372036854775807 := by
  simp [Lit.wf, IntKind.min, IntKind.max, IntKind.signed, IntKind.bits] at h
  omega
section
variable {H : Type} {enc : TypeId × Value → H} {P : Program}
theorem trodAll_below (hl : laidOutB P = true) {W W' : World} (hb : Below W.heap.size W W') : ∀ (ts : List TypeId) (vs : List Value) (ds : List (DataW H)) (ps : List MemPlace),
    (∀ t ∈ ts, P.readableRec t = true ∧ t < P.types.size) → DataW.TrodAll enc P W 0 (fun _ => true) true ts vs ds ps → (∀ x ∈ ps, x.block < W.heap.size) →
    DataW.TrodAll enc P W' 0 (fun b => decide (b < W.heap.size)) true ts vs ds ps := by
  intro ts
  induction ts with
  | nil =>
    intro vs ds ps _ h _
    match vs, ds, h with
    | [], [], h => exact h
  | cons t ts ih =>
    intro vs ds ps ht h hp
    match vs, ds, h with
    | v :: vs, d :: ds, ⟨p, q, h1, h2, h3⟩ =>
      subst h3
      exact ⟨p, q, Below.trod hl (ht t (by simp)).1 (ht t (by simp)).2 h1 hb (fun x hx => hp x (by simp [hx])), ih vs ds q (fun u hu => ht u (by simp [hu])) h2 (fun x hx => hp x (by simp [hx])), rfl⟩
theorem trodAll_len : ∀ (ts : List TypeId) (vs : List Value) (ds : List (DataW H)) (ps : List MemPlace) {W : World}, DataW.TrodAll enc P W 0 (fun _ => true) true ts vs ds ps → ds.length = ts.length := by
  intro ts
  induction ts with
  | nil => intro vs ds ps W h; match vs, ds, h with | [], [], h => rfl
  | cons t ts ih => intro vs ds ps W h; match vs, ds, h with | v :: vs, d :: ds, ⟨p, q, h1, h2, h3⟩ => simp [ih vs ds q h2]
theorem law_post {fn : Func} {s : ChangeSpec} {apart : Bool} {W W' : World} {args : Array Value} {ds gs : List (DataW H)} {before : List MemPlace} {tb : TypeId} (hv : s.vars = []) (hl : laidOutB P = true)
    (hp : ∀ t ∈ fn.params.toList, P.readableRec t = true ∧ t < P.types.size) (hr : fn.resultTypes = #[tb]) (hb : P.underlying tb = some .bool)
    (hs : ∀ ds : List (DataW H), ds.length = fn.params.toList.length → (s.fn H ds).results = [.lit (.bool true)] ∧ (s.fn H ds).args = ds ∧ (s.fn H ds).vars = [])
    (hW : DataW.Whole enc P fn.params.toList s.vars apart W args.toList ds gs before) (h : Below W.heap.size W W') :
    s.post enc P fn apart true false false W args (.bool true) W' := by
  have hW0 := hW
  obtain ⟨p, q, hA, hV, rfl, hfz, hnd⟩ := hW
  rw [hv] at hV
  have hg : gs = [] ∧ q = [] := by
    cases gs with
    | nil => exact ⟨rfl, hV⟩
    | cons g gs => exact hV.elim
  obtain ⟨rfl, rfl⟩ := hg
  obtain ⟨e1, e2, e3⟩ := hs ds (trodAll_len _ _ _ _ hA)
  refine ⟨ds, [], p ++ [], [], p, [], hW0, ?_, ?_, ?_, Below.frame h _, fun h => by cases h⟩
  · rw [hr, List.append_nil, e1]
    exact ⟨[], [], ⟨1, by simp [DataW.trod, hb, Value.cells]⟩, rfl, rfl⟩
  · rw [List.append_nil, e2]
    exact trodAll_below hl h _ _ _ _ hp hA (fun x hx => by have := hW0.lt x (by simp [hx]); simpa using this)
  · rw [List.append_nil, hv, e3]
    rfl
theorem law_lifted {C : Checked} {os : Os} {f : FuncId} {fn : Func} {s : ChangeSpec} {conds : List PathCond} {tb : TypeId}
    (own : ownKnob C.prog.godebug = none) (started : os.Started) (noInit : C.prog.inits.idxOf? f = none) (hfn : C.prog.funcs[f]? = some fn)
    (witness : ∃ (w : World) (tape : Tape) (i : Input), w.os = os ∧ (w.forCall tape i).Shaped C.prog ∧ i.vars = [] ∧ Input.okWide C.prog (w.forCall tape i) .any w.heap.size f i ∧
      s.pre6 enc C.prog fn conds false (w.forCall tape i).memory i.args ∧ ({} : Assume).holds C.prog (lone (Frame.enter C.prog f i.args .normal) [] (w.forCall tape i)))
    (hv : s.vars = []) (hl : laidOutB C.prog = true) (hp : fn.params.toList.all (fun t => C.prog.readableRec t && decide (t < C.prog.types.size)) = true) (hr : fn.resultTypes = #[tb]) (hb : C.prog.underlying tb = some .bool)
    (hs : ∀ ds : List (DataW H), ds.length = fn.params.toList.length → (s.fn H ds).results = [.lit (.bool true)] ∧ (s.fn H ds).args = ds ∧ (s.fn H ds).vars = [])
    (contract : ∀ (W : World) (base : Nat) (args : Array Value) (ds : List (DataW H)) (p : List MemPlace),
      (∀ (j : Nat) t v, fn.params[j]? = some t → args[j]? = some v → Value.okWide C.prog W .any base t v) →
      DataW.TrodAll enc C.prog W 0 (fun _ => true) true fn.params.toList args.toList ds p →
      (DataW.weightsEach C.prog fn.params.toList ds).all (· ≤ reachBytes) = true →
      Calls C.prog f args W (Rt fun v W' => v = .bool true ∧ Below W.heap.size W W')) :
    ReturnsInHanded {} C os f .any (s.pre6 enc C.prog fn conds false) (s.post enc C.prog fn false true false false) := by
  refine returnsInHanded_of_change_sized own started noInit hfn witness ?_
  intro W base args ds gs before hval hW _ hz _
  have hp' : ∀ t ∈ fn.params.toList, C.prog.readableRec t = true ∧ t < C.prog.types.size := fun t ht => by
    have := List.all_eq_true.1 hp t ht
    simpa using this
  obtain ⟨p, q, hA, hV, hq⟩ := hW
  have hW : DataW.Whole enc C.prog fn.params.toList s.vars false W args.toList ds gs before := ⟨p, q, hA, hV, hq⟩
  have hg : gs = [] := by
    rw [hv] at hV
    cases gs with
    | nil => rfl
    | cons g gs => exact hV.elim
  subst hg
  have hvt : s.plain.varTypes C.prog = [] := by
    simp [ChangeSpec.plain, DataSpec.varTypes, hv]
  rw [hvt, List.append_nil, List.append_nil] at hz
  refine (contract W base args ds p hval hA hz).mono fun e W' he => ?_
  cases e with
  | returned v =>
    obtain ⟨hv', hbel⟩ := he
    subst hv'
    exact ⟨_, rfl, law_post hv hl hp' hr hb hs hW hbel⟩
  | panicked c => exact he.elim
  | outgrown => exact he.elim
end
end Sh
end Go.Proofs.YtongpnolikkknaaDoor

namespace Go.Proofs.YtongpnolikkknaaDoor
namespace Sh
open RowKit ChangeShapes
/-- all arguments, told by R -/
def OpensA (P : Program) (ts : List TypeId) (α : Type) (R : World → List Value → α → Prop) (bulk : α → Nat) : Prop :=
  ∀ {H : Type} (enc : TypeId × Value → H) (W : World) (vs : List Value) (ds : List (DataW H)) (ps : List MemPlace) (base : Nat),
    (∀ (j : Nat) t v, ts[j]? = some t → vs[j]? = some v → Value.okWide P W .any base t v) →
    DataW.TrodAll enc P W 0 (fun _ => true) true ts vs ds ps → (DataW.weightsEach P ts ds).all (· ≤ reachBytes) = true → ∃ a, R W vs a ∧ bulk a ≤ Rows.uptoBulkAll ds
section
variable {P : Program}
theorem oa_nil : OpensA P [] Unit (fun _ vs _ => vs = []) (fun _ => 0) := by
  intro H enc W vs ds ps base hv h _
  match vs, ds, h with
  | [], [], _ => exact ⟨(), rfl, Nat.zero_le _⟩
theorem OpensA.mono {ts : List TypeId} {α β : Type} {R : World → List Value → α → Prop} {S : World → List Value → β → Prop} {b : α → Nat} {c : β → Nat} (h : OpensA P ts α R b)
    (f : ∀ W vs a, R W vs a → ∃ x, S W vs x ∧ c x ≤ b a) : OpensA P ts β S c := by
  intro H enc W vs ds ps base hv hd hw
  obtain ⟨a, h1, h2⟩ := h enc W vs ds ps base hv hd hw
  obtain ⟨y, h3, h4⟩ := f W vs a h1
  exact ⟨y, h3, Nat.le_trans h4 h2⟩
theorem okWide_base {W : World} {b : Nat} {t : TypeId} {v : Value} (h : Value.okWide P W .any b t v) : Value.okWide P W .any b t v := h
theorem oa_one {t : TypeId} {ts : List TypeId} {α β : Type} {R : RepT α} {S : World → List Value → β → Prop} {b : α → Nat} {c : β → Nat} (h : Opens P t α R b) (hs : isSc P t = true) (h1 : ∀ w cs a, R w cs a → ∃ v, cs = [v])
    (hr : OpensA P ts β S c) : OpensA P (t :: ts) (α × β) (fun w vs x => ∃ v r, vs = v :: r ∧ R w [v] x.1 ∧ S w r x.2) (fun x => b x.1 + c x.2) := by
  intro H enc W vs ds ps base hv hd hw
  match vs, ds, hd with
  | v :: vs, d :: ds, ⟨p, q, k1, k2, k3⟩ =>
    simp only [DataW.weightsEach, List.all_append, Bool.and_eq_true] at hw
    obtain ⟨a, e1, e2⟩ := open_one h hs h1 (hv 0 t v rfl rfl) k1 hw.1
    obtain ⟨a', e3, e4⟩ := hr enc W vs ds q base (fun j t v g1 g2 => hv (j + 1) t v g1 g2) k2 hw.2
    exact ⟨(a, a'), ⟨v, vs, rfl, e1, e3⟩, by simp only [Rows.uptoBulkAll]; omega⟩
theorem oa_agg {t : TypeId} {n : Nat} {ts : List TypeId} {α β : Type} {R : RepT α} {S : World → List Value → β → Prop} {b : α → Nat} {c : β → Nat} (h : Opens P t α R b) (hs : isAg P t n = true)
    (hr : OpensA P ts β S c) : OpensA P (t :: ts) (α × β) (fun w vs x => ∃ cs r, vs = .agg cs :: r ∧ R w cs.toList x.1 ∧ S w r x.2) (fun x => b x.1 + c x.2) := by
  intro H enc W vs ds ps base hv hd hw
  match vs, ds, hd with
  | v :: vs, d :: ds, ⟨p, q, k1, k2, k3⟩ =>
    simp only [DataW.weightsEach, List.all_append, Bool.and_eq_true] at hw
    obtain ⟨a, cs, rfl, e1, e2⟩ := open_agg h hs (hv 0 t v rfl rfl) k1 hw.1
    obtain ⟨a', e3, e4⟩ := hr enc W vs ds q base (fun j t v g1 g2 => hv (j + 1) t v g1 g2) k2 hw.2
    exact ⟨(a, a'), ⟨cs, vs, rfl, e1, e3⟩, by simp only [Rows.uptoBulkAll]; omega⟩
end
section
variable {H : Type} {enc : TypeId × Value → H}
theorem law_from {C : Checked} {os : Os} {f : FuncId} {fn : Func} {s : ChangeSpec} {conds : List PathCond} {tb : TypeId} {α : Type} {R : World → List Value → α → Prop} {b : α → Nat}
    (own : ownKnob C.prog.godebug = none) (started : os.Started) (noInit : C.prog.inits.idxOf? f = none) (hfn : C.prog.funcs[f]? = some fn)
    (witness : ∃ (w : World) (tape : Tape) (i : Input), w.os = os ∧ (w.forCall tape i).Shaped C.prog ∧ i.vars = [] ∧ Input.okWide C.prog (w.forCall tape i) .any w.heap.size f i ∧
      s.pre6 enc C.prog fn conds false (w.forCall tape i).memory i.args ∧ ({} : Assume).holds C.prog (lone (Frame.enter C.prog f i.args .normal) [] (w.forCall tape i)))
    (hv : s.vars = []) (hl : laidOutB C.prog = true) (hp : fn.params.toList.all (fun t => C.prog.readableRec t && decide (t < C.prog.types.size)) = true) (hr : fn.resultTypes = #[tb]) (hb : C.prog.underlying tb = some .bool)
    (hs : ∀ ds : List (DataW H), ds.length = fn.params.toList.length → (s.fn H ds).results = [.lit (.bool true)] ∧ (s.fn H ds).args = ds ∧ (s.fn H ds).vars = [])
    (oa : OpensA C.prog fn.params.toList α R b)
    (law : ∀ (W : World) (vs : List Value) (a : α), R W vs a → Calls C.prog f vs.toArray W (Rt fun v W' => v = .bool true ∧ Below W.heap.size W W')) :
    ReturnsInHanded {} C os f .any (s.pre6 enc C.prog fn conds false) (s.post enc C.prog fn false true false false) := by
  refine law_lifted own started noInit hfn witness hv hl hp hr hb hs ?_
  intro W base args ds p hval hA hz
  obtain ⟨a, h1, _⟩ := oa enc W args.toList ds p base (fun j t v h1 h2 => hval j t v (by simpa using h1) (by simpa using h2)) hA hz
  exact law W args.toList a h1
theorem law_from_upto {C : Checked} {os : Os} {f : FuncId} {fn : Func} {s : ChangeSpec} {conds : List PathCond} {tb : TypeId} {α : Type} {R : World → List Value → α → Prop} {b : α → Nat} {F : Stop.Interp}
    (own : ownKnob C.prog.godebug = none) (started : os.Started) (noInit : C.prog.inits.idxOf? f = none) (hfn : C.prog.funcs[f]? = some fn)
    (witness : ∃ (w : World) (tape : Tape) (i : Input), w.os = os ∧ (w.forCall tape i).Shaped C.prog ∧ i.vars = [] ∧ Input.okWide C.prog (w.forCall tape i) .any w.heap.size f i ∧
      (Rows.OpenSpec.upto s).pre6 enc C.prog fn conds false (w.forCall tape i).memory i.args ∧ ({} : Assume).holds C.prog (lone (Frame.enter C.prog f i.args .normal) [] (w.forCall tape i)))
    (hv : s.vars = []) (hl : laidOutB C.prog = true) (hp : fn.params.toList.all (fun t => C.prog.readableRec t && decide (t < C.prog.types.size)) = true) (hr : fn.resultTypes = #[tb]) (hb : C.prog.underlying tb = some .bool)
    (hs : ∀ ds : List (DataW H), ds.length = fn.params.toList.length → (s.fn H ds).results = [.lit (.bool true)] ∧ (s.fn H ds).args = ds ∧ (s.fn H ds).vars = [])
    (oa : OpensA C.prog fn.params.toList α R b)
    (law : ∀ (W : World) (vs : List Value) (a : α), R W vs a → b a ≤ 1048576 → Calls C.prog f vs.toArray W (Rt fun v W' => v = .bool true ∧ Below W.heap.size W W')) :
    ReturnsInHanded {} C os f .any ((Rows.OpenSpec.upto s).pre6 enc C.prog fn conds false) (((Rows.OpenSpec.upto s).at F).post enc C.prog fn false true false false) := by
  refine returnsInHanded_of_cond_sized (C := C) (s := Rows.OpenSpec.upto s) (k := Rows.uptoSmall) rfl own started noInit hfn witness ?_
  intro W base args ds gs before hval hW _ hk hz _
  have hp' : ∀ t ∈ fn.params.toList, C.prog.readableRec t = true ∧ t < C.prog.types.size := fun t ht => by
    have := List.all_eq_true.1 hp t ht
    simpa using this
  have hW0 : DataW.Whole enc C.prog fn.params.toList s.vars false W args.toList ds gs before := hW
  obtain ⟨p, q, hA, hV, hq⟩ := hW
  have hg : gs = [] := by
    have hV : DataW.TrodVars enc C.prog W (fun _ => true) s.vars gs q := hV
    rw [hv] at hV
    cases gs with
    | nil => rfl
    | cons g gs => exact hV.elim
  subst hg
  have hvt : (Rows.OpenSpec.upto s).bare.plain.varTypes C.prog = [] := by
    show s.plain.varTypes C.prog = []
    simp [ChangeSpec.plain, DataSpec.varTypes, hv]
  rw [hvt, List.append_nil, List.append_nil] at hz
  rw [List.append_nil] at hk
  obtain ⟨a, h1, h2⟩ := oa enc W args.toList ds p base (fun j t v h1 h2 => hval j t v (by simpa using h1) (by simpa using h2)) hA hz
  have hbk : Rows.uptoBulkAll ds ≤ 1048576 := of_decide_eq_true hk
  refine (law W args.toList a h1 (Nat.le_trans h2 hbk)).mono fun e W' he => ?_
  cases e with
  | returned v =>
    obtain ⟨hv', hbel⟩ := he
    subst hv'
    exact ⟨_, rfl, law_post hv hl hp' hr hb hs hW0 hbel⟩
  | panicked c => exact he.elim
  | outgrown => exact he.elim
end
end Sh
end Go.Proofs.YtongpnolikkknaaDoor

namespace Go.Proofs.YtongpnolikkknaaDoor
namespace Sh
open RowKit ChangeShapes
def litV : DataW Unit → Value
  | .lit (.int k n) => .int k n
  | _ => .string ⟨#[]⟩
def flat1 : DataW Unit → List Value
  | .agg l => l.map litV
  | d => [litV d]
def flat2 : DataW Unit → List Value
  | .agg l => l.flatMap flat1
  | d => [litV d]
def putC (cs : List Value) : Obj → Obj
  | .cells _ t fr => .cells cs.toArray t fr
  | o => o
/-- the world in which a row's listed variables read as listed -/
noncomputable def laidW (P : Program) (l : List (String × DataW Unit)) (os : Os) : World :=
  { World.holding P os ⟨#[], #[], []⟩ with heap := l.foldl (fun h x => h.modify ((P.globalNamed x.1).getD 0) (putC (flat2 x.2))) (World.holding P os ⟨#[], #[], []⟩).heap }
section
variable {H : Type} {enc : TypeId × Value → H}
theorem law_from_laid {C : Checked} {os : Os} {f : FuncId} {fn : Func} {s : ChangeSpec} {conds : List PathCond} {X : World → Array Value → Prop} {tb : TypeId} {α : Type} {R : World → List Value → α → Prop} {b : α → Nat}
    (hX : ∀ (w w' : World) (args : Array Value), w.heap = w'.heap → X w args → X w' args)
    (own : ownKnob C.prog.godebug = none) (started : os.Started) (noInit : C.prog.inits.idxOf? f = none) (hfn : C.prog.funcs[f]? = some fn)
    (witness : ∃ (w : World) (tape : Tape) (i : Input), w.os = os ∧ (w.forCall tape i).Shaped C.prog ∧ i.vars = [] ∧ Input.okWide C.prog (w.forCall tape i) .any w.heap.size f i ∧
      ((s.pre enc C.prog fn conds false (w.forCall tape i).memory i.args ∧ X (w.forCall tape i).memory i.args) ∧ sizedMet enc C.prog fn (OpenSpec.ofChange s) false (w.forCall tape i).memory i.args) ∧ ({} : Assume).holds C.prog (lone (Frame.enter C.prog f i.args .normal) [] (w.forCall tape i)))
    (hv : s.vars = []) (hl : laidOutB C.prog = true) (hp : fn.params.toList.all (fun t => C.prog.readableRec t && decide (t < C.prog.types.size)) = true) (hr : fn.resultTypes = #[tb]) (hb : C.prog.underlying tb = some .bool)
    (hs : ∀ ds : List (DataW H), ds.length = fn.params.toList.length → (s.fn H ds).results = [.lit (.bool true)] ∧ (s.fn H ds).args = ds ∧ (s.fn H ds).vars = [])
    (oa : OpensA C.prog fn.params.toList α R b)
    (law : ∀ (W : World) (vs : List Value) (a : α), R W vs a → Calls C.prog f vs.toArray W (Rt fun v W' => v = .bool true ∧ Below W.heap.size W W')) :
    ReturnsInHanded {} C os f .any (fun w args => (s.pre enc C.prog fn conds false w args ∧ X w args) ∧ sizedMet enc C.prog fn (OpenSpec.ofChange s) false w args) (s.post enc C.prog fn false true false false) := by
  refine returnsInHanded_of_change_and (C := C) hX own started noInit hfn witness ?_
  intro W base args ds gs before hval hW _ hz _ _
  have hp' : ∀ t ∈ fn.params.toList, C.prog.readableRec t = true ∧ t < C.prog.types.size := fun t ht => by
    have := List.all_eq_true.1 hp t ht
    simpa using this
  have hW0 : DataW.Whole enc C.prog fn.params.toList s.vars false W args.toList ds gs before := hW
  obtain ⟨p, q, hA, hV, hq⟩ := hW
  have hg : gs = [] := by
    have hV : DataW.TrodVars enc C.prog W (fun _ => true) s.vars gs q := hV
    rw [hv] at hV
    cases gs with
    | nil => rfl
    | cons g gs => exact hV.elim
  subst hg
  have hvt : s.plain.varTypes C.prog = [] := by simp [ChangeSpec.plain, DataSpec.varTypes, hv]
  rw [hvt, List.append_nil, List.append_nil] at hz
  obtain ⟨a, h1, h2⟩ := oa enc W args.toList ds p base (fun j t v h1 h2 => hval j t v (by simpa using h1) (by simpa using h2)) hA hz
  refine (law W args.toList a h1).mono fun e W' he => ?_
  cases e with
  | returned v =>
    obtain ⟨hv', hbel⟩ := he
    subst hv'
    exact ⟨_, rfl, law_post hv hl hp' hr hb hs hW0 hbel⟩
  | panicked c => exact he.elim
  | outgrown => exact he.elim
end
end Sh
open Sh
theorem own : ownKnob Tryd.prog.godebug = none := by kernel_rfl
set_option maxRecDepth 1000000
theorem laidW_met (os : Os) (args : Array Value) : laidMet Tryd.prog Rows.undoDirectoryRow.laid ((laidW Tryd.prog Rows.undoDirectoryRow.laid os).forCall (fun _ _ => 0) ⟨#[], args, []⟩).memory :=
  laidMet_of_run' 8 (by kernel_rfl) (by kernel_rfl)
theorem laidW_metH (os : Os) (args : Array Value) : laidMetH Tryd.prog Rows.undoDirectoryRow.laid ((laidW Tryd.prog Rows.undoDirectoryRow.laid os).forCall (fun _ _ => 0) ⟨#[], args, []⟩).memory :=
  laidMetH_of_parts (laidW_met os args) (by kernel_rfl)
theorem no_stand {P : Program} {fn : Func} (h : fn.params.toList.all (fun t => !(P.wantsStandIn t)) = true) (j : Nat) (t : TypeId) (ht : fn.params[j]? = some t) : P.wantsStandIn t = false := by
  have := List.all_eq_true.1 h t (by rw [← Array.getElem?_toList] at ht; exact List.mem_of_getElem? ht)
  simpa using this
end Go.Proofs.YtongpnolikkknaaDoor

namespace Go.Proofs.YtongpnolikkknaaDoor
open Sh RowKit Go.MapKept
theorem ui : Tryd.prog.underlying 3 = some (.int .i64) := by kernel_rfl
theorem ub : Tryd.prog.underlying 4 = some .bool := by kernel_rfl
theorem us : Tryd.prog.underlying 9 = some .string := by kernel_rfl
theorem uli : Tryd.prog.underlying 22 = some (.slice 3) := by kernel_rfl
theorem uls : Tryd.prog.underlying 39 = some (.slice 9) := by kernel_rfl
theorem scI : isSc Tryd.prog 3 = true := by kernel_rfl
theorem scB : isSc Tryd.prog 4 = true := by kernel_rfl
theorem scS : isSc Tryd.prog 9 = true := by kernel_rfl
theorem scL : isSc Tryd.prog 22 = true := by kernel_rfl
theorem scLS : isSc Tryd.prog 39 = true := by kernel_rfl
theorem one_cell {x y : Value} (h : [x] = [y]) : x = y := (List.cons.inj h).1
theorem ints_rd {w : World} {v : Value} {l : List Int} (h : rdS 1 (iR .i64) w v l) : rdI .i64 w v l ∧ ∀ x ∈ l, x ≤ 9223372036854775807 := by
  rcases h with ⟨rfl, rfl⟩ | ⟨a, c, rfl, hc, h⟩
  · exact ⟨⟨none, 0, rfl, fun i hi => by simp at hi⟩, fun x hx => by simp at hx⟩
  · refine ⟨⟨_, c, rfl, fun i hi => ⟨a, rfl, ?_⟩⟩, fun x hx => ?_⟩
    · obtain ⟨es, _, h2, h3, _⟩ := h i hi
      subst h3
      have := h2 0 _ rfl
      rw [Nat.mul_one] at this
      exact this
    · obtain ⟨i, hi, rfl⟩ := List.mem_iff_getElem.1 hx
      obtain ⟨es, _, _, _, h4⟩ := h i hi
      exact (wf64 h4).2
theorem strs_rd {w : World} {v : Value} {l : List ByteArray} (h : rdS 1 sR w v l) : rdT w v l := by
  rcases h with ⟨rfl, rfl⟩ | ⟨a, c, rfl, hc, h⟩
  · exact .inl ⟨rfl, rfl⟩
  · refine .inr ⟨a, c, rfl, hc, fun i hi => ?_⟩
    obtain ⟨es, _, h2, h3, _⟩ := h i hi
    subst h3
    have := h2 0 _ rfl
    rw [Nat.mul_one] at this
    exact this
theorem bI : Tryd.prog.bytesOf 3 = 8 := by kernel_rfl
theorem bS : Tryd.prog.bytesOf 9 = 16 := by kernel_rfl
/-- a list of ints and a string -/
def RLs : World → List Value → List Int × ByteArray → Prop := fun W vs x => ∃ v, vs = [v, .string x.2] ∧ rdI .i64 W v x.1 ∧ (∀ y ∈ x.1, y ≤ 9223372036854775807) ∧ x.1.length ≤ 140737488355328 ∧ x.2.size ≤ 140737488355328
theorem oaLs : OpensA Tryd.prog [22, 9] (List Int × ByteArray) RLs (fun _ => 0) := by
  refine OpensA.mono (oa_one (op_slice uli (n := 1) (by kernel_rfl) (op_int ui)) scL (fun w cs a h => ⟨_, h.choose_spec.1⟩) (oa_one (op_str us) scS (fun w cs a h => ⟨_, h.1⟩) oa_nil)) ?_
  rintro W vs ⟨l, s, ⟨⟩⟩ ⟨v, r, rfl, ⟨v', hv, hr, hl⟩, v2, r2, rfl, ⟨h2, hs⟩, rfl⟩
  obtain ⟨h3, h4⟩ := ints_rd hr
  rw [bI] at hl
  unfold reachBytes at hl hs
  exact ⟨(l, s), ⟨v', by rw [one_cell hv, one_cell h2], h3, h4, by simp only at hl ⊢; omega, by simp only at hs ⊢; omega⟩, Nat.zero_le _⟩
/-- a string and a list of strings -/
def RsT : World → List Value → ByteArray × List ByteArray → Prop := fun W vs x => ∃ v, vs = [.string x.1, v] ∧ rdT W v x.2 ∧ x.2.length ≤ 140737488355328
theorem oasT : OpensA Tryd.prog [9, 39] (ByteArray × List ByteArray) RsT (fun _ => 0) := by
  refine OpensA.mono (oa_one (op_str us) scS (fun w cs a h => ⟨_, h.1⟩) (oa_one (op_slice uls (n := 1) (by kernel_rfl) (op_str us)) scLS (fun w cs a h => ⟨_, h.choose_spec.1⟩) oa_nil)) ?_
  rintro W vs ⟨s, l, ⟨⟩⟩ ⟨v, r, rfl, ⟨h2, hs⟩, v2, r2, rfl, ⟨v', hv, hr, hl⟩, rfl⟩
  rw [bS] at hl
  unfold reachBytes at hl
  exact ⟨(s, l), ⟨v', by rw [one_cell hv, one_cell h2], strs_rd hr, by simp only at hl ⊢; omega⟩, Nat.zero_le _⟩
/-- two bools and an int -/
def RbbI : World → List Value → Bool × Bool × Int → Prop := fun W vs x => vs = [.bool x.1, .bool x.2.1, .int .i64 x.2.2]
theorem oabbI : OpensA Tryd.prog [4, 4, 3] (Bool × Bool × Int) RbbI (fun _ => 0) := by
  refine OpensA.mono (oa_one (op_bool ub) scB (fun w cs a h => ⟨_, h⟩) (oa_one (op_bool ub) scB (fun w cs a h => ⟨_, h⟩) (oa_one (op_int ui) scI (fun w cs a h => ⟨_, h.1⟩) oa_nil))) ?_
  rintro W vs ⟨a, b, n, ⟨⟩⟩ ⟨v, r, rfl, h1, v2, r2, rfl, h2, v3, r3, rfl, ⟨h3, _⟩, rfl⟩
  exact ⟨(a, b, n), by show _ = _; rw [one_cell h1, one_cell h2, one_cell h3], Nat.zero_le _⟩
theorem ua2 : Tryd.prog.underlying 35 = some (.array 2 3) := by kernel_rfl
theorem ag2 : isAg Tryd.prog 35 2 = true := by kernel_rfl
theorem opA2 : Opens Tryd.prog 35 (Int × Int) (fun _ cs x => cs = [.int .i64 x.1, .int .i64 x.2]) (fun _ => 0) := by
  refine Opens.mono (op_arr ua2 (n := 1) (k := 2) (by kernel_rfl) (by kernel_rfl) (op_int ui)) ?_
  rintro w cs l ⟨h1, h2, h3⟩
  match cs, h1, l, h2, h3 with
  | [c0, c1], _, [a, b], _, h3 =>
    have e0 := (h3 0 (by simp)).1
    have e1 := (h3 1 (by simp)).1
    have e0' : c0 = .int .i64 a := one_cell e0
    have e1' : c1 = .int .i64 b := one_cell e1
    exact ⟨(a, b), by rw [e0', e1'], Nat.zero_le _⟩
/-- two pairs and an int -/
def RppI : World → List Value → (Int × Int) × (Int × Int) × Int → Prop := fun W vs x => vs = [.agg #[.int .i64 x.1.1, .int .i64 x.1.2], .agg #[.int .i64 x.2.1.1, .int .i64 x.2.1.2], .int .i64 x.2.2]
theorem oappI : OpensA Tryd.prog [35, 35, 3] ((Int × Int) × (Int × Int) × Int) RppI (fun _ => 0) := by
  refine OpensA.mono (oa_agg opA2 ag2 (oa_agg opA2 ag2 (oa_one (op_int ui) scI (fun w cs a h => ⟨_, h.1⟩) oa_nil))) ?_
  rintro W vs ⟨a, b, n, ⟨⟩⟩ ⟨cs, r, rfl, h1, cs2, r2, rfl, h2, v3, r3, rfl, ⟨h3, _⟩, rfl⟩
  have e1 : cs = #[.int .i64 a.1, .int .i64 a.2] := by rw [← Array.toArray_toList (xs := cs), h1]
  have e2 : cs2 = #[.int .i64 b.1, .int .i64 b.2] := by rw [← Array.toArray_toList (xs := cs2), h2]
  exact ⟨(a, b, n), by show _ = _; rw [e1, e2, one_cell h3], Nat.zero_le _⟩
end Go.Proofs.YtongpnolikkknaaDoor

namespace Go.Proofs.YtongpnolikkknaaDoor
open Go.ChangeShapes Go.WideShapes Go.ChangeAt Go.RowKit
open Sh
def R7 := RsT
def b7 : ByteArray × List ByteArray → Nat := fun _ => 0
theorem oa7 : OpensA Tryd.prog [9, 39] (ByteArray × List ByteArray) R7 b7 := oasT
theorem law7 (W : World) (vs : List Value) (a : ByteArray × List ByteArray) (h : R7 W vs a) : Calls Tryd.prog 7 vs.toArray W (Rt fun v W' => v = .bool true ∧ Below W.heap.size W W') := by
  obtain ⟨v, rfl, h1, h2⟩ := h
  exact s7 _ _ _ _ (f7_s h1 h2 fun w' hb => ⟨rfl, hb⟩)
set_option maxRecDepth 1000000 in
theorem lifted7 (os : Os) (started : os.Started) (H : Type) (enc : TypeId × Value → H) :
    ReturnsInHanded {} Tryd.checked os 7 .any (fun w args => (Rows.undoCutSpec.pre enc Tryd.prog Tryd.f7 Rows.undoCutRow.domain false w args ∧ laidMetH Tryd.prog Rows.undoCutRow.laid w) ∧ sizedMet enc Tryd.prog Tryd.f7 (OpenSpec.ofChange Rows.undoCutSpec) false w args) (Rows.undoCutSpec.post enc Tryd.prog Tryd.f7 false true false false) := by
  refine law_from_laid (C := Tryd.checked) (X := (fun w _ => laidMetH Tryd.prog Rows.undoCutRow.laid w)) (tb := 4) (R := R7) (b := b7) (fun _ _ _ hh h => h.of_heap hh) own started (by kernel_rfl) Tryd.func7
    (ChangeSpec.witness_at (enc := enc) (C := Tryd.checked) (os := os) (X := (fun w _ => laidMetH Tryd.prog Rows.undoCutRow.laid w)) false (laidW Tryd.prog Rows.undoCutRow.laid os) #[.string ⟨#[]⟩, .slice none 0 0] 8 rfl (by kernel_rfl) (by kernel_rfl) (by kernel_rfl) (by kernel_rfl) (by kernel_rfl) (laidW_metH os _))
    rfl (by kernel_rfl) (by kernel_rfl) rfl Tryd.underlying4 (fun ds hd => ?_) ?_ law7
  · match ds, hd with
    | [d0, d1], _ => exact ⟨rfl, rfl, rfl⟩
  · show OpensA Tryd.prog Tryd.f7.params.toList _ R7 b7
    rw [Tryd.params7]; exact oa7
theorem undoCut_row : Rows.UndoCutSaid :=
  OpenClaim.holds_of_wide 7 Tryd.f7 rfl rfl rfl rfl rfl rfl rfl ⟨rfl, rfl, rfl, rfl, rfl⟩ rfl rfl rfl rfl rfl (by kernel_rfl) Tryd.func7 (by kernel_rfl)
    (of_decide_eq_true (by kernel_rfl)) (by unfold Func.isWrapper; first | (rw [if_pos (by decide +kernel)]; kernel_rfl) | (rw [if_neg (by decide +kernel)]; exact ⟨rfl, rfl⟩))
    (fun os started H enc _ => lifted7 os started H enc)
theorem undoCut_holds : Rows.UndoCutCardSaid :=
  Claim7.holds_tied_plain_at .later [] Rows.undoCutCard.laidKinds true Rows.undoCutCard.stood.harness Rows.undoCutCard.stood.looks
    undoCut_row (fun _ h => by cases h) (by kernel_rfl) (fun _ h => by cases h) undoCut_row_tie rfl ⟨rfl, rfl⟩ (by kernel_rfl) (by kernel_rfl)
    (fun f fn hf hfn => by
      obtain rfl : f = 7 := Option.some.inj ((show Tryd.prog.funcNamed Rows.undoCutRow.func = some 7 by kernel_rfl).symm.trans hf) |>.symm
      obtain rfl : fn = Tryd.f7 := (Option.some.inj (Tryd.func7.symm.trans hfn)).symm
      exact ⟨by kernel_rfl, no_stand (by kernel_rfl)⟩)
    (by kernel_rfl)
#print axioms undoCut_holds
end Go.Proofs.YtongpnolikkknaaDoor
