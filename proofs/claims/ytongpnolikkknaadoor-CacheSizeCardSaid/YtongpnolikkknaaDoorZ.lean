/- The call of CacheSize returns true for every input, and its arguments read behind it as they read before. -/
import Derived.Test.YtongpnolikkknaaDoorZ2
set_option linter.unusedVariables false
set_option linter.unusedSimpArgs false
set_option linter.unusedSectionVars false
set_option maxRecDepth 20000
set_option maxHeartbeats 4000000
namespace Go.Proofs.YtongpnolikkknaaDoor
open Sh RowKit Go.MapKept
theorem lit5 (a b c d e : Int) (w : World) : (Instr.buildSlice 22 5 #[(0, .int .i64 a), (1, .int .i64 b), (2, .int .i64 c), (3, .int .i64 d), (4, .int .i64 e)]).run Tryd.prog w = .ok (.slice (some ⟨w.heap.size, 0, none⟩) 5 5) (psh w (.cells #[.int .i64 a, .int .i64 b, .int .i64 c, .int .i64 d, .int .i64 e] 3)) := by
  kernel_rfl
theorem rdI_five {w : World} {g : Nat} {a b c d e : Int} {t : TypeId} {fr : Nat × Nat} (h : w.heap[g]? = some (.cells #[.int .i64 a, .int .i64 b, .int .i64 c, .int .i64 d, .int .i64 e] t fr)) : rdI .i64 w (.slice (some ⟨g, 0, none⟩) 5 5) [a, b, c, d, e] := by
  refine ⟨some ⟨g, 0, none⟩, 5, rfl, fun i hi => ⟨_, rfl, ?_⟩⟩
  have hi : i < 5 := hi
  rw [add_lit, Nat.zero_add, cell_of_blk h]
  rcases (by omega : i = 0 ∨ i = 1 ∨ i = 2 ∨ i = 3 ∨ i = 4) with rfl | rfl | rfl | rfl | rfl <;> rfl
theorem rep_256 (m : Nat) : ∀ s ∈ List.replicate m (zs 256), s.size = 256 := fun s hs => by rw [List.eq_of_mem_replicate hs]; exact zs_size 256
section
variable {B : Nat} {W w w' : World} {c q mb p b : Nat} {v u vr vs : Value} {C : Ca} {E : List (Nat × Ch)} {G : Pg} {D : Dv} {Q : Value → World → Prop}
theorem lives7_loop {R : List Int} {sz g0 : Nat} {o : Obj} {w0 : World} (hR : ∀ w : World, w.heap[g0]? = some o → rdI .i64 w vr R) (hR4 : ∀ x ∈ R, 0 ≤ x ∧ x < (G.L.length : Int)) (hRl : R.length ≤ 100) (hz : ∀ s ∈ G.L, s.size = 256) : ∀ (d m i : Nat) (w : World) (C : Ca) (E : List (Nat × Ch)) (s : Stk), i + d = R.length → d < m → CP w0.heap.size w c q mb p b v u C E G D → w.heap[g0]? = some o → ¬ fpX c q mb p b v u E g0 → CInv C sz G.L.length s → Good C G.L → (0 ≤ s.h ∧ s.h ≤ i ∧ 0 ≤ s.m ∧ s.m ≤ i) → Below w0.heap.size w0 w →
    (∀ w' C' E', CP w0.heap.size w' c q mb p b v u C' E' G D → CInv C' sz G.L.length ((R.drop i).foldl (stp sz G.L.length) s) → Below w0.heap.size w0 w' → f28_j1 (pv c) w' Q) →
    itr (fun _ _ _ => bot) (f28_b2 f28_j1) m (pv c) vr (.int .i64 ((i : Nat) : Int)) w Q := by
  intro d
  induction d with
  | zero =>
    intro m i w C E s hi hm hc hk hnk hs hg hbd hb kk
    obtain ⟨m, rfl⟩ : ∃ x, m = x + 1 := ⟨m - 1, by omega⟩
    show f28_b2 f28_j1 _ _ _ _ w Q
    unfold f28_b2
    have lr := rdI_lnl (hR w hk)
    have cc : ¬ (i : Int) < (R.length : Nat) := by omega
    try simp only [↓reduceIte, ↓LL, LM, Value.cells, Nat.reduceAdd, Option.some.injEq, exists_eq_left', decide_true, decide_false, if_true, if_false, reduceCtorEq, cond_true, cond_false, lr, cc]
    rw [List.drop_of_length_le (by omega)] at kk
    exact kk w C E hc hs hb
  | succ d ih =>
    intro m i w C E s hi hm hc hk hnk hs hg hbd hb kk
    obtain ⟨m, rfl⟩ : ∃ x, m = x + 1 := ⟨m - 1, by omega⟩
    show f28_b2 f28_j1 _ _ _ _ w Q
    unfold f28_b2
    have lr := rdI_lnl (hR w hk)
    have cc : (i : Int) < (R.length : Nat) := by omega
    have hil : i < R.length := by omega
    have h3 : IntKind.i64.wrap ((i : Int) + 1) = ((i + 1 : Nat) : Int) := by rw [w64 (by omega) (by omega)]; rfl
    obtain ⟨aad, hcl, hia⟩ := rdI_at (hR w hk) hil
    have hin := hR4 _ (List.getElem_mem hil)
    have hdr : R.drop i = R[i] :: R.drop (i + 1) := List.drop_eq_getElem_cons hil
    rw [hdr] at kk
    generalize R[i] = n at *
    try simp only [↓reduceIte, ↓LL, LM, Value.cells, Nat.reduceAdd, Option.some.injEq, exists_eq_left', decide_true, decide_false, if_true, if_false, reduceCtorEq, cond_true, cond_false, lr, cc, hia, hcl]
    have hh := hs.h
    have hmm := hs.m
    refine hc.read (by omega) (by omega) (by omega) (by omega) fun w2 E2 hc2 hg2 hk2 => ?_
    obtain ⟨i1, i2⟩ := hs.stp n
    obtain ⟨g1, g2⟩ := hg.rd (n := n)
    obtain ⟨p1, p2⟩ := pgR_ok hz hin
    rw [g1]
    generalize (pgR G.L n).1 = t at *
    have e2 : (pgR G.L n).2 = 0 := p2
    have p1' : ((t.size : Nat) : Int) = 256 := by omega
    try simp only [↓reduceIte, ↓LL, LM, Value.cells, Nat.reduceAdd, Option.some.injEq, exists_eq_left', decide_true, decide_false, if_true, if_false, reduceCtorEq, cond_true, cond_false, get0, get1, ne_eq, e2, p1', h3]
    refine ih m (i + 1) w2 _ E2 _ (by omega) (by omega) hc2 (hg2.keep hk hnk) (fun hn => (hk2 g0 hn).elim hnk fun h => by have := blk_lt hk; omega) i1 g2 (stp_bd hbd) (hb.trans (hg2.below (fun k hk => hc.fpB k hk) hb.size)) kk
theorem f28_s (kk : ∀ w', Below w.heap.size w w' → Q (.bool true) w') : f28 w Q := by
  unfold f28
  refine f31_s (n := 4) (by decide) (by decide) fun w1 q p b v u h1 b1 => ?_
  try simp only [↓reduceIte, ↓LL, LM, Value.cells, Nat.reduceAdd, Option.some.injEq, exists_eq_left', decide_true, decide_false, if_true, if_false, reduceCtorEq, cond_true, cond_false]
  refine cp_new (n := 2) h1 b1.size fun w2 c mb h2 _ b2 => ?_
  have b02 := bt b1 b2
  try simp only [↓reduceIte, ↓LL, LM, Value.cells, Nat.reduceAdd, Option.some.injEq, exists_eq_left', decide_true, decide_false, if_true, if_false, reduceCtorEq, cond_true, cond_false]
  rw [pn_eq ptK]
  try simp only [↓reduceIte, ↓LL, LM, Value.cells, Nat.reduceAdd, Option.some.injEq, exists_eq_left', decide_true, decide_false, if_true, if_false, reduceCtorEq, cond_true, cond_false, Option.isNone]
  refine ⟨_, _, lit5 1 2 1 3 1 w2, ?_⟩
  have b3 := b_psh w2 (.cells #[.int .i64 1, .int .i64 2, .int .i64 1, .int .i64 3, .int .i64 1] 3)
  have k3 := blk_psh_new (w := w2) (o := .cells #[.int .i64 1, .int .i64 2, .int .i64 1, .int .i64 3, .int .i64 1] 3)
  have h3 := h2.below b3
  try simp only [↓reduceIte, ↓LL, LM, Value.cells, Nat.reduceAdd, Option.some.injEq, exists_eq_left', decide_true, decide_false, if_true, if_false, reduceCtorEq, cond_true, cond_false]
  generalize psh w2 (.cells #[.int .i64 1, .int .i64 2, .int .i64 1, .int .i64 3, .int .i64 1] 3) = w3 at *
  have b03 := bt b02 b3
  have hin := inv_new 2 (List.replicate 4 (zs 256)).length
  have hsz : szN 2 = 2 := by decide
  rw [hsz] at h3 hin
  have hgd : Good ⟨2, [], 0, 0⟩ (List.replicate 4 (zs 256)) := fun x hx => by simp at hx
  refine ⟨_, lives7_loop (w0 := w) (R := [1, 2, 1, 3, 1]) (g0 := w2.heap.size) (fun w h => rdI_five h) (by
      intro x hx
      simp only [List.mem_cons, List.mem_nil_iff, or_false, List.length_replicate] at hx ⊢
      omega) (by decide) (rep_256 4) 5 6 0 w3 _ [] ⟨[], 0, 0⟩ rfl (by decide) h3 k3 (fun hn => by have := h2.lt _ hn; omega) hin hgd ⟨Int.le_refl 0, Int.le_refl 0, Int.le_refl 0, Int.le_refl 0⟩ b03 fun w4 C4 E4 h4 i4 b4 => ?_⟩
  have es : ([1, 2, 1, 3, 1] : List Int).foldl (stp 2 (List.replicate 4 (zs 256)).length) ⟨[], 0, 0⟩ = ⟨[1, 3, 2], 2, 3⟩ := by rw [List.length_replicate]; rfl
  rw [List.drop_zero, es] at i4
  have eT := i4.T
  have eh : C4.h = 2 := i4.h
  have em : C4.m = 3 := i4.m
  unfold f28_j1
  try simp only [↓reduceIte, ↓LL, LM, Value.cells, Nat.reduceAdd, Option.some.injEq, exists_eq_left', decide_true, decide_false, if_true, if_false, reduceCtorEq, cond_true, cond_false]
  refine f34_s h4.ca ?_
  rw [eh]
  try simp only [↓reduceIte, ↓LL, LM, Value.cells, Nat.reduceAdd, Option.some.injEq, exists_eq_left', decide_true, decide_false, if_true, if_false, reduceCtorEq, cond_true, cond_false]
  refine f35_s h4.ca ?_
  rw [em]
  try simp only [↓reduceIte, ↓LL, LM, Value.cells, Nat.reduceAdd, Option.some.injEq, exists_eq_left', decide_true, decide_false, if_true, if_false, reduceCtorEq, cond_true, cond_false]
  refine f33_s h4.ca fun w5 v5 b5 o5 => ?_
  have b05 := bt b4 b5
  rw [eT] at o5
  try simp only [↓reduceIte, ↓LL, LM, Value.cells, Nat.reduceAdd, Option.some.injEq, exists_eq_left', decide_true, decide_false, if_true, if_false, reduceCtorEq, cond_true, cond_false]
  refine ⟨_, _, lit22 1 3 w5, ?_⟩
  have b6 := b_psh w5 (.cells #[.int .i64 1, .int .i64 3] 3)
  have k6 := blk_psh_new (w := w5) (o := .cells #[.int .i64 1, .int .i64 3] 3)
  try simp only [↓reduceIte, ↓LL, LM, Value.cells, Nat.reduceAdd, Option.some.injEq, exists_eq_left', decide_true, decide_false, if_true, if_false, reduceCtorEq, cond_true, cond_false]
  generalize psh w5 (.cells #[.int .i64 1, .int .i64 3] 3) = w6 at *
  refine f17_s (l := [1, 3]) (l2 := [1, 3]) (rdP_rd (ownI_rdP (ownI_below o5 b6))) (rdI_two k6) (by decide) fun w7 b7 => ?_
  have h7 := ((h4.below b5).below b6).below b7
  try simp only [↓reduceIte, ↓LL, LM, Value.cells, Nat.reduceAdd, Option.some.injEq, exists_eq_left', decide_true, decide_false, if_true, if_false, reduceCtorEq, cond_true, cond_false]
  refine f63_s h7.ca h7.pg.hq h7.pg.hu ?_
  try simp only [↓reduceIte, ↓LL, LM, Value.cells, Nat.reduceAdd, Option.some.injEq, exists_eq_left', decide_true, decide_false, if_true, if_false, reduceCtorEq, cond_true, cond_false, List.length_replicate]
  exact kk w7 (bt (bt b05 b6) b7)
end
end Go.Proofs.YtongpnolikkknaaDoor

set_option maxRecDepth 20000
set_option maxHeartbeats 4000000
namespace Go.Proofs.YtongpnolikkknaaDoor
open Sh RowKit Go.MapKept
structure Op7 where
  n : Int
  b : Int
  wr : Bool
def oOp7 : RepT Op7 := fun _ cs x => cs = [.int .i64 x.n, .int .u8 x.b, .bool x.wr] ∧ 0 ≤ x.b ∧ x.b ≤ 255
theorem oOp7_st : Stable oOp7 := fun w w' es x hb h => h
def pgN (n : Int) : Nat := 1 + (um n 30).toNat
theorem pgN_bd (n : Int) : 1 ≤ pgN n ∧ pgN n ≤ 30 := by
  have := um_bd n (show (0 : Int) < 30 by decide)
  unfold pgN
  omega
theorem rep_len (m : Nat) : (List.replicate m (zs 256)).length = m := List.length_replicate
section
variable {B : Nat} {W w w' : World} {c q mb p b : Nat} {v u vr vs : Value} {C : Ca} {E : List (Nat × Ch)} {G : Pg} {D : Dv} {Q : Value → World → Prop}
theorem f29_s {α : Type} {R : RepT α} {l : List α} (h : rdS 3 R w v l) (kk : ∀ v', rdS 3 R w v' (l.take 300) → Q v' w) : f29 v w Q := by
  unfold f29
  have lv := lnl_S h
  have e : (if (300 : Int) < ((l.length : Nat) : Int) then (300 : Int) else ((l.length : Nat) : Int)) = ((min l.length 300 : Nat) : Int) := by split <;> omega
  try simp only [↓reduceIte, ↓LL, LM, Value.cells, Nat.reduceAdd, Option.some.injEq, exists_eq_left', decide_true, decide_false, if_true, if_false, reduceCtorEq, cond_true, cond_false, lv, e]
  refine sll_S h (k := min l.length 300) (by omega) fun v' hv' => ?_
  try simp only [↓reduceIte, ↓LL, LM, Value.cells, Nat.reduceAdd, Option.some.injEq, exists_eq_left', decide_true, decide_false, if_true, if_false, reduceCtorEq, cond_true, cond_false]
  refine kk v' ?_
  have : l.take (min l.length 300) = l.take 300 := by
    rcases Nat.le_total l.length 300 with c | c
    · rw [Nat.min_eq_left c, List.take_of_length_le (Nat.le_refl _), List.take_of_length_le c]
    · rw [Nat.min_eq_right c]
  rw [← this]
  exact hv'
theorem dup_in {l : List Int} {i : Nat} {t1 t2 t7 t8 : Value} {j5 : Value → Value → Value → Value → Value → Value → M} (hl : rdI .i64 W v l) (hn : l.Nodup) (hi : i < l.length) (h64 : l.length ≤ 1000) : ∀ (d m k : Nat) (w : World), k + d = i → d < m → Below W.heap.size W w →
    (∀ w', Below W.heap.size W w' → j5 t1 t2 t7 t8 v (.int .i64 ((i : Nat) : Int)) w' Q) →
    itr (fun _ _ _ _ _ _ _ => bot) (f8_b6 j5) m t1 t2 t7 t8 v (.int .i64 ((i : Nat) : Int)) (.int .i64 ((k : Nat) : Int)) w Q := by
  intro d
  induction d with
  | zero =>
    intro m k w hk hm hb kk
    obtain ⟨m, rfl⟩ : ∃ x, m = x + 1 := ⟨m - 1, by omega⟩
    show f8_b6 j5 _ _ _ _ _ _ _ _ w Q
    unfold f8_b6
    have cc : ¬ (k : Int) < (i : Nat) := by omega
    try simp only [↓reduceIte, ↓LL, LM, Value.cells, Nat.reduceAdd, Option.some.injEq, exists_eq_left', decide_true, decide_false, if_true, if_false, reduceCtorEq, cond_true, cond_false, cc]
    exact kk w hb
  | succ d ih =>
    intro m k w hk hm hb kk
    obtain ⟨m, rfl⟩ : ∃ x, m = x + 1 := ⟨m - 1, by omega⟩
    show f8_b6 j5 _ _ _ _ _ _ _ _ w Q
    unfold f8_b6
    have cc : (k : Int) < (i : Nat) := by omega
    have hkl : k < l.length := by omega
    have h3 : IntKind.i64.wrap ((k : Int) + 1) = ((k + 1 : Nat) : Int) := by rw [w64 (by omega) (by omega)]; rfl
    obtain ⟨a1, c1, ia1⟩ := rdI_at (rdI_b hl hb) hkl
    obtain ⟨a2, c2, ia2⟩ := rdI_at (rdI_b hl hb) hi
    have hne : ¬ l[k] = l[i] := fun e => by
      have : l[k]? = l[i]? := by rw [List.getElem?_eq_getElem hkl, List.getElem?_eq_getElem hi, e]
      have := (List.getElem?_inj hkl hn).1 this
      omega
    have bd : Below W.heap.size W (drw w) := ⟨hb.os, hb.tape, hb.output, hb.size, hb.block⟩
    try simp only [↓reduceIte, ↓LL, LM, Value.cells, Nat.reduceAdd, Option.some.injEq, exists_eq_left', decide_true, decide_false, if_true, if_false, reduceCtorEq, cond_true, cond_false, cc, ia1, ia2, c1, c2, hne, h3]
    exact ih m (k + 1) (drw w) (by omega) (by omega) bd kk
theorem dup_out {l : List Int} {t1 t2 t7 t8 : Value} {j3 : Value → Value → Value → Value → M} (hl : rdI .i64 W v l) (hn : l.Nodup) (h64 : l.length ≤ 1000) : ∀ (d m i : Nat) (w : World), i + d = l.length → d < m → Below W.heap.size W w →
    (∀ w', Below W.heap.size W w' → j3 t1 t2 t7 t8 w' Q) →
    itr (fun _ _ _ _ _ _ => bot) (f8_b4 j3) m t1 t2 t7 t8 v (.int .i64 ((i : Nat) : Int)) w Q := by
  intro d
  induction d with
  | zero =>
    intro m i w hi hm hb kk
    obtain ⟨m, rfl⟩ : ∃ x, m = x + 1 := ⟨m - 1, by omega⟩
    show f8_b4 j3 _ _ _ _ _ _ _ w Q
    unfold f8_b4
    have lv := rdI_lnl hl
    have cc : ¬ (i : Int) < (l.length : Nat) := by omega
    try simp only [↓reduceIte, ↓LL, LM, Value.cells, Nat.reduceAdd, Option.some.injEq, exists_eq_left', decide_true, decide_false, if_true, if_false, reduceCtorEq, cond_true, cond_false, lv, cc]
    exact kk w hb
  | succ d ih =>
    intro m i w hi hm hb kk
    obtain ⟨m, rfl⟩ : ∃ x, m = x + 1 := ⟨m - 1, by omega⟩
    show f8_b4 j3 _ _ _ _ _ _ _ w Q
    unfold f8_b4
    have lv := rdI_lnl hl
    have cc : (i : Int) < (l.length : Nat) := by omega
    have h3 : IntKind.i64.wrap ((i : Int) + 1) = ((i + 1 : Nat) : Int) := by rw [w64 (by omega) (by omega)]; rfl
    try simp only [↓reduceIte, ↓LL, LM, Value.cells, Nat.reduceAdd, Option.some.injEq, exists_eq_left', decide_true, decide_false, if_true, if_false, reduceCtorEq, cond_true, cond_false, lv, cc]
    refine ⟨_, dup_in (j5 := f8_j5 (itr (fun _ _ _ _ _ _ => bot) (f8_b4 j3) m)) hl hn (by omega) h64 i (i + 1) 0 w (by omega) (by omega) hb fun w2 b2 => ?_⟩
    unfold f8_j5
    try simp only [↓reduceIte, ↓LL, LM, Value.cells, Nat.reduceAdd, Option.some.injEq, exists_eq_left', decide_true, decide_false, if_true, if_false, reduceCtorEq, cond_true, cond_false, h3]
    exact ih m (i + 1) w2 (by omega) (by omega) b2 kk
theorem size_loop {l : List Op7} {size : Int} (hl : rdS 3 oOp7 W vs l) (hl3 : l.length ≤ 300) (hG : G.L.length ≤ 1000) : ∀ (d m i : Nat) (w : World) (C : Ca) (E : List (Nat × Ch)) (s : Stk), i + d = l.length → d < m → CP W.heap.size w c q mb p b v u C E G D → CInv C (szN size) G.L.length s → (0 ≤ s.h ∧ s.h ≤ i ∧ 0 ≤ s.m ∧ s.m ≤ i) → Below W.heap.size W w →
    (∀ w', Below W.heap.size W w' → Q (.bool true) w') →
    itr (fun _ _ _ _ => bot) (f8_b2 f8_j1) m (.int .i64 size) vs (pv c) (.int .i64 ((i : Nat) : Int)) w Q := by
  intro d
  induction d with
  | zero =>
    intro m i w C E s hi hm hc hs hbd hb kk
    obtain ⟨m, rfl⟩ : ∃ x, m = x + 1 := ⟨m - 1, by omega⟩
    show f8_b2 f8_j1 _ _ _ _ _ w Q
    unfold f8_b2
    have lv := lnl_S hl
    have cc : ¬ (i : Int) < (l.length : Nat) := by omega
    try simp only [↓reduceIte, ↓LL, LM, Value.cells, Nat.reduceAdd, Option.some.injEq, exists_eq_left', decide_true, decide_false, if_true, if_false, reduceCtorEq, cond_true, cond_false, lv, cc]
    unfold f8_j1
    try simp only [↓reduceIte, ↓LL, LM, Value.cells, Nat.reduceAdd, Option.some.injEq, exists_eq_left', decide_true, decide_false, if_true, if_false, reduceCtorEq, cond_true, cond_false]
    exact kk w hb
  | succ d ih =>
    intro m i w C E s hi hm hc hs hbd hb kk
    obtain ⟨m, rfl⟩ : ∃ x, m = x + 1 := ⟨m - 1, by omega⟩
    show f8_b2 f8_j1 _ _ _ _ _ w Q
    unfold f8_b2
    have lv := lnl_S hl
    have cc : (i : Int) < (l.length : Nat) := by omega
    have hil : i < l.length := by omega
    have h3 : IntKind.i64.wrap ((i : Int) + 1) = ((i + 1 : Nat) : Int) := by rw [w64 (by omega) (by omega)]; rfl
    obtain ⟨aad, es, he1, he2, ⟨he3, _⟩, hia⟩ := rdS_at hl hil
    have cN : ∀ w', Below W.heap.size W w' → w'.cell? (aad.add 0) = some (.int .i64 l[i].n) := fun w' hb' => cellsAt_below hb' he2 0 _ (by rw [he3]; rfl)
    have c0 := cN w hb
    have hh := hs.h
    have hmm := hs.m
    try simp only [↓reduceIte, ↓LL, LM, Value.cells, Nat.reduceAdd, Option.some.injEq, exists_eq_left', decide_true, decide_false, if_true, if_false, reduceCtorEq, cond_true, cond_false, lv, cc, hia, c0]
    generalize l[i].n = n at *
    refine hc.read (by omega) (by omega) (by omega) (by omega) fun w2 E2 hc2 hg2 _ => ?_
    obtain ⟨i1, i2⟩ := hs.stp n
    have hb2 : Below W.heap.size W w2 := hb.trans (hg2.below (fun k hk => hc.fpB k hk) hb.size)
    try simp only [↓reduceIte, ↓LL, LM, Value.cells, Nat.reduceAdd, Option.some.injEq, exists_eq_left', decide_true, decide_false, if_true, if_false, reduceCtorEq, cond_true, cond_false, get0, get1]
    refine f33_s hc2.ca fun w3 v3 b3 o3 => ?_
    have hb3 := bt hb2 b3
    have hc3 := hc2.below b3
    have hb3d : Below W.heap.size W (drw w3) := ⟨hb3.os, hb3.tape, hb3.output, hb3.size, hb3.block⟩
    have hrd := rdP_rd (ownI_rdP o3)
    have hrdd : rdI .i64 (drw w3) v3 (nums (rdC C G.L n).2.K) := hrd
    have hT := i1.T
    have hnd : (nums (rdC C G.L n).2.K).Nodup := hc2.ca.nk
    have hlen : (nums (rdC C G.L n).2.K).length ≤ szN size := by rw [hT, List.length_take]; omega
    have h64 := szN_64 size
    have ll := rdI_lnl hrd
    have esz : (if (64 : Int) < (if size < 0 then 0 else size) then 64 else (if size < 0 then 0 else size)) = ((szN size : Nat) : Int) := by unfold szN; omega
    have hl3' : ¬ (((nums (rdC C G.L n).2.K).length : Nat) : Int) > ((szN size : Nat) : Int) := by omega
    have hl3'' : ¬ ((szN size : Nat) : Int) < (((nums (rdC C G.L n).2.K).length : Nat) : Int) := by omega
    have fin : f8_j3 (itr (fun _ _ _ _ => bot) (f8_b2 f8_j1) m) (.int .i64 size) vs (pv c) (.int .i64 ((i : Nat) : Int)) = f8_j3 (itr (fun _ _ _ _ => bot) (f8_b2 f8_j1) m) (.int .i64 size) vs (pv c) (.int .i64 ((i : Nat) : Int)) := rfl
    have nxt : ∃ k, itr (fun _ _ _ _ _ _ => bot) (f8_b4 (f8_j3 (itr (fun _ _ _ _ => bot) (f8_b2 f8_j1) m))) k (.int .i64 size) vs (pv c) (.int .i64 ((i : Nat) : Int)) v3 (.int .i64 0) (drw w3) Q := by
      refine ⟨_, dup_out (W := drw w3) hrdd hnd (by omega) (nums (rdC C G.L n).2.K).length ((nums (rdC C G.L n).2.K).length + 1) 0 (drw w3) (by omega) (by omega) (Below.refl _ _) fun w4 b4 => ?_⟩
      unfold f8_j3
      try simp only [↓reduceIte, ↓LL, LM, Value.cells, Nat.reduceAdd, Option.some.injEq, exists_eq_left', decide_true, decide_false, if_true, if_false, reduceCtorEq, cond_true, cond_false, h3]
      exact ih m (i + 1) w4 _ E2 _ (by omega) (by omega) (hc3.below (of_drw' b4)) i1 (stp_bd hbd) (bt hb3d b4) kk
    by_cases hv : 0 ≤ n ∧ n < (G.L.length : Int)
    · rw [if_pos hv] at i2
      rw [i2]
      by_cases hs0 : size > 0
      · have hs0' : (0 : Int) < size := hs0
        have hsz1 : 1 ≤ szN size := by unfold szN; omega
        have hTT : (stp (szN size) G.L.length s n).T = upN s.T n := by unfold stp; rw [if_pos hv]
        rw [hTT] at hT
        obtain ⟨k, hk⟩ : ∃ k, szN size = k + 1 := ⟨szN size - 1, by omega⟩
        have hcons : ∃ r, nums (rdC C G.L n).2.K = n :: r := ⟨_, by rw [hT, hk]; unfold upN; rw [List.take_succ_cons]⟩
        obtain ⟨r, hr⟩ := hcons
        have hl0 : 0 < (nums (rdC C G.L n).2.K).length := by rw [hr]; simp
        have hlz : ¬ (((nums (rdC C G.L n).2.K).length : Nat) : Int) = 0 := by omega
        obtain ⟨a1, k1, ja1⟩ := rdI_at hrdd hl0
        have eg : (nums (rdC C G.L n).2.K)[0] = n := by simp [hr]
        rw [eg] at k1
        have ja1' : ∀ (K : Value → M) (w : World) (Q : Value → World → Prop), ia 1 v3 (.int .i64 0) K w Q = K (.pointer (some a1)) w Q := fun K w Q => ja1 .i64 K w Q
        have c0d := cN (drw w3) hb3d
        have k1' : w3.cell? a1 = some (.int .i64 n) := k1
        have c0d' : w3.cell? (aad.add 0) = some (.int .i64 n) := c0d
        try simp only [↓reduceIte, ↓LL, LM, Value.cells, Nat.reduceAdd, Option.some.injEq, exists_eq_left', decide_true, decide_false, if_true, if_false, reduceCtorEq, cond_true, cond_false, ll, esz, hl3', hl3'', hs0, hs0', hlz, ja1', k1, k1', hia, c0d, c0d', ne_eq]
        exact nxt
      · have hs0' : ¬ (0 : Int) < size := hs0
        try simp only [↓reduceIte, ↓LL, LM, Value.cells, Nat.reduceAdd, Option.some.injEq, exists_eq_left', decide_true, decide_false, if_true, if_false, reduceCtorEq, cond_true, cond_false, ll, esz, hl3', hl3'', hs0, hs0', ne_eq]
        exact nxt
    · rw [if_neg hv] at i2
      rw [i2]
      have z7 : ¬ (7 : Int) = 0 := by decide
      try simp only [↓reduceIte, ↓LL, LM, Value.cells, Nat.reduceAdd, Option.some.injEq, exists_eq_left', decide_true, decide_false, if_true, if_false, reduceCtorEq, cond_true, cond_false, ll, esz, hl3', hl3'', z7, ne_eq]
      exact nxt
theorem f8_s {n size : Int} {l : List Op7} (hl : rdS 3 oOp7 w vs l) (kk : ∀ w', Below w.heap.size w w' → Q (.bool true) w') : f8 (.int .i64 n) (.int .i64 size) vs w Q := by
  unfold f8
  refine f28_s fun w1 b1 => ?_
  have h := um_bd n (show (0 : Int) < 30 by decide)
  have e1 : (IntKind.u64.wrap n).tmod 30 = um n 30 := rfl
  have e2 : IntKind.i64.wrap (um n 30) = um n 30 := w64 (by omega) (by omega)
  have e3 : IntKind.i64.wrap (1 + um n 30) = ((pgN n : Nat) : Int) := by rw [w64 (by omega) (by omega)]; unfold pgN; omega
  have z : ¬ (30 : Int) = 0 := by decide
  obtain ⟨p1, p2⟩ := pgN_bd n
  try simp only [↓reduceIte, ↓LL, LM, Value.cells, Nat.reduceAdd, Option.some.injEq, exists_eq_left', decide_true, decide_false, if_true, if_false, reduceCtorEq, cond_true, cond_false, e1, e2, e3, z]
  try refine ⟨by decide, ?_⟩
  try simp only [↓reduceIte, ↓LL, LM, Value.cells, Nat.reduceAdd, Option.some.injEq, exists_eq_left', decide_true, decide_false, if_true, if_false, reduceCtorEq, cond_true, cond_false, e1, e2, e3, z]
  refine f29_s (rdS_below oOp7_st b1 hl) fun vs' hv' => ?_
  try simp only [↓reduceIte, ↓LL, LM, Value.cells, Nat.reduceAdd, Option.some.injEq, exists_eq_left', decide_true, decide_false, if_true, if_false, reduceCtorEq, cond_true, cond_false]
  refine f31_s (n := pgN n) p1 (by omega) fun w2 q p b v u h2 b2 => ?_
  try simp only [↓reduceIte, ↓LL, LM, Value.cells, Nat.reduceAdd, Option.some.injEq, exists_eq_left', decide_true, decide_false, if_true, if_false, reduceCtorEq, cond_true, cond_false]
  refine cp_new (n := size) h2 b2.size fun w3 c mb h3 _ b3 => ?_
  have b03 := bt b2 b3
  try simp only [↓reduceIte, ↓LL, LM, Value.cells, Nat.reduceAdd, Option.some.injEq, exists_eq_left', decide_true, decide_false, if_true, if_false, reduceCtorEq, cond_true, cond_false]
  exact ⟨_, size_loop (W := w1) (G := ⟨List.replicate (pgN n) (zs 256), false, 0⟩) hv' (by rw [List.length_take]; omega) (by show (List.replicate (pgN n) (zs 256)).length ≤ 1000; rw [rep_len]; omega) (l.take 300).length ((l.take 300).length + 1) 0 w3 _ [] ⟨[], 0, 0⟩ (by omega) (by omega) h3 (inv_new size _) ⟨Int.le_refl 0, Int.le_refl 0, Int.le_refl 0, Int.le_refl 0⟩ b03 fun w' hb' => kk w' (bt b1 hb')⟩
end
end Go.Proofs.YtongpnolikkknaaDoor

namespace Go.Proofs.YtongpnolikkknaaDoor
open Sh RowKit Go.MapKept
theorem ulO7 : Tryd.prog.underlying 45 = some (.slice 53) := by kernel_rfl
theorem scO7 : isSc Tryd.prog 45 = true := by kernel_rfl
theorem len3 {cs : List Value} (h : cs.length = 3) : ∃ a b c, cs = [a, b, c] := by
  match cs, h with
  | [a, b, c], _ => exact ⟨a, b, c, rfl⟩
theorem op_o7 : Opens Tryd.prog 53 Op7 oOp7 (fun _ => 0) := by
  refine Opens.mono (op_struct Tryd.underlying53 (n := 3) (by kernel_rfl) (opf_cons (n := 1) (by kernel_rfl) (op_int ui) (opf_cons (n := 1) (by kernel_rfl) (op_int uu8) (opf_cons (n := 1) (by kernel_rfl) (op_bool ub) opf_nil)))) ?_
  rintro w cs ⟨a, t, c, ⟨⟩⟩ ⟨hl, ⟨h0, _⟩, ⟨h1, h1'⟩, h2, -⟩
  obtain ⟨c0, c1, c2, rfl⟩ := len3 hl
  have e0 := one_cell (x := c0) h0
  have e1 := one_cell (x := c1) h1
  have e2 := one_cell (x := c2) h2
  have h8 := wf8 h1'
  exact ⟨⟨a, t, c⟩, ⟨by rw [e0, e1, e2], h8.1, h8.2⟩, Nat.zero_le _⟩
/-- two numbers and a script -/
def RiiO : World → List Value → Int × Int × List Op7 → Prop := fun W vs x => ∃ v, vs = [.int .i64 x.1, .int .i64 x.2.1, v] ∧ rdS 3 oOp7 W v x.2.2
theorem oaiiO : OpensA Tryd.prog [3, 3, 45] (Int × Int × List Op7) RiiO (fun _ => 0) := by
  refine OpensA.mono (oa_one (op_int ui) scI (fun w cs a h => ⟨_, h.1⟩) (oa_one (op_int ui) scI (fun w cs a h => ⟨_, h.1⟩) (oa_one (op_slice ulO7 (n := 3) (by kernel_rfl) op_o7) scO7 (fun w cs a h => ⟨_, h.choose_spec.1⟩) oa_nil))) ?_
  rintro W vs ⟨n, m, l, ⟨⟩⟩ ⟨v, r, rfl, ⟨h1, _⟩, v1, r1, rfl, ⟨h2, _⟩, v2, r2, rfl, ⟨v', hv, hr, hl⟩, rfl⟩
  exact ⟨(n, m, l), ⟨v2, by rw [one_cell h1, one_cell h2], by rw [one_cell hv]; exact hr⟩, Nat.zero_le _⟩
end Go.Proofs.YtongpnolikkknaaDoor

namespace Go.Proofs.YtongpnolikkknaaDoor
open Go.ChangeShapes Go.WideShapes Go.ChangeAt Go.RowKit
open Sh
def R8 := RiiO
def b8 : Int × Int × List Op7 → Nat := fun _ => 0
theorem oa8 : OpensA Tryd.prog [3, 3, 45] (Int × Int × List Op7) R8 b8 := oaiiO
theorem law8 (W : World) (vs : List Value) (a : Int × Int × List Op7) (h : R8 W vs a) : Calls Tryd.prog 8 vs.toArray W (Rt fun v W' => v = .bool true ∧ Below W.heap.size W W') := by
  obtain ⟨v, rfl, h1⟩ := h
  exact s8 _ _ _ _ _ (f8_s h1 fun w' hb => ⟨rfl, hb⟩)
set_option maxRecDepth 1000000 in
theorem lifted8 (os : Os) (started : os.Started) (H : Type) (enc : TypeId × Value → H) :
    ReturnsInHanded {} Tryd.checked os 8 .any (fun w args => (Rows.cacheSizeSpec.pre enc Tryd.prog Tryd.f8 Rows.cacheSizeRow.domain false w args ∧ laidMetH Tryd.prog Rows.cacheSizeRow.laid w) ∧ sizedMet enc Tryd.prog Tryd.f8 (OpenSpec.ofChange Rows.cacheSizeSpec) false w args) (Rows.cacheSizeSpec.post enc Tryd.prog Tryd.f8 false true false false) := by
  refine law_from_laid (C := Tryd.checked) (X := (fun w _ => laidMetH Tryd.prog Rows.cacheSizeRow.laid w)) (tb := 4) (R := R8) (b := b8) (fun _ _ _ hh h => h.of_heap hh) own started (by kernel_rfl) Tryd.func8
    (ChangeSpec.witness_at (enc := enc) (C := Tryd.checked) (os := os) (X := (fun w _ => laidMetH Tryd.prog Rows.cacheSizeRow.laid w)) false (laidW Tryd.prog Rows.cacheSizeRow.laid os) #[.int .i64 0, .int .i64 0, .slice none 0 0] 8 rfl (by kernel_rfl) (by kernel_rfl) (by kernel_rfl) (by kernel_rfl) (by kernel_rfl) (laidW_metH os _))
    rfl (by kernel_rfl) (by kernel_rfl) rfl Tryd.underlying4 (fun ds hd => ?_) ?_ law8
  · match ds, hd with
    | [d0, d1, d2], _ => exact ⟨rfl, rfl, rfl⟩
  · show OpensA Tryd.prog Tryd.f8.params.toList _ R8 b8
    rw [Tryd.params8]; exact oa8
theorem cacheSize_row : Rows.CacheSizeSaid :=
  OpenClaim.holds_of_wide 8 Tryd.f8 rfl rfl rfl rfl rfl rfl rfl ⟨rfl, rfl, rfl, rfl, rfl⟩ rfl rfl rfl rfl rfl (by kernel_rfl) Tryd.func8 (by kernel_rfl)
    (of_decide_eq_true (by kernel_rfl)) (by unfold Func.isWrapper; first | (rw [if_pos (by decide +kernel)]; kernel_rfl) | (rw [if_neg (by decide +kernel)]; exact ⟨rfl, rfl⟩))
    (fun os started H enc _ => lifted8 os started H enc)
theorem cacheSize_holds : Rows.CacheSizeCardSaid :=
  Claim7.holds_tied_plain_at .later [] Rows.cacheSizeCard.laidKinds true Rows.cacheSizeCard.stood.harness Rows.cacheSizeCard.stood.looks
    cacheSize_row (fun _ h => by cases h) (by kernel_rfl) (fun _ h => by cases h) cacheSize_row_tie rfl ⟨rfl, rfl⟩ (by kernel_rfl) (by kernel_rfl)
    (fun f fn hf hfn => by
      obtain rfl : f = 8 := Option.some.inj ((show Tryd.prog.funcNamed Rows.cacheSizeRow.func = some 8 by kernel_rfl).symm.trans hf) |>.symm
      obtain rfl : fn = Tryd.f8 := (Option.some.inj (Tryd.func8.symm.trans hfn)).symm
      exact ⟨by kernel_rfl, no_stand (by kernel_rfl)⟩)
    (by kernel_rfl)
#print axioms cacheSize_holds
end Go.Proofs.YtongpnolikkknaaDoor
