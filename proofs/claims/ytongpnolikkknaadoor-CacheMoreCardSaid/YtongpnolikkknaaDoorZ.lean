/- The call of CacheMore returns true for every input, and its arguments read behind it as they read before. -/
import Derived.Test.YtongpnolikkknaaDoorZ2
set_option linter.unusedVariables false
set_option linter.unusedSimpArgs false
set_option linter.unusedSectionVars false
set_option maxRecDepth 20000
set_option maxHeartbeats 4000000
namespace Go.Proofs.YtongpnolikkknaaDoor
open Sh RowKit Go.MapKept
/-- what reads leave: the numbers, the one used last first; hits; misses -/
structure Stk where
  T : List Int
  h : Int
  m : Int
def stp (sz N : Nat) (s : Stk) (n : Int) : Stk := if 0 ≤ n ∧ n < (N : Int) then ⟨upN s.T n, s.h + (if n ∈ s.T.take sz then 1 else 0), s.m + (if n ∈ s.T.take sz then 0 else 1)⟩ else s
structure CInv (C : Ca) (sz N : Nat) (s : Stk) : Prop where
  size : C.sz = sz
  T : nums C.K = s.T.take sz
  nd : s.T.Nodup
  bd : ∀ t ∈ s.T, 0 ≤ t ∧ t < (N : Int)
  h : C.h = s.h
  m : C.m = s.m
theorem CInv.stp {C : Ca} {sz : Nat} {L : List ByteArray} {s : Stk} (hi : CInv C sz L.length s) (n : Int) : CInv (rdC C L n).2 sz L.length (stp sz L.length s n) ∧ (rdC C L n).1.2 = if 0 ≤ n ∧ n < (L.length : Int) then 0 else 7 := by
  have h1 := hi.T
  rw [← hi.size] at h1
  have h := rdC_nums (C := C) (L := L) (n := n) hi.nd h1 hi.bd
  unfold Go.Proofs.YtongpnolikkknaaDoor.stp
  by_cases c : 0 ≤ n ∧ n < (L.length : Int)
  · rw [if_pos c] at h
    rw [if_pos c, if_pos c]
    obtain ⟨e1, e2, e3, e4, e5⟩ := h
    rw [hi.size] at e2 e3 e4 e5
    refine ⟨⟨e3, e2, upN_nodup hi.nd, fun t ht => ?_, by rw [e4, hi.h], by rw [e5, hi.m]⟩, e1⟩
    rcases upN_mem ht with rfl | ht
    · exact c
    · exact hi.bd t ht
  · rw [if_neg c] at h
    rw [if_neg c, if_neg c]
    obtain ⟨e1, e2⟩ := h
    rw [e2, e1]
    exact ⟨hi, rfl⟩
theorem stp_bd {sz N : Nat} {s : Stk} {n : Int} {k : Int} (h : 0 ≤ s.h ∧ s.h ≤ k ∧ 0 ≤ s.m ∧ s.m ≤ k) : 0 ≤ (stp sz N s n).h ∧ (stp sz N s n).h ≤ k + 1 ∧ 0 ≤ (stp sz N s n).m ∧ (stp sz N s n).m ≤ k + 1 := by
  unfold stp
  split
  · simp only
    split <;> omega
  · omega
/-- each page that is kept is as the pager has it -/
def Good (C : Ca) (L : List ByteArray) : Prop := ∀ x ∈ C.K, 0 ≤ x.1 ∧ L[x.1.toNat]? = some x.2
theorem Good.rd {C : Ca} {L : List ByteArray} {n : Int} (hg : Good C L) : (rdC C L n).1 = pgR L n ∧ Good (rdC C L n).2 L := by
  unfold rdC
  cases hf : C.K.find? (fun x => decide (x.1 = n)) with
  | some x =>
    obtain ⟨h1, h2⟩ := find_mem hf
    obtain ⟨q0, q1⟩ := hg x h1
    have hlt := (List.getElem?_eq_some_iff.1 q1).1
    have ep : pgR L n = (x.2, 0) := by
      unfold pgR
      rw [← h2, if_pos ⟨q0, by omega⟩, List.getD_eq_getElem?_getD, q1]; rfl
    rw [ep]
    refine ⟨rfl, fun y hy => ?_⟩
    rcases List.mem_cons.1 (List.mem_of_mem_take (show y ∈ (x :: C.K.filter fun y => decide (y.1 ≠ n)).take C.sz from hy)) with rfl | hy
    · exact ⟨q0, q1⟩
    · exact hg y (List.mem_filter.1 hy).1
  | none =>
    simp only
    by_cases c : (pgR L n).2 = 0
    · rw [if_pos c]
      refine ⟨by rw [← c], fun y hy => ?_⟩
      rcases List.mem_cons.1 (List.mem_of_mem_take (show y ∈ ((n, (pgR L n).1) :: C.K).take C.sz from hy)) with rfl | hy
      · have : 0 ≤ n ∧ n < (L.length : Int) := by
          apply Classical.byContradiction
          intro hn
          unfold pgR at c
          rw [if_neg hn] at c
          cases c
        refine ⟨this.1, ?_⟩
        show L[n.toNat]? = some (pgR L n).1
        unfold pgR
        rw [if_pos this, List.getD_eq_getElem?_getD, List.getElem?_eq_getElem (by omega)]; rfl
      · exact hg y hy
    · rw [if_neg c]
      refine ⟨?_, hg⟩
      unfold pgR at c ⊢
      by_cases hn : 0 ≤ n ∧ n < (L.length : Int)
      · rw [if_pos hn] at c; exact absurd rfl c
      · rw [if_neg hn]
/-- a cache and its pager -/
structure CP (B : Nat) (w : World) (c q mb p b : Nat) (v u : Value) (C : Ca) (E : List (Nat × Ch)) (G : Pg) (D : Dv) : Prop where
  ca : CaAt B w c q mb C E
  pg : PgAt B w q p b v u G D
  ap : ∀ k, fpA c mb E k → ¬ fpP q p b v u k
def fpX (c q mb p b : Nat) (v u : Value) (E : List (Nat × Ch)) : Nat → Prop := fun k => fpA c mb E k ∨ fpP q p b v u k
section
variable {B : Nat} {W w w' : World} {c q mb p b : Nat} {v u : Value} {C : Ca} {E : List (Nat × Ch)} {G : Pg} {D : Dv} {Q : Value → World → Prop}
theorem CP.below (h : CP B w c q mb p b v u C E G D) (hb : Below w.heap.size w w') : CP B w' c q mb p b v u C E G D := ⟨h.ca.below hb, h.pg.below hb, h.ap⟩
theorem CP.chg {S : Nat → Prop} (h : CP B w c q mb p b v u C E G D) (hc : ChgS S w w') (hS : ∀ k, fpX c q mb p b v u E k → ¬ S k) : CP B w' c q mb p b v u C E G D := ⟨h.ca.chg hc fun k hk => hS k (.inl hk), h.pg.chg hc fun k hk => hS k (.inr hk), h.ap⟩
theorem CP.fpB (h : CP B w c q mb p b v u C E G D) : ∀ k, fpX c q mb p b v u E k → B ≤ k := by
  rintro k (hk | hk)
  · exact h.ca.fpB k hk
  · exact h.pg.fpB k hk
theorem CP.lt (h : CP B w c q mb p b v u C E G D) : ∀ k, fpX c q mb p b v u E k → k < w.heap.size := by
  rintro k (hk | hk)
  · exact h.ca.lt k hk
  · exact h.pg.lt k hk
theorem CP.read {n : Int} (h : CP B w c q mb p b v u C E G D) (h0 : 0 ≤ C.h) (h1 : C.h ≤ 1000000) (m0 : 0 ≤ C.m) (m1 : C.m ≤ 1000000)
    (kk : ∀ w' E', CP B w' c q mb p b v u (rdC C G.L n).2 E' G D → ChgS (fpX c q mb p b v u E) w w' → (∀ k, fpX c q mb p b v u E' k → fpX c q mb p b v u E k ∨ w.heap.size ≤ k) → Q (.tuple #[.string (rdC C G.L n).1.1, .int .i64 (rdC C G.L n).1.2]) w') : f32 (pv c) (.int .i64 n) w Q := by
  refine f32_s h.ca h.pg.hq h.pg.hu h0 h1 m0 m1 fun w' E' hc' hg hk => ?_
  refine kk w' E' ⟨hc', h.pg.chg hg fun k hp hn => h.ap k hn hp, fun k hk' hp => ?_⟩ (hg.mono fun k hk => .inl hk) fun k hk' => ?_
  · rcases hk k hk' with hk | hk
    · exact h.ap k hk hp
    · have := h.pg.lt k hp
      omega
  · rcases hk' with hk' | hk'
    · rcases hk k hk' with hk | hk
      · exact .inl (.inl hk)
      · exact .inr hk
    · exact .inl (.inr hk')
theorem cp_new {n : Int} (h : PgAt B w q p b v u G D) (hB : B ≤ w.heap.size) (kk : ∀ w' c mb, CP B w' c q mb p b v u ⟨szN n, [], 0, 0⟩ [] G D → (∀ k, fpA c mb [] k → w.heap.size ≤ k) → Below w.heap.size w w' → Q (pv c) w') : f30 (pv q) (.int .i64 n) w Q := by
  refine f30_s fun w' c mb h1 h2 hc hb => ?_
  have hfp : ∀ k, fpA c mb [] k → w.heap.size ≤ k := hc.fpB
  obtain ⟨f, hm, hr⟩ := hc.rg
  refine kk w' c mb ⟨⟨hc.K, ⟨f, ⟨Nat.le_trans hB hm.cB, fun e he => by simp at he, hm.cb, hm.lk, hm.nd⟩, hr⟩, Nat.le_trans hB hc.mB, hc.mp, hc.nk, hc.le, hc.l64⟩, h.below hb, fun k hk hp => ?_⟩ hfp hb
  have := hfp k hk
  have := h.lt k hp
  omega
theorem inv_new (n : Int) (N : Nat) : CInv ⟨szN n, [], 0, 0⟩ (szN n) N ⟨[], 0, 0⟩ := ⟨rfl, by simp [nums], List.nodup_nil, fun t ht => by simp at ht, rfl, rfl⟩
theorem pgR_ok {L : List ByteArray} {n : Int} (hz : ∀ s ∈ L, s.size = 256) (h : 0 ≤ n ∧ n < (L.length : Int)) : (pgR L n).1.size = 256 ∧ (pgR L n).2 = 0 := by
  unfold pgR
  rw [if_pos h]
  refine ⟨hz _ ?_, rfl⟩
  have hlt : n.toNat < L.length := by omega
  exact List.mem_of_getElem? (getD_some hlt)
theorem sll_own {k : IntKind} {e : TypeId} {v : Value} {l : List Int} {i : Nat} {j : IntKind} {K : Value → M} (h : ownI B e k w v l) (hi : i ≤ l.length) (kk : ∀ v', rdI k w v' (l.take i) → K v' w Q) : sll 1 v none (some (.int j (i : Int))) K w Q := by
  have hrd := ownI_rd h
  obtain ⟨h1, h2⟩ := h
  rcases h2 with ⟨rfl, h0⟩ | ⟨g, cap, cur, rfl, hg, hb, hn, hm, hs, ht⟩
  · have : i = 0 := by omega
    subst this
    refine ⟨none, 0, 0, 0, 0, rfl, ⟨_, _, rfl, by omega, by omega, by omega⟩, rfl, ?_⟩
    exact kk _ ⟨none, 0, by simp, fun i hi => by simp at hi⟩
  · refine ⟨some ⟨g, 0, none⟩, l.length, cap, 0, i, rfl, ⟨_, _, rfl, by omega, by omega, by omega⟩, rfl, ?_⟩
    have ev : (if cap = 0 then some (⟨g, 0, none⟩ : Addr) else (some (⟨g, 0, none⟩ : Addr)).map (·.add (0 * 1))) = some ⟨g, 0, none⟩ := by split <;> simp [add_zero']
    rw [ev, Nat.sub_zero, Nat.sub_zero]
    refine kk _ ⟨some ⟨g, 0, none⟩, cap, by rw [List.length_take, Nat.min_eq_left hi], fun j hj => ?_⟩
    have hj' : j < l.length := by simp at hj; omega
    obtain ⟨p, c, e1, e2⟩ := hrd
    obtain ⟨a, ha, hc⟩ := e2 j hj'
    cases e1
    cases ha
    exact ⟨_, rfl, by rw [hc]; simp⟩
end
end Go.Proofs.YtongpnolikkknaaDoor

set_option maxRecDepth 20000
set_option maxHeartbeats 4000000
namespace Go.Proofs.YtongpnolikkknaaDoor
open Sh RowKit Go.MapKept
theorem lit5 (a b c d e : Int) (w : World) : (Instr.buildSlice 22 5 #[(0, .int .i64 a), (1, .int .i64 b), (2, .int .i64 c), (3, .int .i64 d), (4, .int .i64 e)]).run Tryd.prog w = .ok (.slice (some ⟨w.heap.size, 0, none⟩) 5 5) (psh w (.cells #[.int .i64 a, .int .i64 b, .int .i64 c, .int .i64 d, .int .i64 e] 3)) := by
  kernel_rfl
theorem rdI_five {w : World} {g : Nat} {a b c d e : Int} {t : TypeId} {fr : Nat × Nat} (h : w.heap[g]? = some (.cells #[.int .i64 a, .int .i64 b, .int .i64 c, .int .i64 d, .int .i64 e] t fr)) : rdI .i64 w (.slice (some ⟨g, 0, none⟩) 5 5) [a, b, c, d, e] := by
  refine ⟨some ⟨g, 0, none⟩, 5, rfl, fun i hi => ⟨_, rfl, ?_⟩⟩
  have hi : i < 5 := hi
  rw [add_lit, Nat.zero_add, cell_of_blk h]
  rcases (by omega : i = 0 ∨ i = 1 ∨ i = 2 ∨ i = 3 ∨ i = 4) with rfl | rfl | rfl | rfl | rfl <;> rfl
theorem rep_256 (m : Nat) : ∀ s ∈ List.replicate m (zs 256), s.size = 256 := fun s hs => by rw [List.eq_of_mem_replicate hs]; exact zs_size 256
section
variable {B : Nat} {W w w' : World} {c q mb p b : Nat} {v u vr vs : Value} {C : Ca} {E : List (Nat × Ch)} {G : Pg} {D : Dv} {Q : Value → World → Prop}
theorem lives7_loop {R : List Int} {sz g0 : Nat} {o : Obj} {w0 : World} (hR : ∀ w : World, w.heap[g0]? = some o → rdI .i64 w vr R) (hR4 : ∀ x ∈ R, 0 ≤ x ∧ x < (G.L.length : Int)) (hRl : R.length ≤ 100) (hz : ∀ s ∈ G.L, s.size = 256) : ∀ (d m i : Nat) (w : World) (C : Ca) (E : List (Nat × Ch)) (s : Stk), i + d = R.length → d < m → CP w0.heap.size w c q mb p b v u C E G D → w.heap[g0]? = some o → ¬ fpX c q mb p b v u E g0 → CInv C sz G.L.length s → Good C G.L → (0 ≤ s.h ∧ s.h ≤ i ∧ 0 ≤ s.m ∧ s.m ≤ i) → Below w0.heap.size w0 w →
    (∀ w' C' E', CP w0.heap.size w' c q mb p b v u C' E' G D → CInv C' sz G.L.length ((R.drop i).foldl (stp sz G.L.length) s) → Below w0.heap.size w0 w' → f28_j1 (pv c) w' Q) →
    itr (fun _ _ _ => bot) (f28_b2 f28_j1) m (pv c) vr (.int .i64 ((i : Nat) : Int)) w Q := by
  intro d
  induction d with
  | zero =>
    intro m i w C E s hi hm hc hk hnk hs hg hbd hb kk
    obtain ⟨m, rfl⟩ : ∃ x, m = x + 1 := ⟨m - 1, by omega⟩
    show f28_b2 f28_j1 _ _ _ _ w Q
    unfold f28_b2
    have lr := rdI_lnl (hR w hk)
    have cc : ¬ (i : Int) < (R.length : Nat) := by omega
    try simp only [↓reduceIte, ↓LL, LM, Value.cells, Nat.reduceAdd, Option.some.injEq, exists_eq_left', decide_true, decide_false, if_true, if_false, reduceCtorEq, cond_true, cond_false, lr, cc]
    rw [List.drop_of_length_le (by omega)] at kk
    exact kk w C E hc hs hb
  | succ d ih =>
    intro m i w C E s hi hm hc hk hnk hs hg hbd hb kk
    obtain ⟨m, rfl⟩ : ∃ x, m = x + 1 := ⟨m - 1, by omega⟩
    show f28_b2 f28_j1 _ _ _ _ w Q
    unfold f28_b2
    have lr := rdI_lnl (hR w hk)
    have cc : (i : Int) < (R.length : Nat) := by omega
    have hil : i < R.length := by omega
    have h3 : IntKind.i64.wrap ((i : Int) + 1) = ((i + 1 : Nat) : Int) := by rw [w64 (by omega) (by omega)]; rfl
    obtain ⟨aad, hcl, hia⟩ := rdI_at (hR w hk) hil
    have hin := hR4 _ (List.getElem_mem hil)
    have hdr : R.drop i = R[i] :: R.drop (i + 1) := List.drop_eq_getElem_cons hil
    rw [hdr] at kk
    generalize R[i] = n at *
    try simp only [↓reduceIte, ↓LL, LM, Value.cells, Nat.reduceAdd, Option.some.injEq, exists_eq_left', decide_true, decide_false, if_true, if_false, reduceCtorEq, cond_true, cond_false, lr, cc, hia, hcl]
    have hh := hs.h
    have hmm := hs.m
    refine hc.read (by omega) (by omega) (by omega) (by omega) fun w2 E2 hc2 hg2 hk2 => ?_
    obtain ⟨i1, i2⟩ := hs.stp n
    obtain ⟨g1, g2⟩ := hg.rd (n := n)
    obtain ⟨p1, p2⟩ := pgR_ok hz hin
    rw [g1]
    generalize (pgR G.L n).1 = t at *
    have e2 : (pgR G.L n).2 = 0 := p2
    have p1' : ((t.size : Nat) : Int) = 256 := by omega
    try simp only [↓reduceIte, ↓LL, LM, Value.cells, Nat.reduceAdd, Option.some.injEq, exists_eq_left', decide_true, decide_false, if_true, if_false, reduceCtorEq, cond_true, cond_false, get0, get1, ne_eq, e2, p1', h3]
    refine ih m (i + 1) w2 _ E2 _ (by omega) (by omega) hc2 (hg2.keep hk hnk) (fun hn => (hk2 g0 hn).elim hnk fun h => by have := blk_lt hk; omega) i1 g2 (stp_bd hbd) (hb.trans (hg2.below (fun k hk => hc.fpB k hk) hb.size)) kk
theorem f28_s (kk : ∀ w', Below w.heap.size w w' → Q (.bool true) w') : f28 w Q := by
  unfold f28
  refine f31_s (n := 4) (by decide) (by decide) fun w1 q p b v u h1 b1 => ?_
  try simp only [↓reduceIte, ↓LL, LM, Value.cells, Nat.reduceAdd, Option.some.injEq, exists_eq_left', decide_true, decide_false, if_true, if_false, reduceCtorEq, cond_true, cond_false]
  refine cp_new (n := 2) h1 b1.size fun w2 c mb h2 _ b2 => ?_
  have b02 := bt b1 b2
  try simp only [↓reduceIte, ↓LL, LM, Value.cells, Nat.reduceAdd, Option.some.injEq, exists_eq_left', decide_true, decide_false, if_true, if_false, reduceCtorEq, cond_true, cond_false]
  rw [pn_eq ptK]
  try simp only [↓reduceIte, ↓LL, LM, Value.cells, Nat.reduceAdd, Option.some.injEq, exists_eq_left', decide_true, decide_false, if_true, if_false, reduceCtorEq, cond_true, cond_false, Option.isNone]
  refine ⟨_, _, lit5 1 2 1 3 1 w2, ?_⟩
  have b3 := b_psh w2 (.cells #[.int .i64 1, .int .i64 2, .int .i64 1, .int .i64 3, .int .i64 1] 3)
  have k3 := blk_psh_new (w := w2) (o := .cells #[.int .i64 1, .int .i64 2, .int .i64 1, .int .i64 3, .int .i64 1] 3)
  have h3 := h2.below b3
  try simp only [↓reduceIte, ↓LL, LM, Value.cells, Nat.reduceAdd, Option.some.injEq, exists_eq_left', decide_true, decide_false, if_true, if_false, reduceCtorEq, cond_true, cond_false]
  generalize psh w2 (.cells #[.int .i64 1, .int .i64 2, .int .i64 1, .int .i64 3, .int .i64 1] 3) = w3 at *
  have b03 := bt b02 b3
  have hin := inv_new 2 (List.replicate 4 (zs 256)).length
  have hsz : szN 2 = 2 := by decide
  rw [hsz] at h3 hin
  have hgd : Good ⟨2, [], 0, 0⟩ (List.replicate 4 (zs 256)) := fun x hx => by simp at hx
  refine ⟨_, lives7_loop (w0 := w) (R := [1, 2, 1, 3, 1]) (g0 := w2.heap.size) (fun w h => rdI_five h) (by
      intro x hx
      simp only [List.mem_cons, List.mem_nil_iff, or_false, List.length_replicate] at hx ⊢
      omega) (by decide) (rep_256 4) 5 6 0 w3 _ [] ⟨[], 0, 0⟩ rfl (by decide) h3 k3 (fun hn => by have := h2.lt _ hn; omega) hin hgd ⟨Int.le_refl 0, Int.le_refl 0, Int.le_refl 0, Int.le_refl 0⟩ b03 fun w4 C4 E4 h4 i4 b4 => ?_⟩
  have es : ([1, 2, 1, 3, 1] : List Int).foldl (stp 2 (List.replicate 4 (zs 256)).length) ⟨[], 0, 0⟩ = ⟨[1, 3, 2], 2, 3⟩ := by rw [List.length_replicate]; rfl
  rw [List.drop_zero, es] at i4
  have eT := i4.T
  have eh : C4.h = 2 := i4.h
  have em : C4.m = 3 := i4.m
  unfold f28_j1
  try simp only [↓reduceIte, ↓LL, LM, Value.cells, Nat.reduceAdd, Option.some.injEq, exists_eq_left', decide_true, decide_false, if_true, if_false, reduceCtorEq, cond_true, cond_false]
  refine f34_s h4.ca ?_
  rw [eh]
  try simp only [↓reduceIte, ↓LL, LM, Value.cells, Nat.reduceAdd, Option.some.injEq, exists_eq_left', decide_true, decide_false, if_true, if_false, reduceCtorEq, cond_true, cond_false]
  refine f35_s h4.ca ?_
  rw [em]
  try simp only [↓reduceIte, ↓LL, LM, Value.cells, Nat.reduceAdd, Option.some.injEq, exists_eq_left', decide_true, decide_false, if_true, if_false, reduceCtorEq, cond_true, cond_false]
  refine f33_s h4.ca fun w5 v5 b5 o5 => ?_
  have b05 := bt b4 b5
  rw [eT] at o5
  try simp only [↓reduceIte, ↓LL, LM, Value.cells, Nat.reduceAdd, Option.some.injEq, exists_eq_left', decide_true, decide_false, if_true, if_false, reduceCtorEq, cond_true, cond_false]
  refine ⟨_, _, lit22 1 3 w5, ?_⟩
  have b6 := b_psh w5 (.cells #[.int .i64 1, .int .i64 3] 3)
  have k6 := blk_psh_new (w := w5) (o := .cells #[.int .i64 1, .int .i64 3] 3)
  try simp only [↓reduceIte, ↓LL, LM, Value.cells, Nat.reduceAdd, Option.some.injEq, exists_eq_left', decide_true, decide_false, if_true, if_false, reduceCtorEq, cond_true, cond_false]
  generalize psh w5 (.cells #[.int .i64 1, .int .i64 3] 3) = w6 at *
  refine f17_s (l := [1, 3]) (l2 := [1, 3]) (rdP_rd (ownI_rdP (ownI_below o5 b6))) (rdI_two k6) (by decide) fun w7 b7 => ?_
  have h7 := ((h4.below b5).below b6).below b7
  try simp only [↓reduceIte, ↓LL, LM, Value.cells, Nat.reduceAdd, Option.some.injEq, exists_eq_left', decide_true, decide_false, if_true, if_false, reduceCtorEq, cond_true, cond_false]
  refine f63_s h7.ca h7.pg.hq h7.pg.hu ?_
  try simp only [↓reduceIte, ↓LL, LM, Value.cells, Nat.reduceAdd, Option.some.injEq, exists_eq_left', decide_true, decide_false, if_true, if_false, reduceCtorEq, cond_true, cond_false, List.length_replicate]
  exact kk w7 (bt (bt b05 b6) b7)
end
end Go.Proofs.YtongpnolikkknaaDoor

set_option maxRecDepth 20000
set_option maxHeartbeats 4000000
namespace Go.Proofs.YtongpnolikkknaaDoor
open Sh RowKit Go.MapKept
structure Op7 where
  n : Int
  b : Int
  wr : Bool
def oOp7 : RepT Op7 := fun _ cs x => cs = [.int .i64 x.n, .int .u8 x.b, .bool x.wr] ∧ 0 ≤ x.b ∧ x.b ≤ 255
theorem oOp7_st : Stable oOp7 := fun w w' es x hb h => h
def pgN (n : Int) : Nat := 1 + (um n 30).toNat
theorem pgN_bd (n : Int) : 1 ≤ pgN n ∧ pgN n ≤ 30 := by
  have := um_bd n (show (0 : Int) < 30 by decide)
  unfold pgN
  omega
section
variable {B : Nat} {W w w' : World} {c q mb p b : Nat} {v u vr vs : Value} {C : Ca} {E : List (Nat × Ch)} {G : Pg} {D : Dv} {Q : Value → World → Prop}
theorem f29_s {α : Type} {R : RepT α} {l : List α} (h : rdS 3 R w v l) (kk : ∀ v', rdS 3 R w v' (l.take 300) → Q v' w) : f29 v w Q := by
  unfold f29
  have lv := lnl_S h
  have e : (if (300 : Int) < ((l.length : Nat) : Int) then (300 : Int) else ((l.length : Nat) : Int)) = ((min l.length 300 : Nat) : Int) := by split <;> omega
  try simp only [↓reduceIte, ↓LL, LM, Value.cells, Nat.reduceAdd, Option.some.injEq, exists_eq_left', decide_true, decide_false, if_true, if_false, reduceCtorEq, cond_true, cond_false, lv, e]
  refine sll_S h (k := min l.length 300) (by omega) fun v' hv' => ?_
  try simp only [↓reduceIte, ↓LL, LM, Value.cells, Nat.reduceAdd, Option.some.injEq, exists_eq_left', decide_true, decide_false, if_true, if_false, reduceCtorEq, cond_true, cond_false]
  refine kk v' ?_
  have : l.take (min l.length 300) = l.take 300 := by
    rcases Nat.le_total l.length 300 with c | c
    · rw [Nat.min_eq_left c, List.take_of_length_le (Nat.le_refl _), List.take_of_length_le c]
    · rw [Nat.min_eq_right c]
  rw [← this]
  exact hv'
end
end Go.Proofs.YtongpnolikkknaaDoor

namespace Go.Proofs.YtongpnolikkknaaDoor
open Sh RowKit Go.MapKept
theorem ulO7 : Tryd.prog.underlying 45 = some (.slice 53) := by kernel_rfl
theorem scO7 : isSc Tryd.prog 45 = true := by kernel_rfl
theorem len3 {cs : List Value} (h : cs.length = 3) : ∃ a b c, cs = [a, b, c] := by
  match cs, h with
  | [a, b, c], _ => exact ⟨a, b, c, rfl⟩
theorem op_o7 : Opens Tryd.prog 53 Op7 oOp7 (fun _ => 0) := by
  refine Opens.mono (op_struct Tryd.underlying53 (n := 3) (by kernel_rfl) (opf_cons (n := 1) (by kernel_rfl) (op_int ui) (opf_cons (n := 1) (by kernel_rfl) (op_int uu8) (opf_cons (n := 1) (by kernel_rfl) (op_bool ub) opf_nil)))) ?_
  rintro w cs ⟨a, t, c, ⟨⟩⟩ ⟨hl, ⟨h0, _⟩, ⟨h1, h1'⟩, h2, -⟩
  obtain ⟨c0, c1, c2, rfl⟩ := len3 hl
  have e0 := one_cell (x := c0) h0
  have e1 := one_cell (x := c1) h1
  have e2 := one_cell (x := c2) h2
  have h8 := wf8 h1'
  exact ⟨⟨a, t, c⟩, ⟨by rw [e0, e1, e2], h8.1, h8.2⟩, Nat.zero_le _⟩
/-- a number, two numbers, a script -/
def RiAO : World → List Value → Int × (Int × Int) × List Op7 → Prop := fun W vs x => ∃ v, vs = [.int .i64 x.1, .agg #[.int .i64 x.2.1.1, .int .i64 x.2.1.2], v] ∧ rdS 3 oOp7 W v x.2.2
theorem oaiAO : OpensA Tryd.prog [3, 35, 45] (Int × (Int × Int) × List Op7) RiAO (fun _ => 0) := by
  refine OpensA.mono (oa_one (op_int ui) scI (fun w cs a h => ⟨_, h.1⟩) (oa_agg opA2 ag2 (oa_one (op_slice ulO7 (n := 3) (by kernel_rfl) op_o7) scO7 (fun w cs a h => ⟨_, h.choose_spec.1⟩) oa_nil))) ?_
  rintro W vs ⟨n, a, l, ⟨⟩⟩ ⟨v, r, rfl, ⟨h1, _⟩, cs, r1, rfl, h2, v2, r2, rfl, ⟨v', hv, hr, hl⟩, rfl⟩
  have e1 : cs = #[.int .i64 a.1, .int .i64 a.2] := by rw [← Array.toArray_toList (xs := cs), h2]
  exact ⟨(n, a, l), ⟨v2, by rw [one_cell h1, e1], by rw [one_cell hv]; exact hr⟩, Nat.zero_le _⟩
end Go.Proofs.YtongpnolikkknaaDoor

set_option maxRecDepth 20000
set_option maxHeartbeats 4000000
namespace Go.Proofs.YtongpnolikkknaaDoor
open Sh RowKit Go.MapKept
/-- the smaller's beside the larger's -/
def Rel2 (sa sb : Stk) : Prop := sa.T = sb.T ∧ sa.h ≤ sb.h ∧ sa.h + sa.m = sb.h + sb.m
theorem Rel2.stp {few more N : Nat} {sa sb : Stk} (h : Rel2 sa sb) (hfm : few ≤ more) (n : Int) : Rel2 (stp few N sa n) (stp more N sb n) := by
  obtain ⟨h1, h2, h3⟩ := h
  unfold Go.Proofs.YtongpnolikkknaaDoor.stp
  by_cases c : 0 ≤ n ∧ n < (N : Int)
  · rw [if_pos c, if_pos c]
    have hsub : n ∈ sa.T.take few → n ∈ sb.T.take more := fun hn => by
      rw [h1] at hn
      obtain ⟨i, hi, he⟩ := List.mem_take_iff_getElem.1 hn
      exact List.mem_take_iff_getElem.2 ⟨i, by omega, he⟩
    refine ⟨by simp only; rw [h1], ?_, ?_⟩
    · simp only
      by_cases c1 : n ∈ sa.T.take few
      · rw [if_pos c1, if_pos (hsub c1)]; omega
      · rw [if_neg c1]; split <;> omega
    · simp only
      split <;> split <;> omega
  · rw [if_neg c, if_neg c]
    exact ⟨h1, h2, h3⟩
theorem take_pre {T : List Int} {few more : Nat} (h : few ≤ more) : (T.take few).length ≤ (T.take more).length ∧ (T.take more).take (T.take few).length = T.take few := by
  refine ⟨by rw [List.length_take, List.length_take]; omega, ?_⟩
  rw [List.take_take, List.length_take]
  rcases Nat.le_total few T.length with c | c
  · rw [Nat.min_eq_left c, Nat.min_eq_left h]
  · rw [Nat.min_eq_right c, List.take_of_length_le c]
    rw [Nat.min_eq_left (by omega), List.take_of_length_le (Nat.le_refl _)]
section
variable {B : Nat} {W w w' : World} {c q mb p b c' q' mb' p' b' : Nat} {v u v' u' vr vs : Value} {C : Ca} {E : List (Nat × Ch)} {G G' : Pg} {D D' : Dv} {Q : Value → World → Prop}
theorem more_loop {l : List Op7} {few more : Nat} (hl : rdS 3 oOp7 W vs l) (hl3 : l.length ≤ 300) (hfm : few ≤ more) (hm64 : more ≤ 64) (hN : G.L.length = G'.L.length) : ∀ (d m i : Nat) (w : World) (C C' : Ca) (E E' : List (Nat × Ch)) (s s' : Stk), i + d = l.length → d < m → CP W.heap.size w c q mb p b v u C E G D → CP W.heap.size w c' q' mb' p' b' v' u' C' E' G' D' → (∀ k, fpX c q mb p b v u E k → ¬ fpX c' q' mb' p' b' v' u' E' k) →
    CInv C few G.L.length s → CInv C' more G'.L.length s' → Rel2 s s' → (0 ≤ s.h ∧ s.h ≤ i ∧ 0 ≤ s.m ∧ s.m ≤ i) → (0 ≤ s'.h ∧ s'.h ≤ i ∧ 0 ≤ s'.m ∧ s'.m ≤ i) → Below W.heap.size W w →
    (∀ w', Below W.heap.size W w' → Q (.bool true) w') →
    itr (fun _ _ _ _ => bot) (f9_b2 f9_j1) m vs (pv c) (pv c') (.int .i64 ((i : Nat) : Int)) w Q := by
  intro d
  induction d with
  | zero =>
    intro m i w C C' E E' s s' hi hm hc hc' hap hs hs' hrel hbd hbd' hb kk
    obtain ⟨m, rfl⟩ : ∃ x, m = x + 1 := ⟨m - 1, by omega⟩
    show f9_b2 f9_j1 _ _ _ _ _ w Q
    unfold f9_b2
    have lv := lnl_S hl
    have cc : ¬ (i : Int) < (l.length : Nat) := by omega
    try simp only [↓reduceIte, ↓LL, LM, Value.cells, Nat.reduceAdd, Option.some.injEq, exists_eq_left', decide_true, decide_false, if_true, if_false, reduceCtorEq, cond_true, cond_false, lv, cc]
    unfold f9_j1
    try simp only [↓reduceIte, ↓LL, LM, Value.cells, Nat.reduceAdd, Option.some.injEq, exists_eq_left', decide_true, decide_false, if_true, if_false, reduceCtorEq, cond_true, cond_false]
    exact kk w hb
  | succ d ih =>
    intro m i w C C' E E' s s' hi hm hc hc' hap hs hs' hrel hbd hbd' hb kk
    obtain ⟨m, rfl⟩ : ∃ x, m = x + 1 := ⟨m - 1, by omega⟩
    show f9_b2 f9_j1 _ _ _ _ _ w Q
    unfold f9_b2
    have lv := lnl_S hl
    have cc : (i : Int) < (l.length : Nat) := by omega
    have hil : i < l.length := by omega
    have h3 : IntKind.i64.wrap ((i : Int) + 1) = ((i + 1 : Nat) : Int) := by rw [w64 (by omega) (by omega)]; rfl
    obtain ⟨aad, es, he1, he2, ⟨he3, _⟩, hia⟩ := rdS_at hl hil
    have cN : ∀ w', Below W.heap.size W w' → w'.cell? (aad.add 0) = some (.int .i64 l[i].n) := fun w' hb' => cellsAt_below hb' he2 0 _ (by rw [he3]; rfl)
    have c0 := cN w hb
    have hh := hs.h
    have hmm := hs.m
    have hh' := hs'.h
    have hmm' := hs'.m
    try simp only [↓reduceIte, ↓LL, LM, Value.cells, Nat.reduceAdd, Option.some.injEq, exists_eq_left', decide_true, decide_false, if_true, if_false, reduceCtorEq, cond_true, cond_false, lv, cc, hia, c0]
    generalize l[i].n = n at *
    refine hc.read (by omega) (by omega) (by omega) (by omega) fun w2 E2 hc2 hg2 hk2 => ?_
    obtain ⟨i1, i2⟩ := hs.stp n
    have hb2 : Below W.heap.size W w2 := hb.trans (hg2.below (fun k hk => hc.fpB k hk) hb.size)
    have hc2' := hc'.chg hg2 fun k hk hn => hap k hn hk
    have hap2 : ∀ k, fpX c q mb p b v u E2 k → ¬ fpX c' q' mb' p' b' v' u' E' k := fun k hk hn => by
      rcases hk2 k hk with hk | hk
      · exact hap k hk hn
      · have := hc'.lt k hn; omega
    have c02 := cN w2 hb2
    try simp only [↓reduceIte, ↓LL, LM, Value.cells, Nat.reduceAdd, Option.some.injEq, exists_eq_left', decide_true, decide_false, if_true, if_false, reduceCtorEq, cond_true, cond_false, hia, c02]
    refine hc2'.read (by omega) (by omega) (by omega) (by omega) fun w3 E3 hc3' hg3 hk3 => ?_
    obtain ⟨i1', i2'⟩ := hs'.stp n
    have hb3 : Below W.heap.size W w3 := hb2.trans (hg3.below (fun k hk => hc2'.fpB k hk) hb2.size)
    have hc3 := hc2.chg hg3 fun k hk hn => hap2 k hk hn
    have hap3 : ∀ k, fpX c q mb p b v u E2 k → ¬ fpX c' q' mb' p' b' v' u' E3 k := fun k hk hn => by
      rcases hk3 k hn with hn | hn
      · exact hap2 k hk hn
      · have := hc2.lt k hk; omega
    try simp only [↓reduceIte, ↓LL, LM, Value.cells, Nat.reduceAdd, Option.some.injEq, exists_eq_left', decide_true, decide_false, if_true, if_false, reduceCtorEq, cond_true, cond_false]
    refine f33_s hc3.ca fun w4 x b4 ox => ?_
    have hc4 := hc3.below b4
    have hc4' := hc3'.below b4
    have hb4 := bt hb3 b4
    try simp only [↓reduceIte, ↓LL, LM, Value.cells, Nat.reduceAdd, Option.some.injEq, exists_eq_left', decide_true, decide_false, if_true, if_false, reduceCtorEq, cond_true, cond_false]
    refine f33_s hc4'.ca fun w5 y b5 oy => ?_
    have hc5 := hc4.below b5
    have hc5' := hc4'.below b5
    have hb5 := bt hb4 b5
    have ox5 := ownI_below ox b5
    have hT := i1.T
    have hT' := i1'.T
    have hrel2 := hrel.stp (N := G.L.length) hfm n
    rw [hN] at hrel2
    have hTT := hrel2.1
    rw [← hTT] at hT'
    rw [← hN] at hT'
    rw [hT] at ox5
    rw [hT'] at oy
    have hTl : (stp few G'.L.length s n).T = (stp few G.L.length s n).T := by rw [hN]
    generalize hTg : (stp few G.L.length s n).T = T at *
    obtain ⟨pr1, pr2⟩ := take_pre (T := T) hfm
    have lx := rdI_lnl (rdP_rd (ownI_rdP ox5))
    have ly := rdI_lnl (rdP_rd (ownI_rdP oy))
    have g1 : ¬ (((T.take few).length : Nat) : Int) > (((T.take more).length : Nat) : Int) := by omega
    have g1' : ¬ (((T.take more).length : Nat) : Int) < (((T.take few).length : Nat) : Int) := by omega
    try simp only [↓reduceIte, ↓LL, LM, Value.cells, Nat.reduceAdd, Option.some.injEq, exists_eq_left', decide_true, decide_false, if_true, if_false, reduceCtorEq, cond_true, cond_false, lx, ly, g1, g1']
    refine sll_own oy pr1 fun y' hy' => ?_
    rw [pr2] at hy'
    try simp only [↓reduceIte, ↓LL, LM, Value.cells, Nat.reduceAdd, Option.some.injEq, exists_eq_left', decide_true, decide_false, if_true, if_false, reduceCtorEq, cond_true, cond_false]
    have hlen : (T.take few).length ≤ 140737488355328 := by rw [List.length_take]; omega
    refine f17_s (rdP_rd (ownI_rdP ox5)) hy' hlen fun w6 b6 => ?_
    rw [decide_eq_true rfl]
    have hc6 := hc5.below b6
    have hc6' := hc5'.below b6
    have hb6 := bt hb5 b6
    have eh : (rdC C G.L n).2.h = (stp few G.L.length s n).h := i1.h
    have em : (rdC C G.L n).2.m = (stp few G.L.length s n).m := i1.m
    have eh' : (rdC C' G'.L n).2.h = (stp more G'.L.length s' n).h := i1'.h
    have em' : (rdC C' G'.L n).2.m = (stp more G'.L.length s' n).m := i1'.m
    obtain ⟨r1, r2, r3⟩ := hrel2
    rw [← hN] at r2 r3
    rw [← hN] at eh' em'
    have bds := stp_bd (sz := few) (N := G.L.length) (n := n) hbd
    have bds' := stp_bd (sz := more) (N := G.L.length) (n := n) hbd'
    try simp only [↓reduceIte, ↓LL, LM, Value.cells, Nat.reduceAdd, Option.some.injEq, exists_eq_left', decide_true, decide_false, if_true, if_false, reduceCtorEq, cond_true, cond_false]
    refine f34_s hc6.ca ?_
    rw [eh]
    try simp only [↓reduceIte, ↓LL, LM, Value.cells, Nat.reduceAdd, Option.some.injEq, exists_eq_left', decide_true, decide_false, if_true, if_false, reduceCtorEq, cond_true, cond_false]
    refine f34_s hc6'.ca ?_
    rw [eh']
    have g2 : ¬ (stp few G.L.length s n).h > (stp more G.L.length s' n).h := by omega
    have g2' : ¬ (stp more G.L.length s' n).h < (stp few G.L.length s n).h := by omega
    try simp only [↓reduceIte, ↓LL, LM, Value.cells, Nat.reduceAdd, Option.some.injEq, exists_eq_left', decide_true, decide_false, if_true, if_false, reduceCtorEq, cond_true, cond_false, g2, g2']
    refine f34_s hc6.ca ?_
    rw [eh]
    try simp only [↓reduceIte, ↓LL, LM, Value.cells, Nat.reduceAdd, Option.some.injEq, exists_eq_left', decide_true, decide_false, if_true, if_false, reduceCtorEq, cond_true, cond_false]
    refine f35_s hc6.ca ?_
    rw [em]
    try simp only [↓reduceIte, ↓LL, LM, Value.cells, Nat.reduceAdd, Option.some.injEq, exists_eq_left', decide_true, decide_false, if_true, if_false, reduceCtorEq, cond_true, cond_false]
    refine f34_s hc6'.ca ?_
    rw [eh']
    try simp only [↓reduceIte, ↓LL, LM, Value.cells, Nat.reduceAdd, Option.some.injEq, exists_eq_left', decide_true, decide_false, if_true, if_false, reduceCtorEq, cond_true, cond_false]
    refine f35_s hc6'.ca ?_
    rw [em']
    have m1 : IntKind.i64.wrap ((stp few G.L.length s n).h + (stp few G.L.length s n).m) = (stp few G.L.length s n).h + (stp few G.L.length s n).m := w64 (by omega) (by omega)
    have m2 : IntKind.i64.wrap ((stp more G.L.length s' n).h + (stp more G.L.length s' n).m) = (stp few G.L.length s n).h + (stp few G.L.length s n).m := by rw [w64 (by omega) (by omega)]; omega
    try simp only [↓reduceIte, ↓LL, LM, Value.cells, Nat.reduceAdd, Option.some.injEq, exists_eq_left', decide_true, decide_false, if_true, if_false, reduceCtorEq, cond_true, cond_false, m1, m2, h3, ne_eq]
    refine ih m (i + 1) w6 _ _ E2 E3 _ _ (by omega) (by omega) hc6 hc6' hap3 i1 i1' ?_ bds ?_ hb6 kk
    · rw [← hN]
      exact ⟨by rw [← hN] at r1; exact r1, r2, r3⟩
    · rw [← hN]; exact bds'
theorem f9_s {n a0 a1 : Int} {l : List Op7} (hl : rdS 3 oOp7 w vs l) (kk : ∀ w', Below w.heap.size w w' → Q (.bool true) w') : f9 (.int .i64 n) (.agg #[.int .i64 a0, .int .i64 a1]) vs w Q := by
  unfold f9
  have bx1 := b_psh w (.cells (Value.agg #[.int .i64 a0, .int .i64 a1]).cells 35)
  have kx1 := blk_psh_new (w := w) (o := .cells (Value.agg #[.int .i64 a0, .int .i64 a1]).cells 35)
  rw [bx_e]
  generalize psh w (.cells (Value.agg #[.int .i64 a0, .int .i64 a1]).cells 35) = w0 at *
  try simp only [↓reduceIte, ↓LL, LM, Value.cells, Nat.reduceAdd, Option.some.injEq, exists_eq_left', decide_true, decide_false, if_true, if_false, reduceCtorEq, cond_true, cond_false]
  refine f28_s fun w1 b1 => ?_
  have b01 := bt bx1 b1
  have k1 := stay b1 kx1
  have h := um_bd n (show (0 : Int) < 30 by decide)
  have h' := um_bd a0 (show (0 : Int) < 20 by decide)
  have h'' := um_bd a1 (show (0 : Int) < 20 by decide)
  have e1 : (IntKind.u64.wrap n).tmod 30 = um n 30 := rfl
  have e2 : IntKind.i64.wrap (um n 30) = um n 30 := w64 (by omega) (by omega)
  have e3 : IntKind.i64.wrap (1 + um n 30) = ((pgN n : Nat) : Int) := by rw [w64 (by omega) (by omega)]; unfold pgN; omega
  have f1 : (IntKind.u64.wrap a0).tmod 20 = um a0 20 := rfl
  have f2 : IntKind.i64.wrap (um a0 20) = um a0 20 := w64 (by omega) (by omega)
  have f3 : (IntKind.u64.wrap a1).tmod 20 = um a1 20 := rfl
  have f4 : IntKind.i64.wrap (um a1 20) = um a1 20 := w64 (by omega) (by omega)
  have f5 : IntKind.i64.wrap (um a0 20 + um a1 20) = um a0 20 + um a1 20 := w64 (by omega) (by omega)
  have z : ¬ (30 : Int) = 0 := by decide
  have z2 : ¬ (20 : Int) = 0 := by decide
  have k0 : w1.cell? ⟨w.heap.size, 0, none⟩ = some (.int .i64 a0) := by rw [cell_of_blk k1]; rfl
  have k0' : w1.cell? ⟨w.heap.size, 1, none⟩ = some (.int .i64 a1) := by rw [cell_of_blk k1]; rfl
  obtain ⟨p1, p2⟩ := pgN_bd n
  try simp only [↓reduceIte, ↓LL, LM, Value.cells, Nat.reduceAdd, Option.some.injEq, exists_eq_left', decide_true, decide_false, if_true, if_false, reduceCtorEq, cond_true, cond_false, e1, e2, e3, z]
  try refine ⟨by decide, ?_⟩
  try simp only [↓reduceIte, ↓LL, LM, Value.cells, Nat.reduceAdd, Option.some.injEq, exists_eq_left', decide_true, decide_false, if_true, if_false, reduceCtorEq, cond_true, cond_false, e1, e2, e3, z]
  refine f29_s (rdS_below oOp7_st b01 hl) fun vs' hv' => ?_
  try simp only [↓reduceIte, ↓LL, LM, Value.cells, Nat.reduceAdd, Option.some.injEq, exists_eq_left', decide_true, decide_false, if_true, if_false, reduceCtorEq, cond_true, cond_false, iaa0, k0, f1, f2, z2]
  try refine ⟨by decide, ?_⟩
  try simp only [↓reduceIte, ↓LL, LM, Value.cells, Nat.reduceAdd, Option.some.injEq, exists_eq_left', decide_true, decide_false, if_true, if_false, reduceCtorEq, cond_true, cond_false, iaa1, k0', f3, f4, f5, z2]
  try refine ⟨by decide, ?_⟩
  try simp only [↓reduceIte, ↓LL, LM, Value.cells, Nat.reduceAdd, Option.some.injEq, exists_eq_left', decide_true, decide_false, if_true, if_false, reduceCtorEq, cond_true, cond_false, iaa1, k0', f3, f4, f5, z2]
  refine f31_s (n := pgN n) p1 (by omega) fun w2 q p b v u h2 b2 => ?_
  try simp only [↓reduceIte, ↓LL, LM, Value.cells, Nat.reduceAdd, Option.some.injEq, exists_eq_left', decide_true, decide_false, if_true, if_false, reduceCtorEq, cond_true, cond_false]
  refine cp_new (n := um a0 20) h2 b2.size fun w3 c mb h3 hk3 b3 => ?_
  have b03 := bt b2 b3
  try simp only [↓reduceIte, ↓LL, LM, Value.cells, Nat.reduceAdd, Option.some.injEq, exists_eq_left', decide_true, decide_false, if_true, if_false, reduceCtorEq, cond_true, cond_false]
  refine f31_s (n := pgN n) p1 (by omega) fun w4 q' p' b' v' u' h4 b4 => ?_
  have b04 := bt b03 b4
  have h34 := h3.below b4
  try simp only [↓reduceIte, ↓LL, LM, Value.cells, Nat.reduceAdd, Option.some.injEq, exists_eq_left', decide_true, decide_false, if_true, if_false, reduceCtorEq, cond_true, cond_false]
  have hB4 : PgAt w1.heap.size w4 q' p' b' v' u' ⟨List.replicate (pgN n) (zs 256), false, 0⟩ (newD (126 + 4 * pgN n)) := ⟨⟨Nat.le_trans b03.size h4.dev.pB, Nat.le_trans b03.size h4.dev.bB, h4.dev.n, h4.dev.hp, ownE_weak h4.dev.own b03.size, h4.dev.mp⟩, Nat.le_trans b03.size h4.qB, h4.hq, ownV_weak h4.hu b03.size⟩
  refine cp_new (n := um a0 20 + um a1 20) hB4 b04.size fun w5 c' mb' h5 hk5 b5 => ?_
  have b05 := bt b04 b5
  have h35 := h34.below b5
  try simp only [↓reduceIte, ↓LL, LM, Value.cells, Nat.reduceAdd, Option.some.injEq, exists_eq_left', decide_true, decide_false, if_true, if_false, reduceCtorEq, cond_true, cond_false]
  have hap : ∀ k, fpX c q mb p b v u [] k → ¬ fpX c' q' mb' p' b' v' u' [] k := fun k hk hn => by
    have lt3 := h3.lt k hk
    rcases hn with hn | hn
    · have := hk5 k hn
      have := b4.size
      omega
    · have := h4.fpB k hn
      omega
  have hfm : szN (um a0 20) ≤ szN (um a0 20 + um a1 20) := by unfold szN; omega
  exact ⟨_, more_loop (W := w1) (G := ⟨List.replicate (pgN n) (zs 256), false, 0⟩) (G' := ⟨List.replicate (pgN n) (zs 256), false, 0⟩) hv' (by rw [List.length_take]; omega) hfm (szN_64 _) rfl (l.take 300).length ((l.take 300).length + 1) 0 w5 _ _ [] [] ⟨[], 0, 0⟩ ⟨[], 0, 0⟩ (by omega) (by omega) h35 h5 hap (inv_new _ _) (inv_new _ _) ⟨rfl, Int.le_refl 0, rfl⟩ ⟨Int.le_refl 0, Int.le_refl 0, Int.le_refl 0, Int.le_refl 0⟩ ⟨Int.le_refl 0, Int.le_refl 0, Int.le_refl 0, Int.le_refl 0⟩ b05 fun w' hb' => kk w' (bt b01 hb')⟩
end
end Go.Proofs.YtongpnolikkknaaDoor

namespace Go.Proofs.YtongpnolikkknaaDoor
open Go.ChangeShapes Go.WideShapes Go.ChangeAt Go.RowKit
open Sh
def R9 := RiAO
def b9 : Int × (Int × Int) × List Op7 → Nat := fun _ => 0
theorem oa9 : OpensA Tryd.prog [3, 35, 45] (Int × (Int × Int) × List Op7) R9 b9 := oaiAO
theorem law9 (W : World) (vs : List Value) (a : Int × (Int × Int) × List Op7) (h : R9 W vs a) : Calls Tryd.prog 9 vs.toArray W (Rt fun v W' => v = .bool true ∧ Below W.heap.size W W') := by
  obtain ⟨v, rfl, h1⟩ := h
  exact s9 _ _ _ _ _ (f9_s h1 fun w' hb => ⟨rfl, hb⟩)
set_option maxRecDepth 1000000 in
theorem lifted9 (os : Os) (started : os.Started) (H : Type) (enc : TypeId × Value → H) :
    ReturnsInHanded {} Tryd.checked os 9 .any (fun w args => (Rows.cacheMoreSpec.pre enc Tryd.prog Tryd.f9 Rows.cacheMoreRow.domain false w args ∧ laidMetH Tryd.prog Rows.cacheMoreRow.laid w) ∧ sizedMet enc Tryd.prog Tryd.f9 (OpenSpec.ofChange Rows.cacheMoreSpec) false w args) (Rows.cacheMoreSpec.post enc Tryd.prog Tryd.f9 false true false false) := by
  refine law_from_laid (C := Tryd.checked) (X := (fun w _ => laidMetH Tryd.prog Rows.cacheMoreRow.laid w)) (tb := 4) (R := R9) (b := b9) (fun _ _ _ hh h => h.of_heap hh) own started (by kernel_rfl) Tryd.func9
    (ChangeSpec.witness_at (enc := enc) (C := Tryd.checked) (os := os) (X := (fun w _ => laidMetH Tryd.prog Rows.cacheMoreRow.laid w)) false (laidW Tryd.prog Rows.cacheMoreRow.laid os) #[.int .i64 0, .agg #[.int .i64 0, .int .i64 0], .slice none 0 0] 8 rfl (by kernel_rfl) (by kernel_rfl) (by kernel_rfl) (by kernel_rfl) (by kernel_rfl) (laidW_metH os _))
    rfl (by kernel_rfl) (by kernel_rfl) rfl Tryd.underlying4 (fun ds hd => ?_) ?_ law9
  · match ds, hd with
    | [d0, d1, d2], _ => exact ⟨rfl, rfl, rfl⟩
  · show OpensA Tryd.prog Tryd.f9.params.toList _ R9 b9
    rw [Tryd.params9]; exact oa9
theorem cacheMore_row : Rows.CacheMoreSaid :=
  OpenClaim.holds_of_wide 9 Tryd.f9 rfl rfl rfl rfl rfl rfl rfl ⟨rfl, rfl, rfl, rfl, rfl⟩ rfl rfl rfl rfl rfl (by kernel_rfl) Tryd.func9 (by kernel_rfl)
    (of_decide_eq_true (by kernel_rfl)) (by unfold Func.isWrapper; first | (rw [if_pos (by decide +kernel)]; kernel_rfl) | (rw [if_neg (by decide +kernel)]; exact ⟨rfl, rfl⟩))
    (fun os started H enc _ => lifted9 os started H enc)
theorem cacheMore_holds : Rows.CacheMoreCardSaid :=
  Claim7.holds_tied_plain_at .later [] Rows.cacheMoreCard.laidKinds true Rows.cacheMoreCard.stood.harness Rows.cacheMoreCard.stood.looks
    cacheMore_row (fun _ h => by cases h) (by kernel_rfl) (fun _ h => by cases h) cacheMore_row_tie rfl ⟨rfl, rfl⟩ (by kernel_rfl) (by kernel_rfl)
    (fun f fn hf hfn => by
      obtain rfl : f = 9 := Option.some.inj ((show Tryd.prog.funcNamed Rows.cacheMoreRow.func = some 9 by kernel_rfl).symm.trans hf) |>.symm
      obtain rfl : fn = Tryd.f9 := (Option.some.inj (Tryd.func9.symm.trans hfn)).symm
      exact ⟨by kernel_rfl, no_stand (by kernel_rfl)⟩)
    (by kernel_rfl)
#print axioms cacheMore_holds
end Go.Proofs.YtongpnolikkknaaDoor
