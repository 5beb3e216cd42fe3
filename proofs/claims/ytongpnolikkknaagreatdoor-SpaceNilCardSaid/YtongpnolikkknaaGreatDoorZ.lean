/- The call of SpaceNil returns true for every input, and its arguments read behind it as they read before. -/
import Derived.Test.YtongpnolikkknaaGreatDoorZ3
set_option linter.unusedVariables false
set_option linter.unusedSimpArgs false
set_option linter.unusedSectionVars false
set_option maxRecDepth 20000
set_option maxHeartbeats 4000000
namespace Go.Proofs.YtongpnolikkknaaGreatDoor
open Sh RowKit Go.MapKept
theorem ptW : Tryz.prog.underlying 25 = some (.pointer (Tryz.prog.pointee 25)) := by kernel_rfl
theorem KKs : KeyK Tryz.prog 107 3 9 (.int .i64) kI := ⟨by kernel_rfl, by kernel_rfl, fun a => by simp [kI, IsKey], fun a b h => by simpa [kI] using h⟩
structure WkAt (B : Nat) (w : World) (t c mp : Nat) (U : List Nat) (hd : ByteArray) (F : Int → Option ByteArray) (vn : Value) (ov : Bool) : Prop where
  tB : B ≤ t
  mB : B ≤ mp
  hw : w.heap[t]? = some (.cells (wCell c U hd mp vn ov) 113 (0, 0))
  ok : UOk U
  mp : ∃ ML, MapAt kI w mp ML ∧ ∀ n, lk ML n = (F n).map .string
def fpW (t mp : Nat) : Nat → Prop := fun k => k = t ∨ k = mp
section
variable {B : Nat} {w w' : World} {t c mp q mb p b : Nat} {U : List Nat} {hd : ByteArray} {F : Int → Option ByteArray} {vn v u : Value} {ov : Bool} {C : Ca} {E : List (Nat × Ch)} {G : Pg} {D : Dv} {Q : Value → World → Prop}
theorem WkAt.c0 (h : WkAt B w t c mp U hd F vn ov) : w.cell? ⟨t, 0, none⟩ = some (pv c) := by rw [cell_of_blk h.hw]; rfl
theorem WkAt.cu (h : WkAt B w t c mp U hd F vn ov) {n : Nat} (hn : n < 160) : w.cell? ⟨t, 1 + n / 8, none⟩ = some (.int .u8 ((bytN U n : Nat) : Int)) := by rw [cell_of_blk h.hw, wc_u h.ok.len (by omega)]; rfl
theorem WkAt.c22 (h : WkAt B w t c mp U hd F vn ov) : w.cell? ⟨t, 22, none⟩ = some (.map (some mp)) := by rw [cell_of_blk h.hw]; exact wc_r h.ok.len 1
theorem WkAt.c24 (h : WkAt B w t c mp U hd F vn ov) : w.cell? ⟨t, 24, none⟩ = some (.bool ov) := by rw [cell_of_blk h.hw]; exact wc_r h.ok.len 3
theorem WkAt.below (h : WkAt B w t c mp U hd F vn ov) (hb : Below w.heap.size w w') : WkAt B w' t c mp U hd F vn ov := by
  obtain ⟨ML, h1, h2⟩ := h.mp
  exact ⟨h.tB, h.mB, stay hb h.hw, h.ok, ML, h1.below hb, h2⟩
theorem WkAt.chg {S : Nat → Prop} (h : WkAt B w t c mp U hd F vn ov) (hc : ChgS S w w') (hS : ∀ k, fpW t mp k → ¬ S k) : WkAt B w' t c mp U hd F vn ov := by
  obtain ⟨ML, h1, h2⟩ := h.mp
  exact ⟨h.tB, h.mB, hc.keep h.hw (hS t (.inl rfl)), h.ok, ML, h1.stay (hc.block mp h1.lt (hS mp (.inr rfl))), h2⟩
theorem WkAt.tm (h : WkAt B w t c mp U hd F vn ov) : t ≠ mp := by
  obtain ⟨ML, h1, h2⟩ := h.mp
  exact map_ne h1 h.hw
theorem WkAt.lt (h : WkAt B w t c mp U hd F vn ov) : ∀ k, fpW t mp k → k < w.heap.size := by
  obtain ⟨ML, h1, h2⟩ := h.mp
  rintro k (rfl | rfl)
  · exact blk_lt h.hw
  · exact h1.lt
theorem WkAt.fpB (h : WkAt B w t c mp U hd F vn ov) : ∀ k, fpW t mp k → B ≤ k := by
  rintro k (rfl | rfl)
  · exact h.tB
  · exact h.mB
theorem f71_s {n : Nat} (h : WkAt B w t c mp U hd F vn ov) (hn : n < 160) (kk : ∀ w', Below w.heap.size w w' → Q (.bool (isB U n)) w') : f71 (.pointer (some ⟨t, 1, none⟩)) (.int .i64 (n : Int)) w Q := by
  unfold f71
  have d1 := div8 (n := n) (by omega)
  have d2 := mod8 n
  have z8 : ¬ (8 : Int) = 0 := by decide
  have hk : n / 8 < 20 := by omega
  have cu : (drw w).cell? ⟨t, 1 + n / 8, none⟩ = _ := h.cu hn
  have cu' := h.cu hn
  have ia : ∀ (K : Value → M) (w : World) (Q : Value → World → Prop), iaa 20 1 (.pointer (some ⟨t, 1, none⟩)) (.int .i64 ((n / 8 : Nat) : Int)) K w Q = K (.pointer (some ⟨t, 1 + n / 8, none⟩)) w Q := fun K w Q => iaaU hk
  have s8 : ∀ (K : Value → M) (w : World) (Q : Value → World → Prop), shl .u8 .i64 (.int .u8 1) (.int .i64 ((n % 8 : Nat) : Int)) K w Q = K (.int .u8 ((2 ^ (n % 8) : Nat) : Int)) w Q := fun K w Q => shl8 (Nat.mod_lt _ (by decide))
  have a8 : ∀ (K : Value → M) (w : World) (Q : Value → World → Prop), bws .and .u8 (.int .u8 ((bytN U n : Nat) : Int)) (.int .u8 ((2 ^ (n % 8) : Nat) : Int)) K w Q = K (.int .u8 ((bytN U n &&& 2 ^ (n % 8) : Nat) : Int)) w Q := fun K w Q => and8 (bytN_lt h.ok n) (pow_lt8 (Nat.mod_lt _ (by decide)))
  have fin := kk (drw w) ⟨rfl, rfl, rfl, Nat.le_refl _, fun _ _ => rfl⟩
  have ht := and_two (bytN U n) (n % 8)
  cases hb : isB U n with
  | true =>
    rw [hb] at fin
    have hx : ¬ ((bytN U n &&& 2 ^ (n % 8) : Nat) : Int) = 0 := by
      have := ht.2 hb
      omega
    try simp only [↓reduceIte, ↓LL, LM, Value.cells, Nat.reduceAdd, Option.some.injEq, exists_eq_left', decide_true, decide_false, if_true, if_false, reduceCtorEq, cond_true, cond_false, ne_eq, z8, true_and, d1, ia, cu, cu', d2, s8, a8, hx]
    exact fin
  | false =>
    rw [hb] at fin
    have hx : ((bytN U n &&& 2 ^ (n % 8) : Nat) : Int) = 0 := by
      apply Classical.byContradiction
      intro hne
      have : isB U n = true := ht.1 (by omega)
      rw [hb] at this
      cases this
    try simp only [↓reduceIte, ↓LL, LM, Value.cells, Nat.reduceAdd, Option.some.injEq, exists_eq_left', decide_true, decide_false, if_true, if_false, reduceCtorEq, cond_true, cond_false, ne_eq, z8, true_and, d1, ia, cu, cu', d2, s8, a8, hx]
    exact fin
theorem f72_s {n : Nat} (h : WkAt B w t c mp U hd F vn ov) (hn : n < 160) (kk : ∀ w', WkAt B w' t c mp (trnB U n) hd F vn ov → ChgS (fun k => k = t) w w' → Q (.tuple #[]) w') : f72 (.pointer (some ⟨t, 1, none⟩)) (.int .i64 (n : Int)) w Q := by
  unfold f72
  have d1 := div8 (n := n) (by omega)
  have d2 := mod8 n
  have z8 : ¬ (8 : Int) = 0 := by decide
  have hk : n / 8 < 20 := by omega
  have cu : (drw w).cell? ⟨t, 1 + n / 8, none⟩ = _ := h.cu hn
  have cu' := h.cu hn
  have ia : ∀ (K : Value → M) (w : World) (Q : Value → World → Prop), iaa 20 1 (.pointer (some ⟨t, 1, none⟩)) (.int .i64 ((n / 8 : Nat) : Int)) K w Q = K (.pointer (some ⟨t, 1 + n / 8, none⟩)) w Q := fun K w Q => iaaU hk
  have s8 : ∀ (K : Value → M) (w : World) (Q : Value → World → Prop), shl .u8 .i64 (.int .u8 1) (.int .i64 ((n % 8 : Nat) : Int)) K w Q = K (.int .u8 ((2 ^ (n % 8) : Nat) : Int)) w Q := fun K w Q => shl8 (Nat.mod_lt _ (by decide))
  have x8 : ∀ (K : Value → M) (w : World) (Q : Value → World → Prop), bws .xor .u8 (.int .u8 ((bytN U n : Nat) : Int)) (.int .u8 ((2 ^ (n % 8) : Nat) : Int)) K w Q = K (.int .u8 ((bytN U n ^^^ 2 ^ (n % 8) : Nat) : Int)) w Q := fun K w Q => xor8 (bytN_lt h.ok n) (pow_lt8 (Nat.mod_lt _ (by decide)))
  try simp only [↓reduceIte, ↓LL, LM, Value.cells, Nat.reduceAdd, Option.some.injEq, exists_eq_left', decide_true, decide_false, if_true, if_false, reduceCtorEq, cond_true, cond_false, ne_eq, z8, true_and, d1, ia, cu, cu', d2, s8, x8]
  refine st_box (w := drw w) (o := 1 + n / 8) (v := .int .u8 ((bytN U n ^^^ 2 ^ (n % 8) : Nat) : Int)) (show (drw w).heap[t]? = _ from h.hw) (by rw [wc_size h.ok.len]; omega) rfl fun w1 h1 u1 => ?_
  rw [wc_setu h.ok.len hk] at h1
  obtain ⟨ML, m1, m2⟩ := h.mp
  try simp only [↓reduceIte, ↓LL, LM, Value.cells, Nat.reduceAdd, Option.some.injEq, exists_eq_left', decide_true, decide_false, if_true, if_false, reduceCtorEq, cond_true, cond_false]
  exact kk w1 ⟨h.tB, h.mB, h1, trnB_ok h.ok n, ML, m1.stay (u1.block mp h.tm.symm), m2⟩ ((ChgS.of_upd u1 (S := fun k => k = t) rfl).of_drw)
theorem f70_s (h : WkAt B w t c mp U hd F vn ov) (kk : Q (.int .i64 (if ov = true then 13 else 0)) w) : f70 (pv t) w Q := by
  unfold f70
  rw [pn_eq ptW]
  have c24 := h.c24
  cases ov with
  | true =>
    try simp only [↓reduceIte, ↓LL, LM, Value.cells, Nat.reduceAdd, Option.some.injEq, exists_eq_left', decide_true, decide_false, if_true, if_false, reduceCtorEq, cond_true, cond_false, Option.isNone, c24]
    exact kk
  | false =>
    try simp only [↓reduceIte, ↓LL, LM, Value.cells, Nat.reduceAdd, Option.some.injEq, exists_eq_left', decide_true, decide_false, if_true, if_false, reduceCtorEq, cond_true, cond_false, Option.isNone, c24]
    exact kk
theorem f70_n (kk : Q (.int .i64 1) w) : f70 (.pointer none) w Q := by
  unfold f70
  rw [pn_eq ptW]
  try simp only [↓reduceIte, ↓LL, LM, Value.cells, Nat.reduceAdd, Option.some.injEq, exists_eq_left', decide_true, decide_false, if_true, if_false, reduceCtorEq, cond_true, cond_false, Option.isNone]
  exact kk
/-- a piece of work, its cache, its pager -/
structure Wk (B : Nat) (w : World) (t c mp q mb p b : Nat) (v u : Value) (U : List Nat) (hd : ByteArray) (F : Int → Option ByteArray) (vn : Value) (ov : Bool) (C : Ca) (E : List (Nat × Ch)) (G : Pg) (D : Dv) : Prop where
  wk : WkAt B w t c mp U hd F vn ov
  cp : CP B w c q mb p b v u C E G D
  sep : ∀ k, fpX c q mb p b v u E k → ¬ fpW t mp k
theorem Wk.below (h : Wk B w t c mp q mb p b v u U hd F vn ov C E G D) (hb : Below w.heap.size w w') : Wk B w' t c mp q mb p b v u U hd F vn ov C E G D := ⟨h.wk.below hb, h.cp.below hb, h.sep⟩
theorem Wk.pages (h : Wk B w t c mp q mb p b v u U hd F vn ov C E G D) (kk : Q (.int .i64 (G.L.length : Nat)) w) : f28 (pv c) w Q := f28_s h.cp.ca h.cp.pg.hq h.cp.pg.hu kk
def thrB (U : List Nat) (N : Nat) (ov : Bool) (n : Int) : Int := if ov = true then 13 else if 0 < n ∧ n < (N : Int) ∧ isB U n.toNat = true then 0 else 7
theorem f74_s {n : Int} (h : Wk B w t c mp q mb p b v u U hd F vn ov C E G D) (hN : G.L.length ≤ 160) (kk : ∀ w', Below w.heap.size w w' → Q (.int .i64 (thrB U G.L.length ov n)) w') : f74 (pv t) (.int .i64 n) w Q := by
  unfold f74
  try simp only [↓reduceIte, ↓LL, LM, Value.cells, Nat.reduceAdd, Option.some.injEq, exists_eq_left', decide_true, decide_false, if_true, if_false, reduceCtorEq, cond_true, cond_false]
  refine f70_s h.wk ?_
  unfold thrB at kk
  cases ov with
  | true =>
    have z : ¬ (13 : Int) = 0 := by decide
    rw [if_pos rfl] at kk
    try simp only [↓reduceIte, ↓LL, LM, Value.cells, Nat.reduceAdd, Option.some.injEq, exists_eq_left', decide_true, decide_false, if_true, if_false, reduceCtorEq, cond_true, cond_false, ne_eq, z]
    exact kk w (Below.refl _ _)
  | false =>
    rw [if_neg (by decide)] at kk
    have c0 := h.wk.c0
    by_cases c1 : n ≤ 0
    · rw [if_neg (by omega)] at kk
      try simp only [↓reduceIte, ↓LL, LM, Value.cells, Nat.reduceAdd, Option.some.injEq, exists_eq_left', decide_true, decide_false, if_true, if_false, reduceCtorEq, cond_true, cond_false, ne_eq, c1]
      exact kk w (Below.refl _ _)
    · try simp only [↓reduceIte, ↓LL, LM, Value.cells, Nat.reduceAdd, Option.some.injEq, exists_eq_left', decide_true, decide_false, if_true, if_false, reduceCtorEq, cond_true, cond_false, ne_eq, c1, c0]
      refine h.pages ?_
      by_cases c2 : n < (G.L.length : Int)
      · have c2' : ¬ n ≥ ((G.L.length : Nat) : Int) := by omega
        have c2'' : ¬ ((G.L.length : Nat) : Int) ≤ n := by omega
        obtain ⟨n, rfl⟩ := Int.eq_ofNat_of_zero_le (show 0 ≤ n by omega)
        rw [Int.toNat_natCast] at kk
        try simp only [↓reduceIte, ↓LL, LM, Value.cells, Nat.reduceAdd, Option.some.injEq, exists_eq_left', decide_true, decide_false, if_true, if_false, reduceCtorEq, cond_true, cond_false, ne_eq, c2', c2'']
        refine f71_s h.wk (by omega) fun w2 b2 => ?_
        cases hb : isB U n with
        | true =>
          rw [hb, if_pos ⟨by omega, c2, rfl⟩] at kk
          try simp only [↓reduceIte, ↓LL, LM, Value.cells, Nat.reduceAdd, Option.some.injEq, exists_eq_left', decide_true, decide_false, if_true, if_false, reduceCtorEq, cond_true, cond_false]
          exact kk w2 b2
        | false =>
          rw [hb, if_neg (by rintro ⟨_, _, h⟩; cases h)] at kk
          try simp only [↓reduceIte, ↓LL, LM, Value.cells, Nat.reduceAdd, Option.some.injEq, exists_eq_left', decide_true, decide_false, if_true, if_false, reduceCtorEq, cond_true, cond_false]
          exact kk w2 b2
      · have c2' : n ≥ ((G.L.length : Nat) : Int) := by omega
        have c2'' : ((G.L.length : Nat) : Int) ≤ n := by omega
        rw [if_neg (by rintro ⟨_, h, _⟩; exact c2 h)] at kk
        try simp only [↓reduceIte, ↓LL, LM, Value.cells, Nat.reduceAdd, Option.some.injEq, exists_eq_left', decide_true, decide_false, if_true, if_false, reduceCtorEq, cond_true, cond_false, ne_eq, c2', c2'']
        exact kk w (Below.refl _ _)
theorem f74_n {n : Value} (kk : Q (.int .i64 1) w) : f74 (.pointer none) n w Q := by
  unfold f74
  try simp only [↓reduceIte, ↓LL, LM, Value.cells, Nat.reduceAdd, Option.some.injEq, exists_eq_left', decide_true, decide_false, if_true, if_false, reduceCtorEq, cond_true, cond_false]
  refine f70_n ?_
  have z : ¬ (1 : Int) = 0 := by decide
  try simp only [↓reduceIte, ↓LL, LM, Value.cells, Nat.reduceAdd, Option.some.injEq, exists_eq_left', decide_true, decide_false, if_true, if_false, reduceCtorEq, cond_true, cond_false, ne_eq, z]
  exact kk
theorem f73_s {n : Nat} (hn : n ≤ 1000) (kk : ∀ w', Below w.heap.size w w' → Q (.string (zs n)) w') : f73 (.int .i64 (n : Int)) w Q := by
  unfold f73
  refine rep_s hn fun w' hb => ?_
  try simp only [↓reduceIte, ↓LL, LM, Value.cells, Nat.reduceAdd, Option.some.injEq, exists_eq_left', decide_true, decide_false, if_true, if_false, reduceCtorEq, cond_true, cond_false]
  exact kk w' hb
def putF (F : Int → Option ByteArray) (n : Int) (s : ByteArray) : Int → Option ByteArray := fun m => if m = n then some s else F m
theorem WkAt.put {n : Int} {s : ByteArray} {K0 : M} (h : WkAt B w t c mp U hd F vn ov) (kk : ∀ w', WkAt B w' t c mp U hd (putF F n s) vn ov → ChgS (fun k => k = mp) w w' → K0 w' Q) : smu Tryz.prog (Instr.mapUpdate 107 (.map (some mp)) (.int .i64 n) (.string s)) K0 w Q := by
  obtain ⟨ML, h1, h2⟩ := h.mp
  refine upd_map (kv := kI) KKs h1 n (.string s) fun w1 hm1 u1 => kk w1 ⟨h.tB, h.mB, by rw [u1.block t h.tm]; exact h.hw, h.ok, _, hm1, fun m => ?_⟩ (ChgS.of_upd u1 rfl)
  rw [lk_put]
  unfold putF
  by_cases hm : m = n
  · rw [if_pos hm, if_pos hm]; rfl
  · rw [if_neg hm, if_neg hm]; exact h2 m
/-- the lowest page that isn't used -/
theorem take_loop (h : Wk B w t c mp q mb p b v u U hd F vn ov C E G D) (hN : G.L.length ≤ 160)
    (k0 : ∀ n : Nat, 1 ≤ n → n < G.L.length → isB U n = false → (∀ j, 1 ≤ j → j < n → isB U j = true) → ∀ w', Wk B w' t c mp q mb p b v u (trnB U n) hd (putF F ((n : Nat) : Int) (zs 256)) vn ov C E G D → ChgS (fpW t mp) w w' → Q (.tuple #[.int .i64 ((n : Nat) : Int), .int .i64 0]) w')
    (k8 : (∀ j, 1 ≤ j → j < G.L.length → isB U j = true) → ∀ w', Below w.heap.size w w' → Q (.tuple #[.int .i64 0, .int .i64 8]) w') :
    ∀ (d m i : Nat) (w1 : World), i + d = max G.L.length 1 → d < m → 1 ≤ i → Below w.heap.size w w1 → (∀ j, 1 ≤ j → j < i → isB U j = true) → itr (fun _ _ => bot) (f18_b2 f18_j1) m (pv t) (.int .i64 ((i : Nat) : Int)) w1 Q := by
  intro d
  induction d with
  | zero =>
    intro m i w1 hi hm h1 hb hall
    obtain ⟨m, rfl⟩ : ∃ x, m = x + 1 := ⟨m - 1, by omega⟩
    show f18_b2 f18_j1 _ _ _ w1 Q
    unfold f18_b2
    have hw := h.below hb
    have c0 := hw.wk.c0
    try simp only [↓reduceIte, ↓LL, LM, Value.cells, Nat.reduceAdd, Option.some.injEq, exists_eq_left', decide_true, decide_false, if_true, if_false, reduceCtorEq, cond_true, cond_false, c0]
    refine hw.pages ?_
    have cc : ¬ (i : Int) < ((G.L.length : Nat) : Int) := by omega
    try simp only [↓reduceIte, ↓LL, LM, Value.cells, Nat.reduceAdd, Option.some.injEq, exists_eq_left', decide_true, decide_false, if_true, if_false, reduceCtorEq, cond_true, cond_false, cc]
    unfold f18_j1
    try simp only [↓reduceIte, ↓LL, LM, Value.cells, Nat.reduceAdd, Option.some.injEq, exists_eq_left', decide_true, decide_false, if_true, if_false, reduceCtorEq, cond_true, cond_false]
    exact k8 (fun j hj hl => hall j hj (by omega)) w1 hb
  | succ d ih =>
    intro m i w1 hi hm h1 hb hall
    obtain ⟨m, rfl⟩ : ∃ x, m = x + 1 := ⟨m - 1, by omega⟩
    show f18_b2 f18_j1 _ _ _ w1 Q
    unfold f18_b2
    have hw := h.below hb
    have c0 := hw.wk.c0
    have hil : i < G.L.length := by omega
    have cc : (i : Int) < ((G.L.length : Nat) : Int) := by omega
    have h3 : IntKind.i64.wrap ((i : Int) + 1) = ((i + 1 : Nat) : Int) := by rw [w64 (by omega) (by omega)]; rfl
    try simp only [↓reduceIte, ↓LL, LM, Value.cells, Nat.reduceAdd, Option.some.injEq, exists_eq_left', decide_true, decide_false, if_true, if_false, reduceCtorEq, cond_true, cond_false, c0]
    refine hw.pages ?_
    try simp only [↓reduceIte, ↓LL, LM, Value.cells, Nat.reduceAdd, Option.some.injEq, exists_eq_left', decide_true, decide_false, if_true, if_false, reduceCtorEq, cond_true, cond_false, cc]
    refine f71_s hw.wk (by omega) fun w2 b2 => ?_
    have hw2 := hw.below b2
    have hb2 := bt hb b2
    cases hu : isB U i with
    | true =>
      try simp only [↓reduceIte, ↓LL, LM, Value.cells, Nat.reduceAdd, Option.some.injEq, exists_eq_left', decide_true, decide_false, if_true, if_false, reduceCtorEq, cond_true, cond_false, h3]
      exact ih m (i + 1) w2 (by omega) (by omega) (by omega) hb2 fun j hj hl => by
        rcases Nat.lt_or_ge j i with hlt | hge
        · exact hall j hj hlt
        · have : j = i := by omega
          rw [this]; exact hu
    | false =>
      try simp only [↓reduceIte, ↓LL, LM, Value.cells, Nat.reduceAdd, Option.some.injEq, exists_eq_left', decide_true, decide_false, if_true, if_false, reduceCtorEq, cond_true, cond_false]
      refine f72_s hw2.wk (by omega) fun w3 hk3 hg3 => ?_
      have c22 : (drw w3).cell? ⟨t, 22, none⟩ = some (.map (some mp)) := hk3.c22
      have c22' : w3.cell? ⟨t, 22, none⟩ = some (.map (some mp)) := c22
      have hg3W : ChgS (fpW t mp) w w3 := (ChgS.of_below hb2).trans (hg3.mono fun k hk => .inl hk) fun _ _ h => h
      try simp only [↓reduceIte, ↓LL, LM, Value.cells, Nat.reduceAdd, Option.some.injEq, exists_eq_left', decide_true, decide_false, if_true, if_false, reduceCtorEq, cond_true, cond_false, c22, c22']
      refine f73_s (n := 256) (by decide) fun w4 b4 => ?_
      have b4 := of_drw' b4
      have hk4 := hk3.below b4
      try simp only [↓reduceIte, ↓LL, LM, Value.cells, Nat.reduceAdd, Option.some.injEq, exists_eq_left', decide_true, decide_false, if_true, if_false, reduceCtorEq, cond_true, cond_false]
      refine ⟨by rw [Kld_e]; exact hk4.c22, ?_⟩
      refine hk4.put fun w5 hk5 hg5 => ?_
      try simp only [↓reduceIte, ↓LL, LM, Value.cells, Nat.reduceAdd, Option.some.injEq, exists_eq_left', decide_true, decide_false, if_true, if_false, reduceCtorEq, cond_true, cond_false]
      have hgA : ChgS (fpW t mp) w w5 := (hg3W.trans (ChgS.of_below b4) fun _ _ h => h).trans (hg5.mono fun k hk => .inr hk) fun _ _ h => h
      exact k0 i h1 hil hu hall w5 ⟨hk5, h.cp.chg hgA fun k hk hn => h.sep k hk hn, h.sep⟩ hgA
theorem f18_s (h : Wk B w t c mp q mb p b v u U hd F vn ov C E G D) (hN : G.L.length ≤ 160)
    (k13 : ov = true → Q (.tuple #[.int .i64 0, .int .i64 13]) w)
    (k0 : ov = false → ∀ n : Nat, 1 ≤ n → n < G.L.length → isB U n = false → (∀ j, 1 ≤ j → j < n → isB U j = true) → ∀ w', Wk B w' t c mp q mb p b v u (trnB U n) hd (putF F ((n : Nat) : Int) (zs 256)) vn ov C E G D → ChgS (fpW t mp) w w' → Q (.tuple #[.int .i64 ((n : Nat) : Int), .int .i64 0]) w')
    (k8 : ov = false → (∀ j, 1 ≤ j → j < G.L.length → isB U j = true) → ∀ w', Below w.heap.size w w' → Q (.tuple #[.int .i64 0, .int .i64 8]) w') : f18 (pv t) w Q := by
  unfold f18
  try simp only [↓reduceIte, ↓LL, LM, Value.cells, Nat.reduceAdd, Option.some.injEq, exists_eq_left', decide_true, decide_false, if_true, if_false, reduceCtorEq, cond_true, cond_false]
  refine f70_s h.wk ?_
  cases ov with
  | true =>
    have z : ¬ (13 : Int) = 0 := by decide
    try simp only [↓reduceIte, ↓LL, LM, Value.cells, Nat.reduceAdd, Option.some.injEq, exists_eq_left', decide_true, decide_false, if_true, if_false, reduceCtorEq, cond_true, cond_false, ne_eq, z]
    exact k13 rfl
  | false =>
    try simp only [↓reduceIte, ↓LL, LM, Value.cells, Nat.reduceAdd, Option.some.injEq, exists_eq_left', decide_true, decide_false, if_true, if_false, reduceCtorEq, cond_true, cond_false, ne_eq]
    exact ⟨_, take_loop h hN (k0 rfl) (k8 rfl) (max G.L.length 1 - 1) (max G.L.length 1) 1 w (by omega) (by omega) (Nat.le_refl _) (Below.refl _ _) fun j hj hl => by omega⟩
theorem f18_n (kk : Q (.tuple #[.int .i64 0, .int .i64 1]) w) : f18 (.pointer none) w Q := by
  unfold f18
  try simp only [↓reduceIte, ↓LL, LM, Value.cells, Nat.reduceAdd, Option.some.injEq, exists_eq_left', decide_true, decide_false, if_true, if_false, reduceCtorEq, cond_true, cond_false]
  refine f70_n ?_
  have z : ¬ (1 : Int) = 0 := by decide
  try simp only [↓reduceIte, ↓LL, LM, Value.cells, Nat.reduceAdd, Option.some.injEq, exists_eq_left', decide_true, decide_false, if_true, if_false, reduceCtorEq, cond_true, cond_false, ne_eq, z]
  exact kk
theorem f20_s {n : Int} (h : Wk B w t c mp q mb p b v u U hd F vn ov C E G D) (hN : G.L.length ≤ 160)
    (k1 : thrB U G.L.length ov n ≠ 0 → ∀ w', Below w.heap.size w w' → Q (.int .i64 (thrB U G.L.length ov n)) w')
    (k0 : thrB U G.L.length ov n = 0 → ∀ w', Wk B w' t c mp q mb p b v u (trnB U n.toNat) hd F vn ov C E G D → ChgS (fpW t mp) w w' → Q (.int .i64 0) w') : f20 (pv t) (.int .i64 n) w Q := by
  unfold f20
  try simp only [↓reduceIte, ↓LL, LM, Value.cells, Nat.reduceAdd, Option.some.injEq, exists_eq_left', decide_true, decide_false, if_true, if_false, reduceCtorEq, cond_true, cond_false]
  refine f74_s h hN fun w1 b1 => ?_
  by_cases ce : thrB U G.L.length ov n = 0
  · have hth : 0 < n ∧ n < (G.L.length : Int) ∧ isB U n.toNat = true := by
      unfold thrB at ce
      split at ce
      · cases ce
      · split at ce
        · rename_i h; exact h
        · cases ce
    have h1 := h.below b1
    obtain ⟨n, rfl⟩ := Int.eq_ofNat_of_zero_le (show 0 ≤ n by omega)
    rw [Int.toNat_natCast] at k0
    have k0' := k0 ce
    rw [ce]
    try simp only [↓reduceIte, ↓LL, LM, Value.cells, Nat.reduceAdd, Option.some.injEq, exists_eq_left', decide_true, decide_false, if_true, if_false, reduceCtorEq, cond_true, cond_false]
    refine f72_s h1.wk (by omega) fun w2 hk2 hg2 => ?_
    unfold f20_j1
    try simp only [↓reduceIte, ↓LL, LM, Value.cells, Nat.reduceAdd, Option.some.injEq, exists_eq_left', decide_true, decide_false, if_true, if_false, reduceCtorEq, cond_true, cond_false]
    have hg : ChgS (fpW t mp) w w2 := (ChgS.of_below b1).trans (hg2.mono fun k hk => .inl hk) fun _ _ h => h
    exact k0' w2 ⟨hk2, h.cp.chg hg fun k hk hn => h.sep k hk hn, h.sep⟩ hg
  · try simp only [↓reduceIte, ↓LL, LM, Value.cells, Nat.reduceAdd, Option.some.injEq, exists_eq_left', decide_true, decide_false, if_true, if_false, reduceCtorEq, cond_true, cond_false, ce]
    unfold f20_j1
    try simp only [↓reduceIte, ↓LL, LM, Value.cells, Nat.reduceAdd, Option.some.injEq, exists_eq_left', decide_true, decide_false, if_true, if_false, reduceCtorEq, cond_true, cond_false]
    exact k1 ce w1 b1
theorem f20_n {n : Value} (kk : Q (.int .i64 1) w) : f20 (.pointer none) n w Q := by
  unfold f20
  try simp only [↓reduceIte, ↓LL, LM, Value.cells, Nat.reduceAdd, Option.some.injEq, exists_eq_left', decide_true, decide_false, if_true, if_false, reduceCtorEq, cond_true, cond_false]
  refine f74_n ?_
  have z : ¬ (1 : Int) = 0 := by decide
  try simp only [↓reduceIte, ↓LL, LM, Value.cells, Nat.reduceAdd, Option.some.injEq, exists_eq_left', decide_true, decide_false, if_true, if_false, reduceCtorEq, cond_true, cond_false, ne_eq, z]
  unfold f20_j1
  try simp only [↓reduceIte, ↓LL, LM, Value.cells, Nat.reduceAdd, Option.some.injEq, exists_eq_left', decide_true, decide_false, if_true, if_false, reduceCtorEq, cond_true, cond_false]
  exact kk
/-- how many pages from 1 to i - 1 are used -/
def cntB (U : List Nat) : Nat → Nat
  | 0 => 0
  | 1 => 0
  | i + 2 => cntB U (i + 1) + if isB U (i + 1) = true then 1 else 0
theorem cntB_succ (U : List Nat) {i : Nat} (h : 1 ≤ i) : cntB U (i + 1) = cntB U i + if isB U i = true then 1 else 0 := by
  obtain ⟨i, rfl⟩ : ∃ k, i = k + 1 := ⟨i - 1, by omega⟩
  rfl
theorem cntB_le (U : List Nat) : ∀ i, cntB U i ≤ i
  | 0 => Nat.le_refl _
  | 1 => by show 0 ≤ 1; omega
  | i + 2 => by
    have := cntB_le U (i + 1)
    show cntB U (i + 1) + (if isB U (i + 1) = true then 1 else 0) ≤ i + 2
    split <;> omega
theorem used_loop (h : Wk B w t c mp q mb p b v u U hd F vn ov C E G D) (hN : G.L.length ≤ 160) (kk : ∀ w', Below w.heap.size w w' → Q (.int .i64 ((1 + cntB U G.L.length : Nat) : Int)) w') :
    ∀ (d m i : Nat) (w1 : World), i + d = max G.L.length 1 → d < m → 1 ≤ i → Below w.heap.size w w1 → itr (fun _ _ _ => bot) (f19_b2 f19_j1) m (pv t) (.int .i64 ((1 + cntB U i : Nat) : Int)) (.int .i64 ((i : Nat) : Int)) w1 Q := by
  intro d
  induction d with
  | zero =>
    intro m i w1 hi hm h1 hb
    obtain ⟨m, rfl⟩ : ∃ x, m = x + 1 := ⟨m - 1, by omega⟩
    show f19_b2 f19_j1 _ _ _ _ w1 Q
    unfold f19_b2
    have hw := h.below hb
    have c0 := hw.wk.c0
    try simp only [↓reduceIte, ↓LL, LM, Value.cells, Nat.reduceAdd, Option.some.injEq, exists_eq_left', decide_true, decide_false, if_true, if_false, reduceCtorEq, cond_true, cond_false, c0]
    refine hw.pages ?_
    have cc : ¬ (i : Int) < ((G.L.length : Nat) : Int) := by omega
    try simp only [↓reduceIte, ↓LL, LM, Value.cells, Nat.reduceAdd, Option.some.injEq, exists_eq_left', decide_true, decide_false, if_true, if_false, reduceCtorEq, cond_true, cond_false, cc]
    unfold f19_j1
    try simp only [↓reduceIte, ↓LL, LM, Value.cells, Nat.reduceAdd, Option.some.injEq, exists_eq_left', decide_true, decide_false, if_true, if_false, reduceCtorEq, cond_true, cond_false]
    have e : cntB U i = cntB U G.L.length := by
      rcases Nat.lt_or_ge 1 G.L.length with hlt | hge
      · have : i = G.L.length := by omega
        rw [this]
      · have : i = 1 := by omega
        rw [this]
        rcases (by omega : G.L.length = 0 ∨ G.L.length = 1) with e | e <;> rw [e] <;> rfl
    rw [e]
    exact kk w1 hb
  | succ d ih =>
    intro m i w1 hi hm h1 hb
    obtain ⟨m, rfl⟩ : ∃ x, m = x + 1 := ⟨m - 1, by omega⟩
    show f19_b2 f19_j1 _ _ _ _ w1 Q
    unfold f19_b2
    have hw := h.below hb
    have c0 := hw.wk.c0
    have cc : (i : Int) < ((G.L.length : Nat) : Int) := by omega
    have h3 : IntKind.i64.wrap ((i : Int) + 1) = ((i + 1 : Nat) : Int) := by rw [w64 (by omega) (by omega)]; rfl
    have hcl := cntB_le U i
    have hcs := cntB_succ U h1
    have h4 : IntKind.i64.wrap (((1 + cntB U i : Nat) : Int) + 1) = ((1 + cntB U i + 1 : Nat) : Int) := by rw [w64 (by omega) (by omega)]; rfl
    try simp only [↓reduceIte, ↓LL, LM, Value.cells, Nat.reduceAdd, Option.some.injEq, exists_eq_left', decide_true, decide_false, if_true, if_false, reduceCtorEq, cond_true, cond_false, c0]
    refine hw.pages ?_
    try simp only [↓reduceIte, ↓LL, LM, Value.cells, Nat.reduceAdd, Option.some.injEq, exists_eq_left', decide_true, decide_false, if_true, if_false, reduceCtorEq, cond_true, cond_false, cc]
    refine f71_s hw.wk (by omega) fun w2 b2 => ?_
    have hb2 := bt hb b2
    have nx := ih m (i + 1) w2 (by omega) (by omega) (by omega) hb2
    rw [hcs] at nx
    cases hu : isB U i with
    | true =>
      rw [hu, if_pos rfl] at nx
      try simp only [↓reduceIte, ↓LL, LM, Value.cells, Nat.reduceAdd, Option.some.injEq, exists_eq_left', decide_true, decide_false, if_true, if_false, reduceCtorEq, cond_true, cond_false, h4]
      unfold f19_j3
      try simp only [↓reduceIte, ↓LL, LM, Value.cells, Nat.reduceAdd, Option.some.injEq, exists_eq_left', decide_true, decide_false, if_true, if_false, reduceCtorEq, cond_true, cond_false, h3]
      exact nx
    | false =>
      rw [hu, if_neg (by decide)] at nx
      try simp only [↓reduceIte, ↓LL, LM, Value.cells, Nat.reduceAdd, Option.some.injEq, exists_eq_left', decide_true, decide_false, if_true, if_false, reduceCtorEq, cond_true, cond_false]
      unfold f19_j3
      try simp only [↓reduceIte, ↓LL, LM, Value.cells, Nat.reduceAdd, Option.some.injEq, exists_eq_left', decide_true, decide_false, if_true, if_false, reduceCtorEq, cond_true, cond_false, h3]
      exact nx
theorem f19_s (h : Wk B w t c mp q mb p b v u U hd F vn ov C E G D) (hN : G.L.length ≤ 160) (k13 : ov = true → Q (.int .i64 0) w) (kk : ov = false → ∀ w', Below w.heap.size w w' → Q (.int .i64 ((1 + cntB U G.L.length : Nat) : Int)) w') : f19 (pv t) w Q := by
  unfold f19
  try simp only [↓reduceIte, ↓LL, LM, Value.cells, Nat.reduceAdd, Option.some.injEq, exists_eq_left', decide_true, decide_false, if_true, if_false, reduceCtorEq, cond_true, cond_false]
  refine f70_s h.wk ?_
  cases ov with
  | true =>
    have z : ¬ (13 : Int) = 0 := by decide
    try simp only [↓reduceIte, ↓LL, LM, Value.cells, Nat.reduceAdd, Option.some.injEq, exists_eq_left', decide_true, decide_false, if_true, if_false, reduceCtorEq, cond_true, cond_false, ne_eq, z]
    exact k13 rfl
  | false =>
    try simp only [↓reduceIte, ↓LL, LM, Value.cells, Nat.reduceAdd, Option.some.injEq, exists_eq_left', decide_true, decide_false, if_true, if_false, reduceCtorEq, cond_true, cond_false, ne_eq]
    exact ⟨_, used_loop h hN (kk rfl) (max G.L.length 1 - 1) (max G.L.length 1) 1 w (by omega) (by omega) (Nat.le_refl _) (Below.refl _ _)⟩
theorem f19_n (kk : Q (.int .i64 0) w) : f19 (.pointer none) w Q := by
  unfold f19
  try simp only [↓reduceIte, ↓LL, LM, Value.cells, Nat.reduceAdd, Option.some.injEq, exists_eq_left', decide_true, decide_false, if_true, if_false, reduceCtorEq, cond_true, cond_false]
  refine f70_n ?_
  have z : ¬ (1 : Int) = 0 := by decide
  try simp only [↓reduceIte, ↓LL, LM, Value.cells, Nat.reduceAdd, Option.some.injEq, exists_eq_left', decide_true, decide_false, if_true, if_false, reduceCtorEq, cond_true, cond_false, ne_eq, z]
  exact kk
end
end Go.Proofs.YtongpnolikkknaaGreatDoor

set_option maxRecDepth 20000
set_option maxHeartbeats 4000000
namespace Go.Proofs.YtongpnolikkknaaGreatDoor
open Sh RowKit Go.MapKept
theorem buildSt (s : ByteArray) (m : Nat) (w : World) : (Instr.build 110 #[(1, .string s), (2, .map (some m))]).run Tryz.prog w = .ok (.agg #[.int .u8 0, .int .u8 0, .int .u8 0, .int .u8 0, .int .u8 0, .int .u8 0, .int .u8 0, .int .u8 0, .int .u8 0, .int .u8 0, .int .u8 0, .int .u8 0, .int .u8 0, .int .u8 0, .int .u8 0, .int .u8 0, .int .u8 0, .int .u8 0, .int .u8 0, .int .u8 0, .string s, .map (some m)]) w := by
  kernel_rfl
theorem buildWk (c : Nat) (s : ByteArray) (m : Nat) (w : World) : (Instr.build 113 #[(0, pv c), (1, .agg #[.int .u8 0, .int .u8 0, .int .u8 0, .int .u8 0, .int .u8 0, .int .u8 0, .int .u8 0, .int .u8 0, .int .u8 0, .int .u8 0, .int .u8 0, .int .u8 0, .int .u8 0, .int .u8 0, .int .u8 0, .int .u8 0, .int .u8 0, .int .u8 0, .int .u8 0, .int .u8 0, .string s, .map (some m)])]).run Tryz.prog w = .ok (.agg (wCell c (List.replicate 20 0) s m (.slice none 0 0) false)) w := by
  kernel_rfl
def U0 (s : ByteArray) : List Nat := ((byL s).take 20).map Int.toNat
theorem U0_ok {s : ByteArray} (h : s.size = 256) : UOk (U0 s) := by
  refine ⟨by unfold U0; rw [List.length_map, List.length_take, byL_len]; omega, fun x hx => ?_⟩
  obtain ⟨y, hy, rfl⟩ := List.mem_map.1 hx
  have := byL_nn (List.mem_of_mem_take hy)
  omega
theorem U0_map {s : ByteArray} : ((U0 s).map fun (x : Nat) => Value.int .u8 (x : Int)) = ((byL s).take 20).map (.int .u8) := by
  unfold U0
  rw [List.map_map]
  refine List.map_congr_left fun x hx => ?_
  have := byL_nn (List.mem_of_mem_take hx)
  show Value.int .u8 ((x.toNat : Nat) : Int) = _
  rw [Int.toNat_of_nonneg this.1]
theorem wc_copy {c mp : Nat} {s hd : ByteArray} (h : s.size = 256) : (ovl (wCell c (List.replicate 20 0) hd mp (.slice none 0 0) false).toList 1 (((byL s).take 20).map (.int .u8))).toArray = wCell c (U0 s) hd mp (.slice none 0 0) false := by
  have hl : (((byL s).take 20).map (Value.int .u8)).length = 20 := by rw [List.length_map, List.length_take, byL_len]; omega
  unfold ovl
  rw [hl]
  unfold wCell
  rw [U0_map]
  rfl
section
variable {B : Nat} {W w w' : World} {t c mp q mb p b : Nat} {U : List Nat} {hd : ByteArray} {F : Int → Option ByteArray} {vn v u vd : Value} {ov : Bool} {C : Ca} {E : List (Nat × Ch)} {G : Pg} {D : Dv} {Q : Value → World → Prop}
theorem begin_s (h : CP B w c q mb p b v u C E G D) (hg : GoodK C.K G.L) (hz : ∀ s ∈ G.L, s.size = 256) (hL : 1 ≤ G.L.length) (h0 : 0 ≤ C.h) (h1 : C.h ≤ 1000000) (m0 : 0 ≤ C.m) (m1 : C.m ≤ 1000000)
    (kk : ∀ w' t mp E', Wk B w' t c mp q mb p b v u (U0 (G.L.getD 0 ⟨#[]⟩)) ((G.L.getD 0 ⟨#[]⟩).extract 20 (G.L.getD 0 ⟨#[]⟩).size) (fun _ => none) (.slice none 0 0) false (rdC C G.L 0).2 E' G D → GoodK (rdC C G.L 0).2.K G.L → (∀ k, fpX c q mb p b v u E' k → fpX c q mb p b v u E k ∨ w.heap.size ≤ k) → ChgS (fpX c q mb p b v u E) w w' → w.heap.size ≤ t → w.heap.size ≤ mp → Q (.tuple #[pv t, .int .i64 0]) w') : f16 (pv c) w Q := by
  unfold f16
  rw [pn_eq ptK]
  try simp only [↓reduceIte, ↓LL, LM, Value.cells, Nat.reduceAdd, Option.some.injEq, exists_eq_left', decide_true, decide_false, if_true, if_false, reduceCtorEq, cond_true, cond_false, Option.isNone]
  refine h.read h0 h1 m0 m1 fun w2 E2 h2 hg2 hk2 => ?_
  obtain ⟨e1, g1⟩ := Good.rd (C := C) (n := 0) hg
  rw [e1]
  have hlt : 0 < G.L.length := by omega
  have ep : pgR G.L 0 = (G.L.getD 0 ⟨#[]⟩, 0) := by
    unfold pgR
    rw [if_pos ⟨Int.le_refl 0, by omega⟩]; rfl
  have hs : (G.L.getD 0 ⟨#[]⟩).size = 256 := hz _ (List.mem_of_getElem? (getD_some hlt))
  rw [ep]
  generalize G.L.getD 0 ⟨#[]⟩ = s at *
  have z2 : w.heap.size ≤ w2.heap.size := hg2.size
  try simp only [↓reduceIte, ↓LL, LM, Value.cells, Nat.reduceAdd, Option.some.injEq, exists_eq_left', decide_true, decide_false, if_true, if_false, reduceCtorEq, cond_true, cond_false, get0, get1, ne_eq]
  refine sls_from (k := 20) (by omega) ?_
  try simp only [↓reduceIte, ↓LL, LM, Value.cells, Nat.reduceAdd, Option.some.injEq, exists_eq_left', decide_true, decide_false, if_true, if_false, reduceCtorEq, cond_true, cond_false]
  refine mm_map (kv := kI) fun w3 hm3 b3 => ?_
  try simp only [↓reduceIte, ↓LL, LM, Value.cells, Nat.reduceAdd, Option.some.injEq, exists_eq_left', decide_true, decide_false, if_true, if_false, reduceCtorEq, cond_true, cond_false]
  rw [smr_run (buildSt _ _ w3)]
  try simp only [↓reduceIte, ↓LL, LM, Value.cells, Nat.reduceAdd, Option.some.injEq, exists_eq_left', decide_true, decide_false, if_true, if_false, reduceCtorEq, cond_true, cond_false]
  rw [smr_run (buildWk c _ _ w3)]
  have b4 := b_psh w3 (.cells (wCell c (List.replicate 20 0) (s.extract 20 s.size) w2.heap.size (.slice none 0 0) false) 113)
  have k4 := blk_psh_new (w := w3) (o := .cells (wCell c (List.replicate 20 0) (s.extract 20 s.size) w2.heap.size (.slice none 0 0) false) 113)
  try simp only [↓reduceIte, ↓LL, LM, Value.cells, Nat.reduceAdd, Option.some.injEq, exists_eq_left', decide_true, decide_false, if_true, if_false, reduceCtorEq, cond_true, cond_false]
  generalize psh w3 (.cells (wCell c (List.replicate 20 0) (s.extract 20 s.size) w2.heap.size (.slice none 0 0) false) 113) = w4 at *
  have hm4 : MapAt kI w4 w2.heap.size ([] : List (Int × Value)) := hm3.below b4
  have z3 : w2.heap.size < w3.heap.size := hm3.lt
  refine sla_at (by decide) ?_
  have hr := run_copy_cut (P := Tryz.prog) (dT := 42) (sT := 9) (ty := 3) (o := 1) (dLen := 20) (dCap := 20) (s := s) Tryz.underlying42 (by kernel_rfl) k4 (by omega) (by rw [wc_size (by simp)]; omega)
  refine ⟨_, _, hr, ?_⟩
  obtain ⟨u5, k5⟩ := Upd_setRow (cs := (ovl (wCell c (List.replicate 20 0) (s.extract 20 s.size) w2.heap.size (.slice none 0 0) false).toList 1 (((byL s).take 20).map (.int .u8))).toArray) k4
  rw [wc_copy hs] at u5 k5 ⊢
  generalize w4.setRow w3.heap.size (wCell c (U0 s) (s.extract 20 s.size) w2.heap.size (.slice none 0 0) false) = w5 at *
  have b5 : Below w2.heap.size w2 w5 := (bt b3 b4).trans (u5.below (by omega))
  try simp only [↓reduceIte, ↓LL, LM, Value.cells, Nat.reduceAdd, Option.some.injEq, exists_eq_left', decide_true, decide_false, if_true, if_false, reduceCtorEq, cond_true, cond_false]
  have hB : B ≤ w2.heap.size := by
    have := h2.fpB c (.inl (.inl (.inl rfl)))
    have := h2.lt c (.inl (.inl (.inl rfl)))
    omega
  refine kk w5 w3.heap.size w2.heap.size E2 ⟨⟨by omega, hB, k5, U0_ok hs, [], hm4.stay (u5.block _ (by omega)), fun n => rfl⟩, h2.below b5, fun k hk hn => ?_⟩ g1 hk2 (hg2.trans (ChgS.of_below b5) fun _ _ h => h) (by omega) z2
  have := h2.lt k hk
  rcases hn with rfl | rfl <;> omega
theorem f16_n (kk : Q (.tuple #[.pointer none, .int .i64 1]) w) : f16 (.pointer none) w Q := by
  unfold f16
  rw [pn_eq ptK]
  try simp only [↓reduceIte, ↓LL, LM, Value.cells, Nat.reduceAdd, Option.some.injEq, exists_eq_left', decide_true, decide_false, if_true, if_false, reduceCtorEq, cond_true, cond_false, Option.isNone]
  exact kk
theorem f17_s {n : Nat} (h1 : 1 ≤ n) (h2 : n ≤ 160) (kk : ∀ w' c q mb p b v u, CP w.heap.size w' c q mb p b v u ⟨szN 4, [], 0, 0⟩ [] ⟨List.replicate n (zs 256), false, 0⟩ (newD (126 + 4 * n)) → Below w.heap.size w w' → Q (pv c) w') : f17 (.int .i64 ((n : Nat) : Int)) w Q := by
  unfold f17
  refine f39_s ⟨by omega, by omega⟩ ?_
  try simp only [↓reduceIte, ↓LL, LM, Value.cells, Nat.reduceAdd, Option.some.injEq, exists_eq_left', decide_true, decide_false, if_true, if_false, reduceCtorEq, cond_true, cond_false]
  refine f38_s (B := w.heap.size) (126 + 4 * ((n : Nat) : Int)) (k := 126 + 4 * n) (by omega) (Nat.le_refl _) fun w2 p v b pw bw hd hf b2 => ?_
  try simp only [↓reduceIte, ↓LL, LM, Value.cells, Nat.reduceAdd, Option.some.injEq, exists_eq_left', decide_true, decide_false, if_true, if_false, reduceCtorEq, cond_true, cond_false]
  refine open_at (B0 := w.heap.size) hd (Int.le_refl 0) (by show (0 + 200 : Int) ≤ 1000000; decide) (Nat.le_refl _) b2.size (open_new (m := n) (N := 126 + 4 * n) (by omega) (by omega) (by omega)) fun w3 q u q3 h3 _ _ hc3 => ?_
  have b3 := bs b2 (fpD_B hd) b2.size hc3
  try simp only [↓reduceIte, ↓LL, LM, Value.cells, Nat.reduceAdd, Option.some.injEq, exists_eq_left', decide_true, decide_false, if_true, if_false, reduceCtorEq, cond_true, cond_false, get0, get1, ne_eq]
  refine cp_new (n := 4) h3 b3.size fun w4 c mb h4 _ b4 => ?_
  try simp only [↓reduceIte, ↓LL, LM, Value.cells, Nat.reduceAdd, Option.some.injEq, exists_eq_left', decide_true, decide_false, if_true, if_false, reduceCtorEq, cond_true, cond_false]
  exact kk w4 c q mb p b v u h4 (bt b3 b4)
theorem isB_zero {n : Nat} : isB (U0 (zs 256)) n = false := by
  have e : U0 (zs 256) = List.replicate 20 0 := by unfold U0; rw [byL_zs, List.take_replicate, List.map_replicate]; rfl
  have hb : bytN (List.replicate 20 0) n = 0 := by
    unfold bytN
    rw [List.getD_eq_getElem?_getD, List.getElem?_replicate]
    split <;> rfl
  unfold isB
  rw [e, hb, Nat.zero_testBit]
/-- page 1 to k - 1 are used, no others -/
def HU (U : List Nat) (S : Nat → Bool) : Prop := ∀ j, j < 160 → isB U j = S j
theorem HU.trn {S : Nat → Bool} (hu : UOk U) (h : HU U S) {n : Nat} (hn : n < 160) : HU (trnB U n) fun j => if j = n then !S j else S j := by
  intro j hj
  rw [isB_trn hu hn j, h j hj]
theorem f14_s (kk : ∀ w', Below w.heap.size w w' → Q (.bool true) w') : f14 w Q := by
  unfold f14
  refine f17_s (n := 4) (by decide) (by decide) fun w1 c q mb p b v u h1 b1 => ?_
  try simp only [↓reduceIte, ↓LL, LM, Value.cells, Nat.reduceAdd, Option.some.injEq, exists_eq_left', decide_true, decide_false, if_true, if_false, reduceCtorEq, cond_true, cond_false]
  have lN : (List.replicate 4 (zs 256)).length = 4 := rep_len 4
  have eg : (List.replicate 4 (zs 256)).getD 0 ⟨#[]⟩ = zs 256 := rfl
  refine begin_s h1 (fun x hx => by simp at hx) (rep_256 4) (by show 1 ≤ (List.replicate 4 (zs 256)).length; rw [lN]; decide) (Int.le_refl 0) (by decide) (Int.le_refl 0) (by decide) fun w2 t mp E2 h2 _ _ hg2 _ _ => ?_
  have h2 : Wk w.heap.size w2 t c mp q mb p b v u (U0 (zs 256)) ((zs 256).extract 20 (zs 256).size) (fun _ => none) (.slice none 0 0) false _ E2 ⟨List.replicate 4 (zs 256), false, 0⟩ (newD (126 + 4 * 4)) := h2
  have b2 : Below w.heap.size w w2 := b1.trans (hg2.below (fun k hk => h1.fpB k hk) b1.size)
  generalize (zs 256).extract 20 (zs 256).size = hd at *
  generalize (rdC ⟨szN 4, [], 0, 0⟩ (⟨List.replicate 4 (zs 256), false, 0⟩ : Pg).L 0).2 = C2 at *
  try simp only [↓reduceIte, ↓LL, LM, Value.cells, Nat.reduceAdd, Option.some.injEq, exists_eq_left', decide_true, decide_false, if_true, if_false, reduceCtorEq, cond_true, cond_false, get0, get1, ne_eq]
  rw [pn_eq ptW]
  try simp only [↓reduceIte, ↓LL, LM, Value.cells, Nat.reduceAdd, Option.some.injEq, exists_eq_left', decide_true, decide_false, if_true, if_false, reduceCtorEq, cond_true, cond_false, Option.isNone]
  have hN4 : (⟨List.replicate 4 (zs 256), false, 0⟩ : Pg).L.length = 4 := lN
  have u2 : HU (U0 (zs 256)) fun _ => false := fun j _ => isB_zero
  refine f18_s h2 (by rw [hN4]; decide) (fun h => by cases h) (fun _ n n1 n2 nf nall w3 h3 hg3 => ?_) (fun _ hall => by have := hall 1 (by decide) (by rw [hN4]; decide); rw [u2 1 (by decide)] at this; cases this)
  rw [hN4] at n2
  have en : n = 1 := by
    apply Classical.byContradiction
    intro hne
    have := nall 1 (Nat.le_refl _) (by omega)
    rw [u2 1 (by decide)] at this; cases this
  subst en
  have u3 := u2.trn h2.wk.ok (n := 1) (by decide)
  have b3 : Below w.heap.size w w3 := b2.trans (hg3.below (fun k hk => h2.wk.fpB k hk) b2.size)
  try simp only [↓reduceIte, ↓LL, LM, Value.cells, Nat.reduceAdd, Option.some.injEq, exists_eq_left', decide_true, decide_false, if_true, if_false, reduceCtorEq, cond_true, cond_false, get0, get1]
  refine f18_s h3 (by rw [hN4]; decide) (fun h => by cases h) (fun _ n n1 n2 nf nall w4 h4 hg4 => ?_) (fun _ hall => by have := hall 2 (by decide) (by rw [hN4]; decide); rw [u3 2 (by decide)] at this; cases this)
  rw [hN4] at n2
  have en : n = 2 := by
    apply Classical.byContradiction
    intro hne
    rcases (by omega : n = 1 ∨ 2 < n) with h | h
    · rw [h, u3 1 (by decide)] at nf; cases nf
    · have := nall 2 (by decide) h
      rw [u3 2 (by decide)] at this; cases this
  subst en
  have u4 := u3.trn h3.wk.ok (n := 2) (by decide)
  have b4 : Below w.heap.size w w4 := b3.trans (hg4.below (fun k hk => h3.wk.fpB k hk) b3.size)
  try simp only [↓reduceIte, ↓LL, LM, Value.cells, Nat.reduceAdd, Option.some.injEq, exists_eq_left', decide_true, decide_false, if_true, if_false, reduceCtorEq, cond_true, cond_false, get0, get1]
  have et : thrB (trnB (trnB (U0 (zs 256)) 1) 2) (⟨List.replicate 4 (zs 256), false, 0⟩ : Pg).L.length false 1 = 0 := by
    unfold thrB
    have hu1 : isB (trnB (trnB (U0 (zs 256)) 1) 2) (1 : Int).toNat = true := u4 1 (by decide)
    rw [if_neg (by decide), if_pos ⟨by decide, by rw [hN4]; decide, hu1⟩]
  refine f20_s h4 (by rw [hN4]; decide) (fun hne => absurd et hne) (fun _ w5 h5 hg5 => ?_)
  have h5 : Wk w.heap.size w5 t c mp q mb p b v u (trnB (trnB (trnB (U0 (zs 256)) 1) 2) 1) hd _ (.slice none 0 0) false C2 E2 ⟨List.replicate 4 (zs 256), false, 0⟩ (newD (126 + 4 * 4)) := h5
  have u5 := u4.trn h4.wk.ok (n := 1) (by decide)
  have b5 : Below w.heap.size w w5 := b4.trans (hg5.below (fun k hk => h4.wk.fpB k hk) b4.size)
  try simp only [↓reduceIte, ↓LL, LM, Value.cells, Nat.reduceAdd, Option.some.injEq, exists_eq_left', decide_true, decide_false, if_true, if_false, reduceCtorEq, cond_true, cond_false, get0, get1]
  refine f18_s h5 (by rw [hN4]; decide) (fun h => by cases h) (fun _ n n1 n2 nf nall w6 h6 hg6 => ?_) (fun _ hall => by have := hall 1 (by decide) (by rw [hN4]; decide); rw [u5 1 (by decide)] at this; cases this)
  rw [hN4] at n2
  have en : n = 1 := by
    apply Classical.byContradiction
    intro hne
    have := nall 1 (Nat.le_refl _) (by omega)
    rw [u5 1 (by decide)] at this; cases this
  subst en
  have u6 := u5.trn h5.wk.ok (n := 1) (by decide)
  have b6 : Below w.heap.size w w6 := b5.trans (hg6.below (fun k hk => h5.wk.fpB k hk) b5.size)
  have ec : 1 + cntB (trnB (trnB (trnB (trnB (U0 (zs 256)) 1) 2) 1) 1) (⟨List.replicate 4 (zs 256), false, 0⟩ : Pg).L.length = 3 := by
    rw [hN4]
    have q1 := u6 1 (by decide)
    have q2 := u6 2 (by decide)
    have q3 := u6 3 (by decide)
    show 1 + (((0 + if isB _ 1 = true then 1 else 0) + if isB _ 2 = true then 1 else 0) + if isB _ 3 = true then 1 else 0) = 3
    rw [q1, q2, q3]
    rfl
  have z1 : ((1 : Nat) : Int) = 1 := rfl
  have z2 : ((2 : Nat) : Int) = 2 := rfl
  try simp only [↓reduceIte, ↓LL, LM, Value.cells, Nat.reduceAdd, Option.some.injEq, exists_eq_left', decide_true, decide_false, if_true, if_false, reduceCtorEq, cond_true, cond_false, get0, get1, z1, z2]
  refine f19_s h6 (by rw [hN4]; decide) (fun h => by cases h) fun _ w7 b7 => ?_
  rw [ec]
  have z3 : ((3 : Nat) : Int) = 3 := rfl
  try simp only [↓reduceIte, ↓LL, LM, Value.cells, Nat.reduceAdd, Option.some.injEq, exists_eq_left', decide_true, decide_false, if_true, if_false, reduceCtorEq, cond_true, cond_false, z1, z2, z3]
  exact kk w7 (bt b6 b7)
theorem f65_n {n : Value} (kk : Q (.tuple #[.string ⟨#[]⟩, .int .i64 1]) w) : f65 (.pointer none) n w Q := by
  unfold f65
  try simp only [↓reduceIte, ↓LL, LM, Value.cells, Nat.reduceAdd, Option.some.injEq, exists_eq_left', decide_true, decide_false, if_true, if_false, reduceCtorEq, cond_true, cond_false]
  refine f74_n ?_
  have z : ¬ (1 : Int) = 0 := by decide
  try simp only [↓reduceIte, ↓LL, LM, Value.cells, Nat.reduceAdd, Option.some.injEq, exists_eq_left', decide_true, decide_false, if_true, if_false, reduceCtorEq, cond_true, cond_false, ne_eq, z]
  exact kk
theorem f67_n {n s : Value} (kk : Q (.int .i64 1) w) : f67 (.pointer none) n s w Q := by
  unfold f67
  try simp only [↓reduceIte, ↓LL, LM, Value.cells, Nat.reduceAdd, Option.some.injEq, exists_eq_left', decide_true, decide_false, if_true, if_false, reduceCtorEq, cond_true, cond_false]
  refine f74_n ?_
  have z : ¬ (1 : Int) = 0 := by decide
  try simp only [↓reduceIte, ↓LL, LM, Value.cells, Nat.reduceAdd, Option.some.injEq, exists_eq_left', decide_true, decide_false, if_true, if_false, reduceCtorEq, cond_true, cond_false, ne_eq, z]
  exact kk
theorem f68_n {s : Value} (kk : Q (.int .i64 1) w) : f68 (.pointer none) s w Q := by
  unfold f68
  try simp only [↓reduceIte, ↓LL, LM, Value.cells, Nat.reduceAdd, Option.some.injEq, exists_eq_left', decide_true, decide_false, if_true, if_false, reduceCtorEq, cond_true, cond_false]
  refine f70_n ?_
  have z : ¬ (1 : Int) = 0 := by decide
  try simp only [↓reduceIte, ↓LL, LM, Value.cells, Nat.reduceAdd, Option.some.injEq, exists_eq_left', decide_true, decide_false, if_true, if_false, reduceCtorEq, cond_true, cond_false, ne_eq, z]
  exact kk
theorem f66_n {n : Value} (kk : Q (.int .i64 1) w) : f66 (.pointer none) n w Q := by
  unfold f66
  try simp only [↓reduceIte, ↓LL, LM, Value.cells, Nat.reduceAdd, Option.some.injEq, exists_eq_left', decide_true, decide_false, if_true, if_false, reduceCtorEq, cond_true, cond_false]
  refine f70_n ?_
  have z : ¬ (1 : Int) = 0 := by decide
  try simp only [↓reduceIte, ↓LL, LM, Value.cells, Nat.reduceAdd, Option.some.injEq, exists_eq_left', decide_true, decide_false, if_true, if_false, reduceCtorEq, cond_true, cond_false, ne_eq, z]
  exact kk
theorem f69_n (kk : Q (.int .i64 1) w) : f69 (.pointer none) w Q := by
  unfold f69
  try simp only [↓reduceIte, ↓LL, LM, Value.cells, Nat.reduceAdd, Option.some.injEq, exists_eq_left', decide_true, decide_false, if_true, if_false, reduceCtorEq, cond_true, cond_false]
  refine f70_n ?_
  have z : ¬ (1 : Int) = 0 := by decide
  try simp only [↓reduceIte, ↓LL, LM, Value.cells, Nat.reduceAdd, Option.some.injEq, exists_eq_left', decide_true, decide_false, if_true, if_false, reduceCtorEq, cond_true, cond_false, ne_eq, z]
  exact kk
theorem f60_n (kk : Q (.string ⟨#[]⟩) w) : f60 (.pointer none) w Q := by
  unfold f60
  try simp only [↓reduceIte, ↓LL, LM, Value.cells, Nat.reduceAdd, Option.some.injEq, exists_eq_left', decide_true, decide_false, if_true, if_false, reduceCtorEq, cond_true, cond_false]
  refine f70_n ?_
  have z : ¬ (1 : Int) = 0 := by decide
  try simp only [↓reduceIte, ↓LL, LM, Value.cells, Nat.reduceAdd, Option.some.injEq, exists_eq_left', decide_true, decide_false, if_true, if_false, reduceCtorEq, cond_true, cond_false, ne_eq, z]
  exact kk
theorem f64_n (kk : Q (.int .i64 0) w) : f64 (.pointer none) w Q := by
  unfold f64
  try simp only [↓reduceIte, ↓LL, LM, Value.cells, Nat.reduceAdd, Option.some.injEq, exists_eq_left', decide_true, decide_false, if_true, if_false, reduceCtorEq, cond_true, cond_false]
  refine f70_n ?_
  have z : ¬ (1 : Int) = 0 := by decide
  try simp only [↓reduceIte, ↓LL, LM, Value.cells, Nat.reduceAdd, Option.some.injEq, exists_eq_left', decide_true, decide_false, if_true, if_false, reduceCtorEq, cond_true, cond_false, ne_eq, z]
  exact kk
theorem f62_n (kk : Q (.slice none 0 0) w) : f62 (.pointer none) w Q := by
  unfold f62
  try simp only [↓reduceIte, ↓LL, LM, Value.cells, Nat.reduceAdd, Option.some.injEq, exists_eq_left', decide_true, decide_false, if_true, if_false, reduceCtorEq, cond_true, cond_false]
  refine f70_n ?_
  have z : ¬ (1 : Int) = 0 := by decide
  try simp only [↓reduceIte, ↓LL, LM, Value.cells, Nat.reduceAdd, Option.some.injEq, exists_eq_left', decide_true, decide_false, if_true, if_false, reduceCtorEq, cond_true, cond_false, ne_eq, z]
  exact kk
theorem f13_s {n : Int} (kk : ∀ w', Below w.heap.size w w' → Q (.bool true) w') : f13 (.int .i64 n) w Q := by
  unfold f13
  refine f14_s fun w1 b1 => ?_
  try simp only [↓reduceIte, ↓LL, LM, Value.cells, Nat.reduceAdd, Option.some.injEq, exists_eq_left', decide_true, decide_false, if_true, if_false, reduceCtorEq, cond_true, cond_false]
  refine f16_n ?_
  try simp only [↓reduceIte, ↓LL, LM, Value.cells, Nat.reduceAdd, Option.some.injEq, exists_eq_left', decide_true, decide_false, if_true, if_false, reduceCtorEq, cond_true, cond_false, get0, get1]
  refine f65_n ?_
  try simp only [↓reduceIte, ↓LL, LM, Value.cells, Nat.reduceAdd, Option.some.injEq, exists_eq_left', decide_true, decide_false, if_true, if_false, reduceCtorEq, cond_true, cond_false, get0, get1]
  refine f18_n ?_
  try simp only [↓reduceIte, ↓LL, LM, Value.cells, Nat.reduceAdd, Option.some.injEq, exists_eq_left', decide_true, decide_false, if_true, if_false, reduceCtorEq, cond_true, cond_false, get0, get1]
  rw [pn_eq ptW]
  try simp only [↓reduceIte, ↓LL, LM, Value.cells, Nat.reduceAdd, Option.some.injEq, exists_eq_left', decide_true, decide_false, if_true, if_false, reduceCtorEq, cond_true, cond_false, Option.isNone]
  refine f67_n ?_
  try simp only [↓reduceIte, ↓LL, LM, Value.cells, Nat.reduceAdd, Option.some.injEq, exists_eq_left', decide_true, decide_false, if_true, if_false, reduceCtorEq, cond_true, cond_false]
  refine f20_n ?_
  try simp only [↓reduceIte, ↓LL, LM, Value.cells, Nat.reduceAdd, Option.some.injEq, exists_eq_left', decide_true, decide_false, if_true, if_false, reduceCtorEq, cond_true, cond_false]
  refine f68_n ?_
  try simp only [↓reduceIte, ↓LL, LM, Value.cells, Nat.reduceAdd, Option.some.injEq, exists_eq_left', decide_true, decide_false, if_true, if_false, reduceCtorEq, cond_true, cond_false]
  refine f66_n ?_
  try simp only [↓reduceIte, ↓LL, LM, Value.cells, Nat.reduceAdd, Option.some.injEq, exists_eq_left', decide_true, decide_false, if_true, if_false, reduceCtorEq, cond_true, cond_false]
  refine f69_n ?_
  try simp only [↓reduceIte, ↓LL, LM, Value.cells, Nat.reduceAdd, Option.some.injEq, exists_eq_left', decide_true, decide_false, if_true, if_false, reduceCtorEq, cond_true, cond_false]
  refine f60_n ?_
  try simp only [↓reduceIte, ↓LL, LM, Value.cells, Nat.reduceAdd, Option.some.injEq, exists_eq_left', decide_true, decide_false, if_true, if_false, reduceCtorEq, cond_true, cond_false]
  refine f64_n ?_
  try simp only [↓reduceIte, ↓LL, LM, Value.cells, Nat.reduceAdd, Option.some.injEq, exists_eq_left', decide_true, decide_false, if_true, if_false, reduceCtorEq, cond_true, cond_false]
  refine f19_n ?_
  try simp only [↓reduceIte, ↓LL, LM, Value.cells, Nat.reduceAdd, Option.some.injEq, exists_eq_left', decide_true, decide_false, if_true, if_false, reduceCtorEq, cond_true, cond_false]
  refine f62_n ?_
  have z0 : ((0 : Nat) : Int) = 0 := rfl
  try simp only [↓reduceIte, ↓LL, LM, Value.cells, Nat.reduceAdd, Option.some.injEq, exists_eq_left', decide_true, decide_false, if_true, if_false, reduceCtorEq, cond_true, cond_false, z0]
  exact kk w1 b1
end
end Go.Proofs.YtongpnolikkknaaGreatDoor

namespace Go.Proofs.YtongpnolikkknaaGreatDoor
open Go.ChangeShapes Go.WideShapes Go.ChangeAt Go.RowKit
open Sh
def R13 := RI1
def b13 : Int → Nat := fun _ => 0
theorem oa13 : OpensA Tryz.prog [3] Int R13 b13 := oaI1
theorem law13 (W : World) (vs : List Value) (a : Int) (h : R13 W vs a) : Calls Tryz.prog 13 vs.toArray W (Rt fun v W' => v = .bool true ∧ Below W.heap.size W W') := by
  obtain rfl : vs = _ := h
  exact s13 _ _ _ (f13_s fun w' hb => ⟨rfl, hb⟩)
set_option maxRecDepth 1000000 in
theorem lifted13 (os : Os) (started : os.Started) (H : Type) (enc : TypeId × Value → H) :
    ReturnsInHanded {} Tryz.checked os 13 .any (fun w args => (Rows.spaceNilSpec.pre enc Tryz.prog Tryz.f13 Rows.spaceNilRow.domain false w args ∧ laidMetH Tryz.prog Rows.spaceNilRow.laid w) ∧ sizedMet enc Tryz.prog Tryz.f13 (OpenSpec.ofChange Rows.spaceNilSpec) false w args) (Rows.spaceNilSpec.post enc Tryz.prog Tryz.f13 false true false false) := by
  refine law_from_laid (C := Tryz.checked) (X := (fun w _ => laidMetH Tryz.prog Rows.spaceNilRow.laid w)) (tb := 4) (R := R13) (b := b13) (fun _ _ _ hh h => h.of_heap hh) own started (by kernel_rfl) Tryz.func13
    (ChangeSpec.witness_at (enc := enc) (C := Tryz.checked) (os := os) (X := (fun w _ => laidMetH Tryz.prog Rows.spaceNilRow.laid w)) false (laidW Tryz.prog Rows.spaceNilRow.laid os) #[.int .i64 0] 8 rfl (by kernel_rfl) (by kernel_rfl) (by kernel_rfl) (by kernel_rfl) (by kernel_rfl) (laidW_metH os _))
    rfl (by kernel_rfl) (by kernel_rfl) rfl Tryz.underlying4 (fun ds hd => ?_) ?_ law13
  · match ds, hd with
    | [d0], _ => exact ⟨rfl, rfl, rfl⟩
  · show OpensA Tryz.prog Tryz.f13.params.toList _ R13 b13
    rw [Tryz.params13]; exact oa13
theorem spaceNil_row : Rows.SpaceNilSaid :=
  OpenClaim.holds_of_wide 13 Tryz.f13 rfl rfl rfl rfl rfl rfl rfl ⟨rfl, rfl, rfl, rfl, rfl⟩ rfl rfl rfl rfl rfl (by kernel_rfl) Tryz.func13 (by kernel_rfl)
    (of_decide_eq_true (by kernel_rfl)) (by unfold Func.isWrapper; first | (rw [if_pos (by decide +kernel)]; kernel_rfl) | (rw [if_neg (by decide +kernel)]; exact ⟨rfl, rfl⟩))
    (fun os started H enc _ => lifted13 os started H enc)
theorem spaceNil_holds : Rows.SpaceNilCardSaid :=
  Claim7.holds_tied_plain_at .later [] Rows.spaceNilCard.laidKinds true Rows.spaceNilCard.stood.harness Rows.spaceNilCard.stood.looks
    spaceNil_row (fun _ h => by cases h) (by kernel_rfl) (fun _ h => by cases h) spaceNil_row_tie rfl ⟨rfl, rfl⟩ (by kernel_rfl) (by kernel_rfl)
    (fun f fn hf hfn => by
      obtain rfl : f = 13 := Option.some.inj ((show Tryz.prog.funcNamed Rows.spaceNilRow.func = some 13 by kernel_rfl).symm.trans hf) |>.symm
      obtain rfl : fn = Tryz.f13 := (Option.some.inj (Tryz.func13.symm.trans hfn)).symm
      exact ⟨by kernel_rfl, no_stand (by kernel_rfl)⟩)
    (by kernel_rfl)
#print axioms spaceNil_holds
end Go.Proofs.YtongpnolikkknaaGreatDoor
