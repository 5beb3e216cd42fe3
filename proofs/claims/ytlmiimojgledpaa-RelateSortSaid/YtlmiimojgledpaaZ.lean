/- The call of RelateSort returns true for every input, and its arguments read behind it as they read before. -/
import Derived.Test.YtlmiimojgledpaaZ2
set_option linter.unusedVariables false
set_option linter.unusedSimpArgs false
set_option linter.unusedSectionVars false
set_option maxRecDepth 20000
namespace Go.Proofs.Ytlmiimojgledpaa
open Sh RowKit Go.MapKept
section
variable {W w w' : World} {Q : Value → World → Prop}
theorem f17_loop {va vb : Value} {l b : List Row} (h : rdL W va l) (hb' : rdL W vb b) (hl : l.length ≤ 100000) (hlb : b.length ≤ 100000) (hsz : ∀ r ∈ b, r.length ≤ 9223372036854775806) : ∀ (d m i : Nat) (w : World) (u : Value), i + d = l.length → d < m → Below W.heap.size W w → OL W w u ((l.take i).filter (left b)) →
    (∀ w' u', Below W.heap.size W w' → OL W w' u' (l.filter (left b)) → Q u' w') →
    itr (fun _ _ _ _ => bot) (f17_b2 f17_j1) m va vb u (.int .i64 (i : Int)) w Q := by
  intro d
  induction d with
  | zero =>
    intro m i w u hi hm hb ho kk
    obtain ⟨m, rfl⟩ : ∃ x, m = x + 1 := ⟨m - 1, by omega⟩
    show f17_b2 f17_j1 _ _ _ _ _ w Q
    unfold f17_b2
    have c : ¬ (i : Int) < (l.length : Nat) := by omega
    try simp only [↓reduceIte, ↓LL, LM, Value.cells, Nat.reduceAdd, Option.some.injEq, exists_eq_left', decide_true, decide_false, if_true, if_false, reduceCtorEq, cond_true, cond_false, lnl_L h, c]
    unfold f17_j1
    try simp only [↓reduceIte, ↓LL, LM, Value.cells, Nat.reduceAdd, Option.some.injEq, exists_eq_left', decide_true, decide_false, if_true, if_false, reduceCtorEq, cond_true, cond_false]
    rw [List.take_of_length_le (by omega)] at ho
    exact kk w u hb ho
  | succ d ih =>
    intro m i w u hi hm hb ho kk
    obtain ⟨m, rfl⟩ : ∃ x, m = x + 1 := ⟨m - 1, by omega⟩
    show f17_b2 f17_j1 _ _ _ _ _ w Q
    unfold f17_b2
    have c : (i : Int) < (l.length : Nat) := by omega
    have hil : i < l.length := by omega
    obtain ⟨ad, rv, hr, hc, hia⟩ := row_at h hil
    have cw := hc w hb
    have h3 : IntKind.i64.wrap ((i : Int) + 1) = ((i + 1 : Nat) : Int) := by rw [w64 (by omega) (by omega)]; rfl
    have hfl : ((l.take i).filter (left b)).length ≤ i := Nat.le_trans (List.length_filter_le _ _) (by rw [List.length_take]; omega)
    have hft : (l.take (i + 1)).filter (left b) = (l.take i).filter (left b) ++ (if left b l[i] = true then [l[i]] else []) := by
      rw [List.take_succ_eq_append_getElem hil, List.filter_append]
      congr 1
      rw [List.filter_cons, List.filter_nil]
    try simp only [↓reduceIte, ↓LL, LM, Value.cells, Nat.reduceAdd, Option.some.injEq, exists_eq_left', decide_true, decide_false, if_true, if_false, reduceCtorEq, cond_true, cond_false, lnl_L h, c, hia, cw]
    refine f31_s (rdL_b hb hb') (rdR_b hb hr) (by omega) hsz fun w1 hb1 => ?_
    have b1 := bt hb hb1
    have o1 := ho.keep hb1 hb.size
    have cw1 := hc w1 b1
    by_cases hp : (b.any fun s => decide (l[i] = s)) = true
    · have hp2 : ¬ left b l[i] = true := by unfold left; rw [hp]; simp
      rw [if_neg hp2, List.append_nil] at hft
      try simp only [↓reduceIte, ↓LL, LM, Value.cells, Nat.reduceAdd, Option.some.injEq, exists_eq_left', decide_true, decide_false, if_true, if_false, reduceCtorEq, cond_true, cond_false, hp]
      unfold f17_j3
      try simp only [↓reduceIte, ↓LL, LM, Value.cells, Nat.reduceAdd, Option.some.injEq, exists_eq_left', decide_true, decide_false, if_true, if_false, reduceCtorEq, cond_true, cond_false, h3]
      rw [← hft] at o1
      exact ih m (i + 1) w1 u (by omega) (by omega) b1 o1 kk
    · have hpf : (b.any fun s => decide (l[i] = s)) = false := Bool.eq_false_iff.2 hp
      have hp2 : left b l[i] = true := by unfold left; rw [hpf]; rfl
      rw [if_pos hp2] at hft
      obtain ⟨x, rfl⟩ := slV_of hr
      try simp only [↓reduceIte, ↓LL, LM, Value.cells, Nat.reduceAdd, Option.some.injEq, exists_eq_left', decide_true, decide_false, if_true, if_false, reduceCtorEq, cond_true, cond_false, hpf, hia, cw1]
      refine ap_L o1 (r := l[i]) (.inl hr) ⟨_, _, _, rfl⟩ b1 (by omega) fun u' w3 o3 k3 => ?_
      unfold f17_j3
      try simp only [↓reduceIte, ↓LL, LM, Value.cells, Nat.reduceAdd, Option.some.injEq, exists_eq_left', decide_true, decide_false, if_true, if_false, reduceCtorEq, cond_true, cond_false, h3]
      rw [← hft] at o3
      exact ih m (i + 1) w3 u' (by omega) (by omega) (b1.trans k3.b) o3 kk
theorem f17_s {va vb : Value} {l b : List Row} (h : rdL w va l) (hb : rdL w vb b) (hl : l.length ≤ 100000) (hlb : b.length ≤ 100000) (hsz : ∀ r ∈ b, r.length ≤ 9223372036854775806) (kk : ∀ w' u', Below w.heap.size w w' → rdL w' u' (l.filter (left b)) → Q u' w') : f17 va vb w Q := by
  unfold f17
  try simp only [↓reduceIte, ↓LL, LM, Value.cells, Nat.reduceAdd, Option.some.injEq, exists_eq_left', decide_true, decide_false, if_true, if_false, reduceCtorEq, cond_true, cond_false]
  exact ⟨_, f17_loop (W := w) h hb hl hlb hsz l.length (l.length + 1) 0 w _ (by omega) (by omega) (Below.refl _ _) OL_nil fun w' u' hb' ho => kk w' u' hb' (ho.rd hb')⟩
/-- the document's join, of one row -/
theorem f12_in {V : World} {va vb : Value} {a b : List Row} {ca cb : Int} (ha : rdL V va a) (hb : rdL V vb b) (hca : ∀ r ∈ a, 0 ≤ ca ∧ ca < r.length) (hcb : ∀ r ∈ b, 0 ≤ cb ∧ cb < r.length)
    (hla : a.length ≤ 80) (hlb : b.length ≤ 80) (hNa : ∀ s ∈ a, s.length ≤ 1048576) (hNb : ∀ s ∈ b, s.length ≤ 1048576) {i : Nat} (hi : i < a.length)
    (j3 : Value → Value → Value → Value → Value → Value → M) : ∀ (d m k : Nat) (w : World) (u : Value), k + d = b.length → d < m → Below V.heap.size V w → OL V w u (joinL ca.toNat cb.toNat (a.take i) b ++ joinR ca.toNat cb.toNat (b.take k) a[i]) →
    (∀ w' u', Below V.heap.size V w' → OL V w' u' (joinL ca.toNat cb.toNat (a.take (i + 1)) b) → j3 va vb (.int .i64 ca) (.int .i64 cb) u' (.int .i64 (i : Int)) w' Q) →
    itr (fun _ _ _ _ _ _ _ => bot) (f12_b4 j3) m va vb (.int .i64 ca) (.int .i64 cb) u (.int .i64 (i : Int)) (.int .i64 (k : Int)) w Q := by
  intro d
  induction d with
  | zero =>
    intro m k w u hk hm hbw ho kk
    obtain ⟨m, rfl⟩ : ∃ x, m = x + 1 := ⟨m - 1, by omega⟩
    show f12_b4 j3 _ _ _ _ _ _ _ _ w Q
    unfold f12_b4
    have c : ¬ (k : Int) < (b.length : Nat) := by omega
    try simp only [↓reduceIte, ↓LL, LM, Value.cells, Nat.reduceAdd, Option.some.injEq, exists_eq_left', decide_true, decide_false, if_true, if_false, reduceCtorEq, cond_true, cond_false, lnl_L hb, c]
    have eb : b.take k = b := List.take_of_length_le (by omega)
    rw [eb, ← joinL_take hi] at ho
    exact kk w u hbw ho
  | succ d ih =>
    intro m k w u hk hm hbw ho kk
    obtain ⟨m, rfl⟩ : ∃ x, m = x + 1 := ⟨m - 1, by omega⟩
    show f12_b4 j3 _ _ _ _ _ _ _ _ w Q
    unfold f12_b4
    have c : (k : Int) < (b.length : Nat) := by omega
    have hkb : k < b.length := by omega
    have hbd : Below V.heap.size V (drw w) := hbw.trans ⟨rfl, rfl, rfl, Nat.le_refl _, fun _ _ => rfl⟩
    have od : OL V (drw w) u _ := ho.keep (w' := drw w) ⟨rfl, rfl, rfl, Nat.le_refl _, fun _ _ => rfl⟩ hbw.size
    obtain ⟨ada, rva, hra, hc1, hia1⟩ := row_at ha hi
    obtain ⟨adb, rvb, hrb, hc2, hia2⟩ := row_at hb hkb
    obtain ⟨da, hda, hiaa⟩ := val_col hra (hca _ (List.getElem_mem hi))
    obtain ⟨db, hdb, hiab⟩ := val_col hrb (hcb _ (List.getElem_mem hkb))
    have k1 := hc1 _ hbd
    have k2 := hc2 _ hbd
    have h3 : IntKind.i64.wrap ((k : Int) + 1) = ((k + 1 : Nat) : Int) := by rw [w64 (by omega) (by omega)]; rfl
    have hna := hNa _ (List.getElem_mem hi)
    have hnb := hNb _ (List.getElem_mem hkb)
    have hjt := joinR_take (ca := ca.toNat) (cb := cb.toNat) (r := a[i]) hkb
    have hlen1 := joinL_len (ca := ca.toNat) (cb := cb.toNat) (b := b) (a.take i)
    have hlen2 := joinR_len ca.toNat cb.toNat (b.take k) a[i]
    have hmul : (a.take i).length * b.length ≤ 80 * 80 := Nat.mul_le_mul (by rw [List.length_take]; omega) hlb
    have hbk : (b.take k).length ≤ 80 := by rw [List.length_take]; omega
    try simp only [↓reduceIte, ↓LL, LM, Value.cells, Nat.reduceAdd, Option.some.injEq, exists_eq_left', decide_true, decide_false, if_true, if_false, reduceCtorEq, cond_true, cond_false, lnl_L hb, c, hia1, k1, hiaa]
    refine ldn_at (hda _ hbd) rfl ?_
    try simp only [↓reduceIte, ↓LL, LM, Value.cells, Nat.reduceAdd, Option.some.injEq, exists_eq_left', decide_true, decide_false, if_true, if_false, reduceCtorEq, cond_true, cond_false, hia2, k2, hiab]
    refine ldn_at (hdb _ hbd) rfl ?_
    try simp only [↓reduceIte, ↓LL, LM, Value.cells, Nat.reduceAdd, Option.some.injEq, exists_eq_left', decide_true, decide_false, if_true, if_false, reduceCtorEq, cond_true, cond_false]
    refine Eq.mpr (smr_run (eq31 _ _ (drw w))) ?_
    by_cases hm' : colV ca.toNat a[i] = colV cb.toNat b[k]
    · rw [if_pos hm'.symm] at hjt
      have hbdd : Below V.heap.size V (drw (drw w)) := hbd.trans ⟨rfl, rfl, rfl, Nat.le_refl _, fun _ _ => rfl⟩
      have odd : OL V (drw (drw w)) u _ := od.keep (w' := drw (drw w)) ⟨rfl, rfl, rfl, Nat.le_refl _, fun _ _ => rfl⟩ hbd.size
      have k1' := hc1 _ hbdd
      have k2' := hc2 _ hbdd
      try simp only [↓reduceIte, ↓LL, LM, Value.cells, Nat.reduceAdd, Option.some.injEq, exists_eq_left', decide_true, decide_false, if_true, if_false, reduceCtorEq, cond_true, cond_false, decide_eq_true hm', hia1, k1', hia2, k2']
      generalize drw (drw w) = w1 at *
      refine ap_E (B := w1.heap.size) (l := []) (m := a[i]) sl33 rfl (by decide) encV_len encV_one ownE_nil (rd_eR (rdR_b hbdd hra)) (by simp; unfold maxLen; omega) (by simp; omega) (Nat.le_refl _) fun v2 w2 o2 g2 _ => ?_
      rw [List.nil_append] at o2
      have b2 := Below_nil g2
      have bv2 := bt hbdd b2
      have k2'' := hc2 _ bv2
      try rw [kp_e]
      refine ⟨by rw [Kld_e]; exact k2'', ?_⟩
      refine ap_E (m := b[k]) sl33 rfl (by decide) encV_len encV_one o2 (rd_eR (rdR_b bv2 hrb)) (by unfold maxLen; omega) (by omega) b2.size fun v3 w3 o3 g3 _ => ?_
      have b3 : Below w1.heap.size w1 w3 := b2.grown g3 b2.size (fun k hk => (ownE_blk o2 k hk).1)
      have own3 : ownR V.heap.size w3 v3 (a[i] ++ b[k]) := ⟨ownE_weak o3 hbdd.size, fun x hx => by
        rcases List.mem_append.1 hx with hx | hx
        · exact okV_all hra x hx
        · exact okV_all hrb x hx⟩
      have od3 := odd.keep b3 hbdd.size
      refine ap_L od3 (r := a[i] ++ b[k]) (.inr own3) (ownE_lenv own3) (bt hbdd b3) (by rw [List.length_append]; omega) fun u' w4 o4 k4 => ?_
      rw [List.append_assoc, ← hjt] at o4
      try simp only [↓reduceIte, ↓LL, LM, Value.cells, Nat.reduceAdd, Option.some.injEq, exists_eq_left', decide_true, decide_false, if_true, if_false, reduceCtorEq, cond_true, cond_false]
      unfold f12_j5
      try simp only [↓reduceIte, ↓LL, LM, Value.cells, Nat.reduceAdd, Option.some.injEq, exists_eq_left', decide_true, decide_false, if_true, if_false, reduceCtorEq, cond_true, cond_false, h3]
      exact ih m (k + 1) w4 u' (by omega) (by omega) ((bt hbdd b3).trans k4.b) o4 kk
    · rw [if_neg (fun e => hm' e.symm), List.append_nil] at hjt
      try simp only [↓reduceIte, ↓LL, LM, Value.cells, Nat.reduceAdd, Option.some.injEq, exists_eq_left', decide_true, decide_false, if_true, if_false, reduceCtorEq, cond_true, cond_false, decide_eq_false hm']
      unfold f12_j5
      try simp only [↓reduceIte, ↓LL, LM, Value.cells, Nat.reduceAdd, Option.some.injEq, exists_eq_left', decide_true, decide_false, if_true, if_false, reduceCtorEq, cond_true, cond_false, h3]
      rw [← hjt] at od
      exact ih m (k + 1) (drw w) u (by omega) (by omega) hbd od kk
theorem f12_out {V : World} {va vb : Value} {a b : List Row} {ca cb : Int} (ha : rdL V va a) (hb : rdL V vb b) (hca : ∀ r ∈ a, 0 ≤ ca ∧ ca < r.length) (hcb : ∀ r ∈ b, 0 ≤ cb ∧ cb < r.length)
    (hla : a.length ≤ 80) (hlb : b.length ≤ 80) (hNa : ∀ s ∈ a, s.length ≤ 1048576) (hNb : ∀ s ∈ b, s.length ≤ 1048576) : ∀ (d m i : Nat) (w : World) (u : Value), i + d = a.length → d < m → Below V.heap.size V w → OL V w u (joinL ca.toNat cb.toNat (a.take i) b) →
    (∀ w' u', Below V.heap.size V w' → OL V w' u' (joinL ca.toNat cb.toNat a b) → Q (.tuple #[u', .int .i64 0]) w') →
    itr (fun _ _ _ _ _ _ => bot) (f12_b2 f12_j1) m va vb (.int .i64 ca) (.int .i64 cb) u (.int .i64 (i : Int)) w Q := by
  intro d
  induction d with
  | zero =>
    intro m i w u hi hm hbw ho kk
    obtain ⟨m, rfl⟩ : ∃ x, m = x + 1 := ⟨m - 1, by omega⟩
    show f12_b2 f12_j1 _ _ _ _ _ _ _ w Q
    unfold f12_b2
    have c : ¬ (i : Int) < (a.length : Nat) := by omega
    try simp only [↓reduceIte, ↓LL, LM, Value.cells, Nat.reduceAdd, Option.some.injEq, exists_eq_left', decide_true, decide_false, if_true, if_false, reduceCtorEq, cond_true, cond_false, lnl_L ha, c]
    unfold f12_j1
    try simp only [↓reduceIte, ↓LL, LM, Value.cells, Nat.reduceAdd, Option.some.injEq, exists_eq_left', decide_true, decide_false, if_true, if_false, reduceCtorEq, cond_true, cond_false]
    have ea : a.take i = a := List.take_of_length_le (by omega)
    rw [ea] at ho
    exact kk w u hbw ho
  | succ d ih =>
    intro m i w u hi hm hbw ho kk
    obtain ⟨m, rfl⟩ : ∃ x, m = x + 1 := ⟨m - 1, by omega⟩
    show f12_b2 f12_j1 _ _ _ _ _ _ _ w Q
    unfold f12_b2
    have c : (i : Int) < (a.length : Nat) := by omega
    have hia : i < a.length := by omega
    have h3 : IntKind.i64.wrap ((i : Int) + 1) = ((i + 1 : Nat) : Int) := by rw [w64 (by omega) (by omega)]; rfl
    try simp only [↓reduceIte, ↓LL, LM, Value.cells, Nat.reduceAdd, Option.some.injEq, exists_eq_left', decide_true, decide_false, if_true, if_false, reduceCtorEq, cond_true, cond_false, lnl_L ha, c]
    refine ⟨_, f12_in (V := V) ha hb hca hcb hla hlb hNa hNb hia _ b.length (b.length + 1) 0 w u (by omega) (by omega) hbw (by simpa [joinR] using ho) fun w' u' hb' ho' => ?_⟩
    unfold f12_j3
    try simp only [↓reduceIte, ↓LL, LM, Value.cells, Nat.reduceAdd, Option.some.injEq, exists_eq_left', decide_true, decide_false, if_true, if_false, reduceCtorEq, cond_true, cond_false, h3]
    exact ih m (i + 1) w' u' (by omega) (by omega) hb' ho' kk
theorem f12_s {va vb : Value} {a b : List Row} (ca cb : Int) (ha : rdL w va a) (hb : rdL w vb b) (hla : a.length ≤ 80) (hlb : b.length ≤ 80) (hNa : ∀ s ∈ a, s.length ≤ 1048576) (hNb : ∀ s ∈ b, s.length ≤ 1048576)
    (k7 : (a.any (lacksB ca) || b.any (lacksB cb)) = true → Q (.tuple #[.slice none 0 0, .int .i64 7]) w)
    (k0 : (a.any (lacksB ca) || b.any (lacksB cb)) = false → ∀ w' u, Below w.heap.size w w' → rdL w' u (joinL ca.toNat cb.toNat a b) → Q (.tuple #[u, .int .i64 0]) w') : f12 va vb (.int .i64 ca) (.int .i64 cb) w Q := by
  unfold f12
  try simp only [↓reduceIte, ↓LL, LM, Value.cells, Nat.reduceAdd, Option.some.injEq, exists_eq_left', decide_true, decide_false, if_true, if_false, reduceCtorEq, cond_true, cond_false]
  refine f28_s ha (by omega) ?_
  by_cases c1 : a.any (lacksB ca) = true
  · try simp only [↓reduceIte, ↓LL, LM, Value.cells, Nat.reduceAdd, Option.some.injEq, exists_eq_left', decide_true, decide_false, if_true, if_false, reduceCtorEq, cond_true, cond_false, c1]
    exact k7 (by rw [c1]; rfl)
  have c1f : a.any (lacksB ca) = false := Bool.eq_false_iff.2 c1
  try simp only [↓reduceIte, ↓LL, LM, Value.cells, Nat.reduceAdd, Option.some.injEq, exists_eq_left', decide_true, decide_false, if_true, if_false, reduceCtorEq, cond_true, cond_false, c1f]
  refine f28_s hb (by omega) ?_
  by_cases c2 : b.any (lacksB cb) = true
  · try simp only [↓reduceIte, ↓LL, LM, Value.cells, Nat.reduceAdd, Option.some.injEq, exists_eq_left', decide_true, decide_false, if_true, if_false, reduceCtorEq, cond_true, cond_false, c2]
    exact k7 (by rw [c2]; simp)
  have c2f : b.any (lacksB cb) = false := Bool.eq_false_iff.2 c2
  try simp only [↓reduceIte, ↓LL, LM, Value.cells, Nat.reduceAdd, Option.some.injEq, exists_eq_left', decide_true, decide_false, if_true, if_false, reduceCtorEq, cond_true, cond_false, c2f]
  exact ⟨_, f12_out (V := w) ha hb (not_lacks c1f) (not_lacks c2f) hla hlb hNa hNb a.length (a.length + 1) 0 w (.slice none 0 0) (by omega) (by omega) (Below.refl _ _) (by simpa [joinL] using OL_nil) fun w' u hb' ho => k0 (by rw [c1f, c2f]; rfl) w' u hb' (ho.rd hb')⟩
theorem joinL_mem {ca cb : Nat} {a b : List Row} {r : Row} (h : r ∈ joinL ca cb a b) : ∃ x ∈ a, ∃ y ∈ b, r = x ++ y := by
  unfold joinL joinR at h
  obtain ⟨x, hx, h⟩ := List.mem_flatMap.1 h
  obtain ⟨y, hy, rfl⟩ := List.mem_map.1 h
  exact ⟨x, hx, y, (List.mem_filter.1 hy).1, rfl⟩
theorem f4_s {va vb : Value} {a b : List Row} {ca cb : Int} (ha : rdL w va a) (hb : rdL w vb b) (hNa : ∀ s ∈ a, s.length ≤ 1048576) (hNb : ∀ s ∈ b, s.length ≤ 1048576) (kk : ∀ w', Below w.heap.size w w' → Q (.bool true) w') :
    f4 va vb (.agg #[.int .i64 ca, .int .i64 cb]) w Q := by
  unfold f4
  have b1 := b_psh w (.cells (Value.agg #[.int .i64 ca, .int .i64 cb]).cells 23)
  have blk := blk_psh_new (w := w) (o := .cells (Value.agg #[.int .i64 ca, .int .i64 cb]).cells 23)
  rw [bx_e]
  generalize psh w (.cells (Value.agg #[.int .i64 ca, .int .i64 cb]).cells 23) = w1 at *
  try simp only [↓reduceIte, ↓LL, LM, Value.cells, Nat.reduceAdd, Option.some.injEq, exists_eq_left', decide_true, decide_false, if_true, if_false, reduceCtorEq, cond_true, cond_false]
  refine f8_s fun w2 c2 => ?_
  have b2 := bt b1 c2
  have blk2 := stay c2 blk
  try simp only [↓reduceIte, ↓LL, LM, Value.cells, Nat.reduceAdd, Option.some.injEq, exists_eq_left', decide_true, decide_false, if_true, if_false, reduceCtorEq, cond_true, cond_false]
  refine f9_s (rdL_b b2 ha) fun va' ha' => ?_
  try simp only [↓reduceIte, ↓LL, LM, Value.cells, Nat.reduceAdd, Option.some.injEq, exists_eq_left', decide_true, decide_false, if_true, if_false, reduceCtorEq, cond_true, cond_false]
  refine f9_s (rdL_b b2 hb) fun vb' hb' => ?_
  have hla : (a.take 80).length ≤ 80 := by rw [List.length_take]; omega
  have hlb : (b.take 80).length ≤ 80 := by rw [List.length_take]; omega
  have hNa' : ∀ s ∈ a.take 80, s.length ≤ 1048576 := fun s hs => hNa s (List.mem_of_mem_take hs)
  have hNb' : ∀ s ∈ b.take 80, s.length ≤ 1048576 := fun s hs => hNb s (List.mem_of_mem_take hs)
  generalize a.take 80 = a' at *
  generalize b.take 80 = b' at *
  have hat : ∀ w', Below w2.heap.size w2 w' → w'.cell? ⟨w.heap.size, 0, none⟩ = some (.int .i64 ca) ∧ w'.cell? ⟨w.heap.size, 1, none⟩ = some (.int .i64 cb) := by
    intro w' hb'
    have := stay hb' blk2
    constructor <;> (rw [cell_of_blk this]; rfl)
  obtain ⟨q1, q2⟩ := hat w2 (Below.refl _ _)
  have get0 : ∀ x y : Value, (#[x, y] : Array Value)[0]? = some x := fun _ _ => rfl
  have get1 : ∀ x y : Value, (#[x, y] : Array Value)[1]? = some y := fun _ _ => rfl
  have hsa : ∀ r ∈ a', r.length * 32 ≤ 140737488355328 := fun r hr => by have := hNa' r hr; omega
  have hla9 : ∀ r ∈ a', r.length ≤ 9223372036854775806 := fun r hr => by have := hNa' r hr; omega
  have hlb9 : ∀ r ∈ b', r.length ≤ 9223372036854775806 := fun r hr => by have := hNb' r hr; omega
  try simp only [↓reduceIte, ↓LL, LM, Value.cells, Nat.reduceAdd, Option.some.injEq, exists_eq_left', decide_true, decide_false, if_true, if_false, reduceCtorEq, cond_true, cond_false, iaa0, iaa1, q1, q2]
  refine f10_s (w := w2) ca cb ha' hb' hla hlb hNa' hNb' (fun h7 w3 c3 => ?_) (fun n1 n2 w3 u c3 ru => ?_)
  · obtain ⟨q3, q4⟩ := hat w3 c3
    try simp only [↓reduceIte, ↓LL, LM, Value.cells, Nat.reduceAdd, Option.some.injEq, exists_eq_left', decide_true, decide_false, if_true, if_false, reduceCtorEq, cond_true, cond_false, get0, get1, iaa0, iaa1, q3, q4]
    refine f12_s ca cb (rdL_b c3 ha') (rdL_b c3 hb') hla hlb hNa' hNb' (fun _ => ?_) (fun h => by rw [h7] at h; cases h)
    try simp only [↓reduceIte, ↓LL, LM, Value.cells, Nat.reduceAdd, Option.some.injEq, exists_eq_left', decide_true, decide_false, if_true, if_false, reduceCtorEq, cond_true, cond_false, get0, get1]
    refine f13_s (l := []) (l2 := []) (.inl ⟨rfl, rfl⟩) (.inl ⟨rfl, rfl⟩) (by simp) (by simp) fun w4 c4 => ?_
    have b4 := bt c3 c4
    try simp only [↓reduceIte, ↓LL, LM, Value.cells, Nat.reduceAdd, Option.some.injEq, exists_eq_left', decide_true, decide_false, if_true, if_false, reduceCtorEq, cond_true, cond_false, decide_true]
    refine f14_s (rdL_b b4 ha') (by omega) hsa fun w5 u5 c5 o5 => ?_
    have b5 := bt b4 c5
    have r5 := o5.rd c5
    try simp only [↓reduceIte, ↓LL, LM, Value.cells, Nat.reduceAdd, Option.some.injEq, exists_eq_left', decide_true, decide_false, if_true, if_false, reduceCtorEq, cond_true, cond_false]
    refine f15_s (rdL_b b5 ha') (by omega) hla9 fun w6 u6 c6 o6 => ?_
    have b6 := bt b5 c6
    have r6 := o6.rd c6
    have hol := once_len a' []
    try simp only [↓reduceIte, ↓LL, LM, Value.cells, Nat.reduceAdd, Option.some.injEq, exists_eq_left', decide_true, decide_false, if_true, if_false, reduceCtorEq, cond_true, cond_false]
    refine f13_s (rdL_b c6 r5) r6 (by simp at hol; omega) (fun r hr => ?_) fun w7 c7 => ?_
    · rcases once_mem a' [] r hr with h | h
      · cases h
      · exact hla9 r h
    have b7 := bt b6 c7
    try simp only [↓reduceIte, ↓LL, LM, Value.cells, Nat.reduceAdd, Option.some.injEq, exists_eq_left', decide_true, decide_false, if_true, if_false, reduceCtorEq, cond_true, cond_false, decide_true]
    refine f16_s (rdL_b b7 ha') (rdL_b b7 hb') (by omega) (by omega) hsa fun w8 u8 c8 r8 => ?_
    have b8 := bt b7 c8
    try simp only [↓reduceIte, ↓LL, LM, Value.cells, Nat.reduceAdd, Option.some.injEq, exists_eq_left', decide_true, decide_false, if_true, if_false, reduceCtorEq, cond_true, cond_false]
    refine f17_s (rdL_b b8 ha') (rdL_b b8 hb') (by omega) (by omega) hlb9 fun w9 u9 c9 r9 => ?_
    have b9 := bt b8 c9
    try simp only [↓reduceIte, ↓LL, LM, Value.cells, Nat.reduceAdd, Option.some.injEq, exists_eq_left', decide_true, decide_false, if_true, if_false, reduceCtorEq, cond_true, cond_false]
    refine f13_s (rdL_b c9 r8) r9 (Nat.le_trans (List.length_filter_le _ _) (by omega)) (fun r hr => hla9 r (List.mem_filter.1 hr).1) fun w10 c10 => ?_
    try simp only [↓reduceIte, ↓LL, LM, Value.cells, Nat.reduceAdd, Option.some.injEq, exists_eq_left', decide_true, decide_false, if_true, if_false, reduceCtorEq, cond_true, cond_false, decide_true]
    exact kk w10 (bt b2 (bt b9 c10))
  · obtain ⟨q3, q4⟩ := hat w3 c3
    try simp only [↓reduceIte, ↓LL, LM, Value.cells, Nat.reduceAdd, Option.some.injEq, exists_eq_left', decide_true, decide_false, if_true, if_false, reduceCtorEq, cond_true, cond_false, get0, get1, iaa0, iaa1, q3, q4]
    have hno : (a'.any (lacksB ca) || b'.any (lacksB cb)) = false := by
      have e1 : a'.any (lacksB ca) = false := List.any_eq_false.2 fun r hr => by have := n1 r hr; unfold lacksB; simp; omega
      have e2 : b'.any (lacksB cb) = false := List.any_eq_false.2 fun r hr => by have := n2 r hr; unfold lacksB; simp; omega
      rw [e1, e2]; rfl
    refine f12_s ca cb (rdL_b c3 ha') (rdL_b c3 hb') hla hlb hNa' hNb' (fun h => by rw [hno] at h; cases h) (fun _ w3' u' c3' ru' => ?_)
    have c33 := bt c3 c3'
    have hjl := joinL_len (ca := ca.toNat) (cb := cb.toNat) (b := b') a'
    have hmul : a'.length * b'.length ≤ 80 * 80 := Nat.mul_le_mul hla hlb
    try simp only [↓reduceIte, ↓LL, LM, Value.cells, Nat.reduceAdd, Option.some.injEq, exists_eq_left', decide_true, decide_false, if_true, if_false, reduceCtorEq, cond_true, cond_false, get0, get1]
    refine f13_s (rdL_b c3' ru) ru' (by omega) (fun r hr => by obtain ⟨x, hx, y, hy, rfl⟩ := joinL_mem hr; have := hNa' x hx; have := hNb' y hy; rw [List.length_append]; omega) fun w4 c4 => ?_
    have b4 := bt c33 c4
    try simp only [↓reduceIte, ↓LL, LM, Value.cells, Nat.reduceAdd, Option.some.injEq, exists_eq_left', decide_true, decide_false, if_true, if_false, reduceCtorEq, cond_true, cond_false, decide_true]
    refine f14_s (rdL_b b4 ha') (by omega) hsa fun w5 u5 c5 o5 => ?_
    have b5 := bt b4 c5
    have r5 := o5.rd c5
    try simp only [↓reduceIte, ↓LL, LM, Value.cells, Nat.reduceAdd, Option.some.injEq, exists_eq_left', decide_true, decide_false, if_true, if_false, reduceCtorEq, cond_true, cond_false]
    refine f15_s (rdL_b b5 ha') (by omega) hla9 fun w6 u6 c6 o6 => ?_
    have b6 := bt b5 c6
    have r6 := o6.rd c6
    have hol := once_len a' []
    try simp only [↓reduceIte, ↓LL, LM, Value.cells, Nat.reduceAdd, Option.some.injEq, exists_eq_left', decide_true, decide_false, if_true, if_false, reduceCtorEq, cond_true, cond_false]
    refine f13_s (rdL_b c6 r5) r6 (by simp at hol; omega) (fun r hr => ?_) fun w7 c7 => ?_
    · rcases once_mem a' [] r hr with h | h
      · cases h
      · exact hla9 r h
    have b7 := bt b6 c7
    try simp only [↓reduceIte, ↓LL, LM, Value.cells, Nat.reduceAdd, Option.some.injEq, exists_eq_left', decide_true, decide_false, if_true, if_false, reduceCtorEq, cond_true, cond_false, decide_true]
    refine f16_s (rdL_b b7 ha') (rdL_b b7 hb') (by omega) (by omega) hsa fun w8 u8 c8 r8 => ?_
    have b8 := bt b7 c8
    try simp only [↓reduceIte, ↓LL, LM, Value.cells, Nat.reduceAdd, Option.some.injEq, exists_eq_left', decide_true, decide_false, if_true, if_false, reduceCtorEq, cond_true, cond_false]
    refine f17_s (rdL_b b8 ha') (rdL_b b8 hb') (by omega) (by omega) hlb9 fun w9 u9 c9 r9 => ?_
    have b9 := bt b8 c9
    try simp only [↓reduceIte, ↓LL, LM, Value.cells, Nat.reduceAdd, Option.some.injEq, exists_eq_left', decide_true, decide_false, if_true, if_false, reduceCtorEq, cond_true, cond_false]
    refine f13_s (rdL_b c9 r8) r9 (Nat.le_trans (List.length_filter_le _ _) (by omega)) (fun r hr => hla9 r (List.mem_filter.1 hr).1) fun w10 c10 => ?_
    try simp only [↓reduceIte, ↓LL, LM, Value.cells, Nat.reduceAdd, Option.some.injEq, exists_eq_left', decide_true, decide_false, if_true, if_false, reduceCtorEq, cond_true, cond_false, decide_true]
    exact kk w10 (bt b2 (bt b9 c10))
end
end Go.Proofs.Ytlmiimojgledpaa

set_option maxRecDepth 20000
namespace Go.Proofs.Ytlmiimojgledpaa
open Sh RowKit Go.MapKept
def cmpI (a b : Int) : Int := if a < b then -1 else if b < a then 1 else 0
def ltS (a b : ByteArray) : Bool := Op.bytesLess a.toList b.toList
def gtS (a b : ByteArray) : Bool := !(Op.bytesLess a.toList b.toList || a.toList == b.toList)
def cmpS (a b : ByteArray) : Int := if ltS a b = true then -1 else if gtS a b = true then 1 else 0
def orI (x y z : Int) : Int := if x ≠ 0 then x else if y ≠ 0 then y else z
def cmpV (a b : Val) : Int := orI (cmpI a.k b.k) (cmpI a.n b.n) (cmpS a.s b.s)
section
variable {W w w' : World} {Q : Value → World → Prop}
theorem f49_s {a b : Int} (kk : Q (.int .i64 (cmpI a b)) w) : f49 (.int .i64 a) (.int .i64 b) w Q := by
  unfold f49 f55
  unfold cmpI at kk
  by_cases c1 : a < b
  · rw [if_pos c1] at kk
    try simp only [↓reduceIte, ↓LL, LM, Value.cells, Nat.reduceAdd, Option.some.injEq, exists_eq_left', decide_true, decide_false, if_true, if_false, reduceCtorEq, cond_true, cond_false, ne_eq, c1]
    exact kk
  · rw [if_neg c1] at kk
    by_cases c2 : b < a
    · rw [if_pos c2] at kk
      try simp only [↓reduceIte, ↓LL, LM, Value.cells, Nat.reduceAdd, Option.some.injEq, exists_eq_left', decide_true, decide_false, if_true, if_false, reduceCtorEq, cond_true, cond_false, ne_eq, c1, c2]
      exact kk
    · rw [if_neg c2] at kk
      try simp only [↓reduceIte, ↓LL, LM, Value.cells, Nat.reduceAdd, Option.some.injEq, exists_eq_left', decide_true, decide_false, if_true, if_false, reduceCtorEq, cond_true, cond_false, ne_eq, c1, c2]
      exact kk
theorem f50_s {a b : Int} (kk : Q (.int .i64 (cmpI a b)) w) : f50 (.int .i64 a) (.int .i64 b) w Q := by
  unfold f50 f56
  unfold cmpI at kk
  by_cases c1 : a < b
  · rw [if_pos c1] at kk
    try simp only [↓reduceIte, ↓LL, LM, Value.cells, Nat.reduceAdd, Option.some.injEq, exists_eq_left', decide_true, decide_false, if_true, if_false, reduceCtorEq, cond_true, cond_false, ne_eq, c1]
    exact kk
  · rw [if_neg c1] at kk
    by_cases c2 : b < a
    · rw [if_pos c2] at kk
      try simp only [↓reduceIte, ↓LL, LM, Value.cells, Nat.reduceAdd, Option.some.injEq, exists_eq_left', decide_true, decide_false, if_true, if_false, reduceCtorEq, cond_true, cond_false, ne_eq, c1, c2]
      exact kk
    · rw [if_neg c2] at kk
      try simp only [↓reduceIte, ↓LL, LM, Value.cells, Nat.reduceAdd, Option.some.injEq, exists_eq_left', decide_true, decide_false, if_true, if_false, reduceCtorEq, cond_true, cond_false, ne_eq, c1, c2]
      exact kk
theorem lts_s {a b : ByteArray} {K : Value → M} (kk : K (.bool (ltS a b)) w Q) : lts (.string a) (.string b) K w Q := ⟨a, b, rfl, rfl, kk⟩
theorem gts_s {a b : ByteArray} {K : Value → M} (kk : K (.bool (gtS a b)) w Q) : gts (.string a) (.string b) K w Q := ⟨a, b, rfl, rfl, kk⟩
theorem f51_s {a b : ByteArray} (kk : Q (.int .i64 (cmpS a b)) w) : f51 (.string a) (.string b) w Q := by
  unfold f51 f57
  unfold cmpS at kk
  try simp only [↓reduceIte, ↓LL, LM, Value.cells, Nat.reduceAdd, Option.some.injEq, exists_eq_left', decide_true, decide_false, if_true, if_false, reduceCtorEq, cond_true, cond_false, ne_eq]
  refine lts_s ?_
  cases c1 : ltS a b with
  | true =>
    rw [c1, if_pos rfl] at kk
    try simp only [↓reduceIte, ↓LL, LM, Value.cells, Nat.reduceAdd, Option.some.injEq, exists_eq_left', decide_true, decide_false, if_true, if_false, reduceCtorEq, cond_true, cond_false]
    exact kk
  | false =>
    rw [c1, if_neg (by simp)] at kk
    try simp only [↓reduceIte, ↓LL, LM, Value.cells, Nat.reduceAdd, Option.some.injEq, exists_eq_left', decide_true, decide_false, if_true, if_false, reduceCtorEq, cond_true, cond_false]
    refine gts_s ?_
    cases c2 : gtS a b with
    | true =>
      rw [c2, if_pos rfl] at kk
      try simp only [↓reduceIte, ↓LL, LM, Value.cells, Nat.reduceAdd, Option.some.injEq, exists_eq_left', decide_true, decide_false, if_true, if_false, reduceCtorEq, cond_true, cond_false]
      exact kk
    | false =>
      rw [c2, if_neg (by simp)] at kk
      try simp only [↓reduceIte, ↓LL, LM, Value.cells, Nat.reduceAdd, Option.some.injEq, exists_eq_left', decide_true, decide_false, if_true, if_false, reduceCtorEq, cond_true, cond_false]
      exact kk
theorem lit43 (x y z : Int) (w : World) : (Instr.buildSlice 43 3 #[(0, .int .i64 x), (1, .int .i64 y), (2, .int .i64 z)]).run Try.prog w = .ok (.slice (some ⟨w.heap.size, 0, none⟩) 3 3) (psh w (.cells #[.int .i64 x, .int .i64 y, .int .i64 z] 3)) := by
  kernel_rfl
theorem f48_s {x y z : Int} {g : Nat} {t : TypeId} {fr : Nat × Nat} (h : w.heap[g]? = some (.cells #[.int .i64 x, .int .i64 y, .int .i64 z] t fr)) (kk : Q (.int .i64 (orI x y z)) w) : f48 (.slice (some ⟨g, 0, none⟩) 3 3) w Q := by
  unfold f48
  have k0 : w.cell? ⟨g, 0, none⟩ = some (.int .i64 x) := by rw [cell_of_blk h]; rfl
  have k1 : w.cell? ⟨g, 1, none⟩ = some (.int .i64 y) := by rw [cell_of_blk h]; rfl
  have k2 : w.cell? ⟨g, 2, none⟩ = some (.int .i64 z) := by rw [cell_of_blk h]; rfl
  have i0 : ∀ (K : Value → M), ia 1 (.slice (some ⟨g, 0, none⟩) 3 3) (.int .i64 0) K w Q = K (.pointer (some ⟨g, 0, none⟩)) w Q := fun K => ia_at (i := 0) (by omega)
  have i1 : ∀ (K : Value → M), ia 1 (.slice (some ⟨g, 0, none⟩) 3 3) (.int .i64 1) K w Q = K (.pointer (some ⟨g, 1, none⟩)) w Q := fun K => ia_at (i := 1) (by omega)
  have i2 : ∀ (K : Value → M), ia 1 (.slice (some ⟨g, 0, none⟩) 3 3) (.int .i64 2) K w Q = K (.pointer (some ⟨g, 2, none⟩)) w Q := fun K => ia_at (i := 2) (by omega)
  have e1 : IntKind.i64.wrap ((0 : Int) + 1) = 1 := rfl
  have e2 : IntKind.i64.wrap ((1 : Int) + 1) = 2 := rfl
  have e3 : IntKind.i64.wrap ((2 : Int) + 1) = 3 := rfl
  try simp only [↓reduceIte, ↓LL, LM, Value.cells, Nat.reduceAdd, Option.some.injEq, exists_eq_left', decide_true, decide_false, if_true, if_false, reduceCtorEq, cond_true, cond_false]
  refine ⟨4, ?_⟩
  unfold orI at kk
  show f48_b2 f48_j1 (itr (fun _ _ _ _ => bot) (f48_b2 f48_j1) 3) (.int .i64 0) (.slice (some ⟨g, 0, none⟩) 3 3) (.int .i64 ((3 : Nat) : Int)) (.int .i64 0) w Q
  unfold f48_b2
  have c3 : ((0 : Int) < ((3 : Nat) : Int)) := by omega
  have c31 : ((1 : Int) < ((3 : Nat) : Int)) := by omega
  have c32 : ((2 : Int) < ((3 : Nat) : Int)) := by omega
  have c33 : ¬ ((3 : Int) < ((3 : Nat) : Int)) := by omega
  by_cases hx : x = 0
  · rw [if_neg (by omega)] at kk
    try simp only [↓reduceIte, ↓LL, LM, Value.cells, Nat.reduceAdd, Option.some.injEq, exists_eq_left', decide_true, decide_false, if_true, if_false, reduceCtorEq, cond_true, cond_false, c3, i0, k0, hx, ne_eq, e1]
    show f48_b2 f48_j1 (itr (fun _ _ _ _ => bot) (f48_b2 f48_j1) 2) (.int .i64 0) (.slice (some ⟨g, 0, none⟩) 3 3) (.int .i64 ((3 : Nat) : Int)) (.int .i64 1) w Q
    unfold f48_b2
    by_cases hy : y = 0
    · rw [if_neg (by omega)] at kk
      try simp only [↓reduceIte, ↓LL, LM, Value.cells, Nat.reduceAdd, Option.some.injEq, exists_eq_left', decide_true, decide_false, if_true, if_false, reduceCtorEq, cond_true, cond_false, c31, i1, k1, hy, ne_eq, e2]
      show f48_b2 f48_j1 (itr (fun _ _ _ _ => bot) (f48_b2 f48_j1) 1) (.int .i64 0) (.slice (some ⟨g, 0, none⟩) 3 3) (.int .i64 ((3 : Nat) : Int)) (.int .i64 2) w Q
      unfold f48_b2
      by_cases hz : z = 0
      · rw [hz] at kk
        try simp only [↓reduceIte, ↓LL, LM, Value.cells, Nat.reduceAdd, Option.some.injEq, exists_eq_left', decide_true, decide_false, if_true, if_false, reduceCtorEq, cond_true, cond_false, c32, i2, k2, hz, ne_eq, e3]
        show f48_b2 f48_j1 (itr (fun _ _ _ _ => bot) (f48_b2 f48_j1) 0) (.int .i64 0) (.slice (some ⟨g, 0, none⟩) 3 3) (.int .i64 ((3 : Nat) : Int)) (.int .i64 3) w Q
        unfold f48_b2
        try simp only [↓reduceIte, ↓LL, LM, Value.cells, Nat.reduceAdd, Option.some.injEq, exists_eq_left', decide_true, decide_false, if_true, if_false, reduceCtorEq, cond_true, cond_false, c33]
        unfold f48_j1
        try simp only [↓reduceIte, ↓LL, LM, Value.cells, Nat.reduceAdd, Option.some.injEq, exists_eq_left', decide_true, decide_false, if_true, if_false, reduceCtorEq, cond_true, cond_false]
        exact kk
      · try simp only [↓reduceIte, ↓LL, LM, Value.cells, Nat.reduceAdd, Option.some.injEq, exists_eq_left', decide_true, decide_false, if_true, if_false, reduceCtorEq, cond_true, cond_false, c32, i2, k2, hz, ne_eq]
        exact kk
    · rw [if_pos hy] at kk
      try simp only [↓reduceIte, ↓LL, LM, Value.cells, Nat.reduceAdd, Option.some.injEq, exists_eq_left', decide_true, decide_false, if_true, if_false, reduceCtorEq, cond_true, cond_false, c31, i1, k1, hy, ne_eq]
      exact kk
  · rw [if_pos hx] at kk
    try simp only [↓reduceIte, ↓LL, LM, Value.cells, Nat.reduceAdd, Option.some.injEq, exists_eq_left', decide_true, decide_false, if_true, if_false, reduceCtorEq, cond_true, cond_false, c3, i0, k0, hx, ne_eq]
    exact kk
/-- values compared: kind, number, text -/
theorem f37_s {a b : Val} (kk : ∀ w', Below w.heap.size w w' → Q (.int .i64 (cmpV a b)) w') : f37 (.agg (encV a).toArray) (.agg (encV b).toArray) w Q := by
  unfold f37
  have b1 := b_psh w (.cells (Value.agg (encV a).toArray).cells 31)
  have blk1 := blk_psh_new (w := w) (o := .cells (Value.agg (encV a).toArray).cells 31)
  rw [bx_e]
  generalize psh w (.cells (Value.agg (encV a).toArray).cells 31) = w1 at *
  have b2 := b_psh w1 (.cells (Value.agg (encV b).toArray).cells 31)
  have blk2 := blk_psh_new (w := w1) (o := .cells (Value.agg (encV b).toArray).cells 31)
  rw [bx_e]
  have blk1 := stay b2 blk1
  generalize psh w1 (.cells (Value.agg (encV b).toArray).cells 31) = w2 at *
  have bd : Below w.heap.size w (drw w2) := (bt b1 b2).trans ⟨rfl, rfl, rfl, Nat.le_refl _, fun _ _ => rfl⟩
  have blk1 : (drw w2).heap[w.heap.size]? = _ := blk1
  have blk2 : (drw w2).heap[w1.heap.size]? = _ := blk2
  have a0 : (drw w2).cell? ⟨w.heap.size, 0, none⟩ = some (.int .i64 a.k) := by rw [cell_of_blk blk1]; rfl
  have a1 : (drw w2).cell? ⟨w.heap.size, 1, none⟩ = some (.int .i64 a.n) := by rw [cell_of_blk blk1]; rfl
  have a2 : (drw w2).cell? ⟨w.heap.size, 2, none⟩ = some (.string a.s) := by rw [cell_of_blk blk1]; rfl
  have c0 : (drw w2).cell? ⟨w1.heap.size, 0, none⟩ = some (.int .i64 b.k) := by rw [cell_of_blk blk2]; rfl
  have c1 : (drw w2).cell? ⟨w1.heap.size, 1, none⟩ = some (.int .i64 b.n) := by rw [cell_of_blk blk2]; rfl
  have c2 : (drw w2).cell? ⟨w1.heap.size, 2, none⟩ = some (.string b.s) := by rw [cell_of_blk blk2]; rfl
  try simp only [↓reduceIte, ↓LL, LM, Value.cells, Nat.reduceAdd, Option.some.injEq, exists_eq_left', decide_true, decide_false, if_true, if_false, reduceCtorEq, cond_true, cond_false, a0, a1, a2, c0, c1, c2]
  refine f49_s ?_
  try simp only [↓reduceIte, ↓LL, LM, Value.cells, Nat.reduceAdd, Option.some.injEq, exists_eq_left', decide_true, decide_false, if_true, if_false, reduceCtorEq, cond_true, cond_false, Kld_e]
  refine ⟨c2, a2, c1, a1, ?_⟩
  refine f50_s ?_
  try simp only [↓reduceIte, ↓LL, LM, Value.cells, Nat.reduceAdd, Option.some.injEq, exists_eq_left', decide_true, decide_false, if_true, if_false, reduceCtorEq, cond_true, cond_false, Kld_e]
  refine ⟨c2, a2, ?_⟩
  refine f51_s ?_
  refine ⟨_, _, lit43 _ _ _ _, ?_⟩
  have b3 := b_psh (drw w2) (.cells #[.int .i64 (cmpI a.k b.k), .int .i64 (cmpI a.n b.n), .int .i64 (cmpS a.s b.s)] 3)
  try simp only [↓reduceIte, ↓LL, LM, Value.cells, Nat.reduceAdd, Option.some.injEq, exists_eq_left', decide_true, decide_false, if_true, if_false, reduceCtorEq, cond_true, cond_false]
  refine f48_s blk_psh_new ?_
  try simp only [↓reduceIte, ↓LL, LM, Value.cells, Nat.reduceAdd, Option.some.injEq, exists_eq_left', decide_true, decide_false, if_true, if_false, reduceCtorEq, cond_true, cond_false]
  exact kk _ (bt bd b3)
theorem en37 : ∀ args w, (callFunc 37 args).run Try.prog w = .ok (.enter 37 args) w := enters_of Try.func37 (by kernel_rfl) rfl
/-- lists of one value compared -/
theorem f19_s {x y : Value} {a b : Val} (hx : rdR w x [a]) (hy : rdR w y [b]) (kk : ∀ w', Below w.heap.size w w' → Q (.int .i64 (cmpV a b)) w') : f19 x y w Q := by
  unfold f19 f36
  obtain ⟨ax, _, hcx, hax⟩ := val_at hx (i := 0) (by simp)
  obtain ⟨ay, _, hcy, hay⟩ := val_at hy (i := 0) (by simp)
  have ia1 : ∀ (K : Value → M) (w' : World) (Q : Value → World → Prop), ia 3 x (.int .i64 0) K w' Q = K (.pointer (some ax)) w' Q := fun K w' Q => hax .i64 K w' Q
  have ia2 : ∀ (K : Value → M) (w' : World) (Q : Value → World → Prop), ia 3 y (.int .i64 0) K w' Q = K (.pointer (some ay)) w' Q := fun K w' Q => hay .i64 K w' Q
  have l1 : (([a] : Row).length : Int) = 1 := rfl
  have l2 : (([b] : Row).length : Int) = 1 := rfl
  have e1 : IntKind.i64.wrap ((0 : Int) + 1) = 1 := rfl
  try simp only [↓reduceIte, ↓LL, LM, Value.cells, Nat.reduceAdd, Option.some.injEq, exists_eq_left', decide_true, decide_false, if_true, if_false, reduceCtorEq, cond_true, cond_false, lnl_R hx, l1]
  refine ⟨2, ?_⟩
  show f36_b2 f36_j1 (itr (fun _ _ _ _ _ _ => bot) (f36_b2 f36_j1) 1) x y (.func (.func 37) #[] #[]) x (.int .i64 1) (.int .i64 0) w _
  unfold f36_b2
  have h01 : (0 : Int) < 1 := by decide
  have h10 : ¬ (1 : Int) ≤ 0 := by decide
  try simp only [↓reduceIte, ↓LL, LM, Value.cells, Nat.reduceAdd, Option.some.injEq, exists_eq_left', decide_true, decide_false, if_true, if_false, reduceCtorEq, cond_true, cond_false, h01, ia1]
  refine ldn_at (hcx _ (Below.refl _ _)) rfl ?_
  try simp only [↓reduceIte, ↓LL, LM, Value.cells, Nat.reduceAdd, Option.some.injEq, exists_eq_left', decide_true, decide_false, if_true, if_false, reduceCtorEq, cond_true, cond_false]
  have b1 := b_psh w (.cells #[.int .i64 0, .int .i64 0, .string ⟨#[]⟩] 31)
  refine stn_box blk_psh_new rfl rfl (by simpa using encV_one a) fun w2 h2 hu2 => ?_
  have b2 : Below w.heap.size w w2 := b1.trans (hu2.below (Nat.le_refl _))
  try simp only [↓reduceIte, ↓LL, LM, Value.cells, Nat.reduceAdd, Option.some.injEq, exists_eq_left', decide_true, decide_false, if_true, if_false, reduceCtorEq, cond_true, cond_false, lnl_R hy, l2, h10, ia2]
  refine ldn_at (hcy _ b2) rfl ?_
  try simp only [↓reduceIte, ↓LL, LM, Value.cells, Nat.reduceAdd, Option.some.injEq, exists_eq_left', decide_true, decide_false, if_true, if_false, reduceCtorEq, cond_true, cond_false]
  have b3 := b_psh w2 (.cells #[.int .i64 0, .int .i64 0, .string ⟨#[]⟩] 31)
  refine stn_box blk_psh_new rfl rfl (by simpa using encV_one b) fun w4 h4 hu4 => ?_
  have b4' : Below w2.heap.size w2 w4 := b3.trans (hu4.below (Nat.le_refl _))
  have b4 := bt b2 b4'
  refine ldn_box (stay b4' h2) rfl ?_
  refine ldn_box h4 rfl ?_
  refine cf_p en37 ?_
  refine s37 _ _ w4 _ ?_
  refine f37_s fun w5 b5 => ?_
  have k := kk w5 (bt b4 b5)
  by_cases hz : cmpV a b = 0
  · try simp only [↓reduceIte, ↓LL, LM, Value.cells, Nat.reduceAdd, Option.some.injEq, exists_eq_left', decide_true, decide_false, if_true, if_false, reduceCtorEq, cond_true, cond_false, List.getElem_cons_zero, hz, ne_eq, e1]
    show f36_b2 f36_j1 (itr (fun _ _ _ _ _ _ => bot) (f36_b2 f36_j1) 0) x y (.func (.func 37) #[] #[]) x (.int .i64 1) (.int .i64 1) w5 _
    unfold f36_b2
    try simp only [↓reduceIte, ↓LL, LM, Value.cells, Nat.reduceAdd, Option.some.injEq, exists_eq_left', decide_true, decide_false, if_true, if_false, reduceCtorEq, cond_true, cond_false, Int.lt_irrefl]
    unfold f36_j1
    try simp only [↓reduceIte, ↓LL, LM, Value.cells, Nat.reduceAdd, Option.some.injEq, exists_eq_left', decide_true, decide_false, if_true, if_false, reduceCtorEq, cond_true, cond_false, lnl_R hx, lnl_R hy, l1, l2, Int.lt_irrefl]
    rw [hz] at k
    exact k
  · try simp only [↓reduceIte, ↓LL, LM, Value.cells, Nat.reduceAdd, Option.some.injEq, exists_eq_left', decide_true, decide_false, if_true, if_false, reduceCtorEq, cond_true, cond_false, List.getElem_cons_zero, hz, ne_eq]
    exact k
end
end Go.Proofs.Ytlmiimojgledpaa

set_option maxRecDepth 20000
namespace Go.Proofs.Ytlmiimojgledpaa
open Sh RowKit Go.MapKept
section
variable {W w w' : World} {Q : Value → World → Prop}
/-- a function told of such rows -/
def TellsC (W : World) (g : Value) (pr : Row → Bool) (ok : Row → Prop) : Prop := ∀ (rv : Value) (r : Row) (w : World) (K : Value → M) (Q : Value → World → Prop), Below W.heap.size W w → rdR w rv r → ok r → (∀ w', Below w.heap.size w w' → K (.bool (pr r)) w' Q) → cf Try.prog g #[rv] K w Q
theorem f32_loopC {v g : Value} {l : List Row} {pr : Row → Bool} {ok : Row → Prop} (h : rdL W v l) (hg : TellsC W g pr ok) (hl : l.length ≤ 100000) (hsz : ∀ r ∈ l, r.length * 32 ≤ 140737488355328) (hok : ∀ r ∈ l, ok r) : ∀ (d m i : Nat) (w : World) (u : Value), i + d = l.length → d < m → Below W.heap.size W w → OL W w u ((l.take i).filter pr) →
    (∀ w' u', Below W.heap.size W w' → OL W w' u' (l.filter pr) → Q u' w') →
    itr (fun _ _ _ _ _ => bot) (f32_b2 f32_j1) m g u v (.int .i64 (l.length : Nat)) (.int .i64 (i : Int)) w Q := by
  intro d
  induction d with
  | zero =>
    intro m i w u hi hm hb ho kk
    obtain ⟨m, rfl⟩ : ∃ x, m = x + 1 := ⟨m - 1, by omega⟩
    show f32_b2 f32_j1 _ _ _ _ _ _ w Q
    unfold f32_b2
    have c : ¬ (i : Int) < (l.length : Nat) := by omega
    try simp only [↓reduceIte, ↓LL, LM, Value.cells, Nat.reduceAdd, Option.some.injEq, exists_eq_left', decide_true, decide_false, if_true, if_false, reduceCtorEq, cond_true, cond_false, c]
    unfold f32_j1
    try simp only [↓reduceIte, ↓LL, LM, Value.cells, Nat.reduceAdd, Option.some.injEq, exists_eq_left', decide_true, decide_false, if_true, if_false, reduceCtorEq, cond_true, cond_false]
    rw [List.take_of_length_le (by omega)] at ho
    exact kk w u hb ho
  | succ d ih =>
    intro m i w u hi hm hb ho kk
    obtain ⟨m, rfl⟩ : ∃ x, m = x + 1 := ⟨m - 1, by omega⟩
    show f32_b2 f32_j1 _ _ _ _ _ _ w Q
    unfold f32_b2
    have c : (i : Int) < (l.length : Nat) := by omega
    have hil : i < l.length := by omega
    obtain ⟨ad, rv, hr, hc, hia⟩ := row_at h hil
    have cw := hc w hb
    have h3 : IntKind.i64.wrap ((i : Int) + 1) = ((i + 1 : Nat) : Int) := by rw [w64 (by omega) (by omega)]; rfl
    have hfl : ((l.take i).filter pr).length ≤ i := Nat.le_trans (List.length_filter_le _ _) (by rw [List.length_take]; omega)
    have hft : (l.take (i + 1)).filter pr = (l.take i).filter pr ++ (if pr l[i] = true then [l[i]] else []) := by
      rw [List.take_succ_eq_append_getElem hil, List.filter_append]
      congr 1
      rw [List.filter_cons, List.filter_nil]
    try simp only [↓reduceIte, ↓LL, LM, Value.cells, Nat.reduceAdd, Option.some.injEq, exists_eq_left', decide_true, decide_false, if_true, if_false, reduceCtorEq, cond_true, cond_false, c, hia, cw]
    refine hg rv l[i] w _ _ hb (rdR_b hb hr) (hok _ (List.getElem_mem hil)) fun w1 hb1 => ?_
    have b1 := bt hb hb1
    have o1 := ho.keep hb1 hb.size
    by_cases hp : pr l[i] = true
    · rw [if_pos hp] at hft
      try simp only [↓reduceIte, ↓LL, LM, Value.cells, Nat.reduceAdd, Option.some.injEq, exists_eq_left', decide_true, decide_false, if_true, if_false, reduceCtorEq, cond_true, cond_false, hp]
      refine f30_s (rdR_b b1 hr) (hsz _ (List.getElem_mem hil)) fun w2 x hx hb2 => ?_
      have b2 := bt b1 hb2
      have o2 := o1.keep hb2 b1.size
      try simp only [↓reduceIte, ↓LL, LM, Value.cells, Nat.reduceAdd, Option.some.injEq, exists_eq_left', decide_true, decide_false, if_true, if_false, reduceCtorEq, cond_true, cond_false]
      refine ap_L o2 (r := l[i]) (.inr ⟨ownE_weak hx.1 b1.size, hx.2⟩) (ownE_lenv hx) b2 (by omega) fun u' w3 o3 k3 => ?_
      unfold f32_j3
      try simp only [↓reduceIte, ↓LL, LM, Value.cells, Nat.reduceAdd, Option.some.injEq, exists_eq_left', decide_true, decide_false, if_true, if_false, reduceCtorEq, cond_true, cond_false, h3]
      rw [← hft] at o3
      exact ih m (i + 1) w3 u' (by omega) (by omega) (b2.trans k3.b) o3 kk
    · rw [if_neg hp, List.append_nil] at hft
      have hpf : pr l[i] = false := Bool.eq_false_iff.2 hp
      try simp only [↓reduceIte, ↓LL, LM, Value.cells, Nat.reduceAdd, Option.some.injEq, exists_eq_left', decide_true, decide_false, if_true, if_false, reduceCtorEq, cond_true, cond_false, hpf]
      unfold f32_j3
      try simp only [↓reduceIte, ↓LL, LM, Value.cells, Nat.reduceAdd, Option.some.injEq, exists_eq_left', decide_true, decide_false, if_true, if_false, reduceCtorEq, cond_true, cond_false, h3]
      rw [← hft] at o1
      exact ih m (i + 1) w1 u (by omega) (by omega) b1 o1 kk
theorem f32_sC {v g : Value} {l : List Row} {pr : Row → Bool} {ok : Row → Prop} (h : rdL w v l) (hg : TellsC w g pr ok) (hl : l.length ≤ 100000) (hsz : ∀ r ∈ l, r.length * 32 ≤ 140737488355328) (hok : ∀ r ∈ l, ok r) (kk : ∀ w' u', Below w.heap.size w w' → OL w w' u' (l.filter pr) → Q u' w') : f32 v g w Q := by
  unfold f32
  try simp only [↓reduceIte, ↓LL, LM, Value.cells, Nat.reduceAdd, Option.some.injEq, exists_eq_left', decide_true, decide_false, if_true, if_false, reduceCtorEq, cond_true, cond_false, lnl_L h]
  exact ⟨_, f32_loopC (W := w) h hg hl hsz hok l.length (l.length + 1) 0 w _ (by omega) (by omega) (Below.refl _ _) OL_nil kk⟩
theorem lit32 (a : Val) (w : World) : (Instr.buildSlice 32 1 #[(0, .agg (encV a).toArray)]).run Try.prog w = .ok (.slice (some ⟨w.heap.size, 0, none⟩) 1 1) (psh w (.cells (encV a).toArray 31)) := by
  kernel_rfl
theorem lit32_s {a : Val} {K : Value → M} (hok : okV a) (kk : ∀ w' x, rdR w' x [a] → Below w.heap.size w w' → K x w' Q) : sm Try.prog (Instr.buildSlice 32 1 #[(0, .agg (encV a).toArray)]) K w Q :=
  ⟨_, _, lit32 a w, kk _ _ (rd_lit1 (blk_psh_new (w := w) (o := .cells (encV a).toArray 31)) hok) (b_psh _ _)⟩
theorem f35_s {a b : Val} (ha : okV a) (hb : okV b) (kk : ∀ w', Below w.heap.size w w' → Q (.int .i64 (cmpV a b)) w') : f35 (.agg (encV a).toArray) (.agg (encV b).toArray) w Q := by
  unfold f35
  have b1 := b_psh w (.cells (Value.agg (encV a).toArray).cells 31)
  have blk1 := blk_psh_new (w := w) (o := .cells (Value.agg (encV a).toArray).cells 31)
  rw [bx_e]
  generalize psh w (.cells (Value.agg (encV a).toArray).cells 31) = w1 at *
  have b2 := b_psh w1 (.cells (Value.agg (encV b).toArray).cells 31)
  have blk2 := blk_psh_new (w := w1) (o := .cells (Value.agg (encV b).toArray).cells 31)
  rw [bx_e]
  have blk1 := stay b2 blk1
  generalize psh w1 (.cells (Value.agg (encV b).toArray).cells 31) = w2 at *
  have b12 := bt b1 b2
  refine ldn_box blk1 rfl ?_
  refine lit32_s ha fun w3 x hx b3 => ?_
  refine ldn_box (stay b3 blk2) rfl ?_
  refine lit32_s hb fun w4 y hy b4 => ?_
  try simp only [↓reduceIte, ↓LL, LM, Value.cells, Nat.reduceAdd, Option.some.injEq, exists_eq_left', decide_true, decide_false, if_true, if_false, reduceCtorEq, cond_true, cond_false]
  refine f19_s (rdR_b b4 hx) hy fun w5 b5 => ?_
  try simp only [↓reduceIte, ↓LL, LM, Value.cells, Nat.reduceAdd, Option.some.injEq, exists_eq_left', decide_true, decide_false, if_true, if_false, reduceCtorEq, cond_true, cond_false]
  exact kk w5 (bt (bt (bt b12 b3) b4) b5)
def loB (lo : List Val) (v : Val) : Bool := match lo with | [] => true | x :: _ => decide (0 ≤ cmpV v x)
def hiB (hi : List Val) (v : Val) : Bool := match hi with | [] => true | x :: _ => decide (cmpV v x < 0)
def whB (lo hi : List Val) (c : Nat) (r : Row) : Bool := loB lo (colV c r) && hiB hi (colV c r)
theorem loB_nil (v : Val) : loB [] v = true := rfl
theorem loB_cons (x : Val) (l : List Val) (v : Val) : loB (x :: l) v = decide (0 ≤ cmpV v x) := rfl
theorem hiB_nil (v : Val) : hiB [] v = true := rfl
theorem hiB_cons (x : Val) (l : List Val) (v : Val) : hiB (x :: l) v = decide (cmpV v x < 0) := rfl
attribute [local irreducible] cmpV
def f34_2 (rv p2 p3 t : Value) : M := (dr <| idv t fun t21 => idv t21 fun t22 => gd t22 true (ld p3) fun t23 => gd t22 true (lnl t23) fun t24 => gd t22 true (eqi .i64 t24 (.int .i64 0)) fun t25 => gd t22 true (idv t25) fun t26 =>
        gd t26 false (idv rv) fun t27 => gd t26 false (ld p2) fun t28 => gd t26 false (ia 3 t27 t28) fun t29 => gd t26 false (ldn 3 t29) fun t30 => gd t26 false (ld p3) fun t31 =>
        gd t26 false (ia 3 t31 (.int .i64 0)) fun t32 => gd t26 false (ldn 3 t32) fun t33 => gd t26 false (cl (f35 t30 t33)) fun t34 => gd t26 false (lt .i64 t34 (.int .i64 0)) fun t35 => gd t22 true (pk t26 (.bool true) t35) fun t36 =>
        pk t22 t36 (.bool false) fun t37 => idv t37 fun t5 => rt t5)
theorem f34_2s {rv hiv : Value} {hi : Row} {v : Val} {g2 g3 : Nat} {c : Int} {ad : Addr} (hhi : rdR w hiv hi) (okr : okV v) (hcell : ∀ w', Below w.heap.size w w' → cellsAt w' ad (encV v)) (hia : ∀ (K : Value → M) (w' : World) (Q : Value → World → Prop), ia 3 rv (.int .i64 c) K w' Q = K (.pointer (some ad)) w' Q)
    (h1 : ∀ w', Below w.heap.size w w' → w'.cell? ⟨g2, 0, none⟩ = some (.int .i64 c) ∧ w'.cell? ⟨g3, 0, none⟩ = some hiv) (w2 : World) (t : Bool) (hb2 : Below w.heap.size w w2) (k : ∀ w', Below w.heap.size w w' → Q (.bool (t && hiB hi v)) w') :
    f34_2 rv (.pointer (some ⟨g2, 0, none⟩)) (.pointer (some ⟨g3, 0, none⟩)) (.bool t) w2 Q := by
  unfold f34_2
  have bd : Below w.heap.size w (drw w2) := hb2.trans ⟨rfl, rfl, rfl, Nat.le_refl _, fun _ _ => rfl⟩
  obtain ⟨q2, q3⟩ := h1 _ bd
  cases t with
  | false =>
    have k := k _ bd
    try simp only [↓reduceIte, ↓LL, LM, Value.cells, Nat.reduceAdd, Option.some.injEq, exists_eq_left', decide_true, decide_false, if_true, if_false, reduceCtorEq, cond_true, cond_false] at k ⊢
    exact k
  | true =>
    cases hi with
    | nil =>
      have l0 : (([] : Row).length : Int) = 0 := rfl
      have k := k _ bd
      rw [hiB_nil] at k
      try simp only [↓reduceIte, ↓LL, LM, Value.cells, Nat.reduceAdd, Option.some.injEq, exists_eq_left', decide_true, decide_false, if_true, if_false, reduceCtorEq, cond_true, cond_false, q3, lnl_R hhi, l0] at k ⊢
      exact k
    | cons x hi' =>
      have l0 : ¬ (((x :: hi' : Row).length : Nat) : Int) = 0 := by simp; omega
      obtain ⟨adh, hokh, hch, hiah⟩ := val_at hhi (i := 0) (by simp)
      have ih : ∀ (K : Value → M) (w' : World), ia 3 hiv (.int .i64 0) K w' Q = K (.pointer (some adh)) w' Q := fun K w' => hiah .i64 K w' Q
      try simp only [↓reduceIte, ↓LL, LM, Value.cells, Nat.reduceAdd, Option.some.injEq, exists_eq_left', decide_true, decide_false, if_true, if_false, reduceCtorEq, cond_true, cond_false, q3, lnl_R hhi, l0, q2, hia]
      refine ldn_at (hcell _ bd) rfl ?_
      try simp only [↓reduceIte, ↓LL, LM, Value.cells, Nat.reduceAdd, Option.some.injEq, exists_eq_left', decide_true, decide_false, if_true, if_false, reduceCtorEq, cond_true, cond_false, q3, ih]
      refine ldn_at (hch _ bd) rfl ?_
      try simp only [↓reduceIte, ↓LL, LM, Value.cells, Nat.reduceAdd, Option.some.injEq, exists_eq_left', decide_true, decide_false, if_true, if_false, reduceCtorEq, cond_true, cond_false]
      refine f35_s okr hokh fun w3 b3 => ?_
      have := k w3 (bt bd b3)
      rw [hiB_cons] at this
      try simp only [↓reduceIte, ↓LL, LM, Value.cells, Nat.reduceAdd, Option.some.injEq, exists_eq_left', decide_true, decide_false, if_true, if_false, reduceCtorEq, cond_true, cond_false, List.getElem_cons_zero] at this ⊢
      exact this
theorem f34_eq (t0 t1 t2 t3 : Value) : f34 t0 t1 t2 t3 = (dr <| ld t1 fun t7 => lnl t7 fun t8 => eqi .i64 t8 (.int .i64 0) fun t9 => idv t9 fun t10 => gd t10 false (idv t0) fun t11 => gd t10 false (ld t2) fun t12 =>
    gd t10 false (ia 3 t11 t12) fun t13 => gd t10 false (ldn 3 t13) fun t14 => gd t10 false (ld t1) fun t15 => gd t10 false (ia 3 t15 (.int .i64 0)) fun t16 => gd t10 false (ldn 3 t16) fun t17 => gd t10 false (cl (f35 t14 t17)) fun t18 =>
    gd t10 false (ge .i64 t18 (.int .i64 0)) fun t19 => pk t10 (.bool true) t19 fun t20 => f34_2 t0 t2 t3 t20) := rfl
theorem f34_s {rv lov hiv : Value} {r lo hi : Row} {g1 g2 g3 : Nat} {c : Int} (hr : rdR w rv r) (hlo : rdR w lov lo) (hhi : rdR w hiv hi) (hc : 0 ≤ c ∧ c < r.length)
    (h1 : ∀ w', Below w.heap.size w w' → w'.cell? ⟨g1, 0, none⟩ = some lov ∧ w'.cell? ⟨g2, 0, none⟩ = some (.int .i64 c) ∧ w'.cell? ⟨g3, 0, none⟩ = some hiv)
    (kk : ∀ w', Below w.heap.size w w' → Q (.bool (whB lo hi c.toNat r)) w') : f34 rv (.pointer (some ⟨g1, 0, none⟩)) (.pointer (some ⟨g2, 0, none⟩)) (.pointer (some ⟨g3, 0, none⟩)) w Q := by
  rw [f34_eq]
  have hn : c.toNat < r.length := by omega
  obtain ⟨ad, hcell, hia⟩ := val_col hr hc
  have okr : okV (colV c.toNat r) := okc hr hn
  unfold whB at kk
  generalize colV c.toNat r = v at *
  -- the second half
  have second := fun (w2 : World) (t : Bool) (hb2 : Below w.heap.size w w2) (k : ∀ w', Below w.heap.size w w' → Q (.bool (t && hiB hi v)) w') => f34_2s (Q := Q) hhi okr hcell hia (fun w' hb => ⟨(h1 w' hb).2.1, (h1 w' hb).2.2⟩) w2 t hb2 k
  have bd : Below w.heap.size w (drw w) := ⟨rfl, rfl, rfl, Nat.le_refl _, fun _ _ => rfl⟩
  obtain ⟨q1, q2, q3⟩ := h1 _ bd
  cases lo with
  | nil =>
    have l0 : (([] : Row).length : Int) = 0 := rfl
    have := second (drw w) true bd fun w' hb => by have := kk w' hb; rw [loB_nil] at this; exact this
    rw [dr_q, ld_e]
    refine ⟨_, q1, ?_⟩
    rw [lnl_R hlo, eqi_e, show decide (((([] : Row).length : Nat) : Int) = 0) = true from rfl, idv_e]
    try simp only [↓reduceIte, ↓LL, LM, Value.cells, Nat.reduceAdd, Option.some.injEq, exists_eq_left', decide_true, decide_false, if_true, if_false, reduceCtorEq, cond_true, cond_false]
    exact this
  | cons x lo' =>
    have l0 : ¬ (((x :: lo' : Row).length : Nat) : Int) = 0 := by simp; omega
    obtain ⟨adl, hokl, hcl, hial⟩ := val_at hlo (i := 0) (by simp)
    have il : ∀ (K : Value → M) (w' : World), ia 3 lov (.int .i64 0) K w' Q = K (.pointer (some adl)) w' Q := fun K w' => hial .i64 K w' Q
    rw [dr_q, ld_e]
    refine ⟨_, q1, ?_⟩
    rw [lnl_R hlo, eqi_e, show decide ((((x :: lo' : Row).length : Nat) : Int) = 0) = false from decide_eq_false l0, idv_e]
    try simp only [↓reduceIte, ↓LL, LM, Value.cells, Nat.reduceAdd, Option.some.injEq, exists_eq_left', decide_true, decide_false, if_true, if_false, reduceCtorEq, cond_true, cond_false, q1, q2, hia]
    refine ldn_at (hcell _ bd) rfl ?_
    try simp only [↓reduceIte, ↓LL, LM, Value.cells, Nat.reduceAdd, Option.some.injEq, exists_eq_left', decide_true, decide_false, if_true, if_false, reduceCtorEq, cond_true, cond_false, q1, il]
    refine ldn_at (hcl _ bd) rfl ?_
    try simp only [↓reduceIte, ↓LL, LM, Value.cells, Nat.reduceAdd, Option.some.injEq, exists_eq_left', decide_true, decide_false, if_true, if_false, reduceCtorEq, cond_true, cond_false]
    refine f35_s okr hokl fun w3 b3 => ?_
    have k := fun w' hb => kk w' hb
    simp only [loB_cons] at k
    by_cases h : 0 ≤ cmpV v x
    · have := second w3 true (bt bd b3) fun w' hb => by have := k w' hb; rw [decide_eq_true h] at this; exact this
      try simp only [↓reduceIte, ↓LL, LM, Value.cells, Nat.reduceAdd, Option.some.injEq, exists_eq_left', decide_true, decide_false, if_true, if_false, reduceCtorEq, cond_true, cond_false, List.getElem_cons_zero, h]
      exact this
    · have := second w3 false (bt bd b3) fun w' hb => by have := k w' hb; rw [decide_eq_false h] at this; exact this
      try simp only [↓reduceIte, ↓LL, LM, Value.cells, Nat.reduceAdd, Option.some.injEq, exists_eq_left', decide_true, decide_false, if_true, if_false, reduceCtorEq, cond_true, cond_false, List.getElem_cons_zero, h]
      exact this
end
end Go.Proofs.Ytlmiimojgledpaa

set_option maxRecDepth 20000
namespace Go.Proofs.Ytlmiimojgledpaa
open Sh RowKit Go.MapKept
theorem en34 : ∀ args w, (callFunc 34 args).run Try.prog w = .ok (.enter 34 args) w := enters_of Try.func34 (by kernel_rfl) rfl
section
variable {W w w' : World} {Q : Value → World → Prop}
theorem f18_s {v lov hiv : Value} {l : List Row} {lo hi : Row} {c : Int} (h : rdL w v l) (hlo : rdR w lov lo) (hhi : rdR w hiv hi) (hl : l.length ≤ 100000) (hsz : ∀ r ∈ l, r.length * 32 ≤ 140737488355328)
    (k7 : l.any (lacksB c) = true → ∀ w', Below w.heap.size w w' → Q (.tuple #[.slice none 0 0, .int .i64 7]) w')
    (k0 : l.any (lacksB c) = false → ∀ w' u, Below w.heap.size w w' → rdL w' u (l.filter (whB lo hi c.toNat)) → Q (.tuple #[u, .int .i64 0]) w') : f18 v (.int .i64 c) lov hiv w Q := by
  unfold f18
  obtain ⟨p1, c1, e1⟩ := rdS_len hlo
  obtain ⟨p2, c2, e2⟩ := rdS_len hhi
  have b1 := b_psh w (.cells (Value.int .i64 c).cells 3)
  have blk1 := blk_psh_new (w := w) (o := .cells (Value.int .i64 c).cells 3)
  rw [bx_e]
  generalize psh w (.cells (Value.int .i64 c).cells 3) = w1 at *
  have b2 := b_psh w1 (.cells lov.cells 32)
  have blk2 := blk_psh_new (w := w1) (o := .cells lov.cells 32)
  rw [bx_e]
  have blk1 := stay b2 blk1
  generalize psh w1 (.cells lov.cells 32) = w2 at *
  have b3 := b_psh w2 (.cells hiv.cells 32)
  have blk3 := blk_psh_new (w := w2) (o := .cells hiv.cells 32)
  rw [bx_e]
  have blk1 := stay b3 blk1
  have blk2 := stay b3 blk2
  generalize psh w2 (.cells hiv.cells 32) = w3 at *
  have b03 := bt (bt b1 b2) b3
  have q1 : w3.cell? ⟨w.heap.size, 0, none⟩ = some (.int .i64 c) := by rw [cell_of_blk blk1]; rfl
  simp only [↓reduceIte, ↓LL, LM, Value.cells, Nat.reduceAdd, Option.some.injEq, exists_eq_left', decide_true, decide_false, if_true, if_false, reduceCtorEq, cond_true, cond_false, q1]
  refine f26_s (rdL_b b03 h) (by omega) c fun w4 b4 => ?_
  have b04 := bt b03 b4
  have blk1 := stay b4 blk1
  have blk2 := stay b4 blk2
  have blk3 := stay b4 blk3
  by_cases hany : l.any (lacksB c) = true
  · simp only [↓reduceIte, ↓LL, LM, Value.cells, Nat.reduceAdd, Option.some.injEq, exists_eq_left', decide_true, decide_false, if_true, if_false, reduceCtorEq, cond_true, cond_false, hany]
    exact k7 hany w4 b04
  · have hanf : l.any (lacksB c) = false := Bool.eq_false_iff.2 hany
    simp only [↓reduceIte, ↓LL, LM, Value.cells, Nat.reduceAdd, Option.some.injEq, exists_eq_left', decide_true, decide_false, if_true, if_false, reduceCtorEq, cond_true, cond_false, hanf]
    refine f32_sC (rdL_b b04 h) (pr := whB lo hi c.toNat) (ok := fun r => 0 ≤ c ∧ c < r.length) ?_ hl hsz (not_lacks hanf) fun w5 u b5 o5 => ?_
    · intro rv r w6 K Q b6 hr hok k
      refine cf_p en34 ?_
      refine s34 rv (.pointer (some ⟨w1.heap.size, 0, none⟩)) (.pointer (some ⟨w.heap.size, 0, none⟩)) (.pointer (some ⟨w2.heap.size, 0, none⟩)) w6 _ ?_
      refine f34_s hr (rdR_b (bt b04 b6) hlo) (rdR_b (bt b04 b6) hhi) hok (fun w7 b7 => ?_) k
      have s1 := stay b7 (stay b6 blk1)
      have s2 := stay b7 (stay b6 blk2)
      have s3 := stay b7 (stay b6 blk3)
      refine ⟨?_, ?_, ?_⟩
      · rw [cell_of_blk s2, e1]; rfl
      · rw [cell_of_blk s1]; rfl
      · rw [cell_of_blk s3, e2]; rfl
    · try simp only [↓reduceIte, ↓LL, LM, Value.cells, Nat.reduceAdd, Option.some.injEq, exists_eq_left', decide_true, decide_false, if_true, if_false, reduceCtorEq, cond_true, cond_false]
      exact k0 hanf w5 u (bt b04 b5) (o5.rd b5)
end
end Go.Proofs.Ytlmiimojgledpaa

set_option maxRecDepth 20000
namespace Go.Proofs.Ytlmiimojgledpaa
open Sh RowKit Go.MapKept
theorem filt_at {α : Type} {p : α → Bool} {l : List α} {n : Nat} (hn : n < l.length) (hp : p l[n] = true) : ∃ h : ((l.take n).filter p).length < (l.filter p).length, (l.filter p)[((l.take n).filter p).length] = l[n] := by
  have e : l.filter p = (l.take n).filter p ++ (l[n] :: (l.drop (n + 1)).filter p) := by
    have e0 : l = l.take n ++ l[n] :: l.drop (n + 1) := by rw [List.getElem_cons_drop, List.take_append_drop]
    conv => lhs; rw [e0]
    rw [List.filter_append, List.filter_cons, if_pos hp]
  have hlt : ((l.take n).filter p).length < (l.filter p).length := by rw [e, List.length_append, List.length_cons]; omega
  refine ⟨hlt, ?_⟩
  have h1 : (l.filter p)[((l.take n).filter p).length]? = some l[n] := by
    rw [e, List.getElem?_append_right (Nat.le_refl _), Nat.sub_self]; rfl
  rw [List.getElem?_eq_getElem hlt] at h1
  exact Option.some.inj h1
theorem filt_len {α : Type} {p : α → Bool} {l : List α} {n : Nat} (hn : n < l.length) : ((l.take (n + 1)).filter p).length = ((l.take n).filter p).length + (if p l[n] = true then 1 else 0) := by
  rw [List.take_succ_eq_append_getElem hn, List.filter_append, List.length_append, List.filter_cons, List.filter_nil]
  split <;> rfl
theorem filt_two {α : Type} {p : α → Bool} : ∀ l : List α, (l.filter p).length + (l.filter (fun x => !p x)).length = l.length
  | [] => rfl
  | x :: l => by
    have := filt_two (p := p) l
    rw [List.filter_cons, List.filter_cons, List.length_cons]
    cases p x <;> simp <;> omega
def bel (v : Val) (c : Nat) (r : Row) : Bool := decide (cmpV (colV c r) v < 0)
theorem whB_lo (v : Val) (c : Nat) : whB [] [v] c = bel v c := by
  funext r; unfold whB bel; rw [loB_nil, hiB_cons, Bool.true_and]
theorem whB_hi (v : Val) (c : Nat) : whB [v] [] c = fun r => !bel v c r := by
  funext r; unfold whB bel; rw [loB_cons, hiB_nil, Bool.and_true]
  by_cases h : cmpV (colV c r) v < 0
  · rw [decide_eq_true h, decide_eq_false (by omega)]; rfl
  · rw [decide_eq_false h, decide_eq_true (by omega)]; rfl
theorem left_self (l : List Row) : l.filter (left l) = [] := by
  rw [List.filter_eq_nil_iff]
  intro r hr h
  unfold left at h
  have : (l.any fun s => decide (r = s)) = true := List.any_eq_true.2 ⟨r, hr, by simp⟩
  rw [this] at h; cases h
theorem once_has : ∀ (l out : List Row) (r : Row), r ∈ out ∨ r ∈ l → r ∈ once out l
  | [], out, r, h => by simpa [once] using h
  | x :: l, out, r, h => by
    unfold once
    by_cases c : (out.any fun s => decide (x = s)) = true
    · rw [if_pos c]
      refine once_has l out r ?_
      rcases h with h | h
      · exact .inl h
      · rcases List.mem_cons.1 h with rfl | h
        · left
          obtain ⟨s, hs, e⟩ := List.any_eq_true.1 c
          rw [of_decide_eq_true e]; exact hs
        · exact .inr h
    · rw [if_neg c]
      refine once_has l _ r ?_
      rcases h with h | h
      · exact .inl (List.mem_append.2 (.inl h))
      · rcases List.mem_cons.1 h with rfl | h
        · exact .inl (List.mem_append.2 (.inr (by simp)))
        · exact .inr h
theorem left_once (l : List Row) : l.filter (left (once [] l)) = [] := by
  rw [List.filter_eq_nil_iff]
  intro r hr h
  unfold left at h
  have : ((once [] l).any fun s => decide (r = s)) = true := List.any_eq_true.2 ⟨r, once_has l [] r (.inr hr), by simp⟩
  rw [this] at h; cases h
theorem once_nodup : ∀ (l out : List Row), out.Nodup → (once out l).Nodup
  | [], out, h => by simpa [once] using h
  | x :: l, out, h => by
    unfold once
    by_cases c : (out.any fun s => decide (x = s)) = true
    · rw [if_pos c]; exact once_nodup l out h
    · rw [if_neg c]
      refine once_nodup l _ ?_
      rw [List.nodup_append]
      refine ⟨h, by simp, fun a ha b hb e => ?_⟩
      rw [List.mem_singleton] at hb
      subst hb; subst e
      exact c (List.any_eq_true.2 ⟨_, ha, by simp⟩)
theorem once_of_nodup : ∀ (l out : List Row), (out ++ l).Nodup → once out l = out ++ l
  | [], out, h => by simp [once]
  | x :: l, out, h => by
    unfold once
    have c : ¬ (out.any fun s => decide (x = s)) = true := by
      intro c
      obtain ⟨s, hs, e⟩ := List.any_eq_true.1 c
      have e := of_decide_eq_true e
      subst e
      rw [List.nodup_append] at h
      exact h.2.2 _ hs _ (by simp) rfl
    rw [if_neg c, once_of_nodup l _ (by simpa using h), List.append_assoc]; rfl
theorem once_once (l : List Row) : once [] (once [] l) = once [] l := by
  rw [once_of_nodup _ [] (by simpa using once_nodup l [] List.nodup_nil)]; rfl
section
variable {W w w' : World} {Q : Value → World → Prop}
theorem gdB_ff : gdB (.bool false) true = false := rfl
/-- a step's end -/
theorem f5_j3s {V : World} {vl va vb : Value} {l : List Row} {v : Val} {c g : Value} {cn : Nat} (hl : rdL V vl l) (ha : rdL V va (l.filter (bel v cn))) (hb : rdL V vb (l.filter (fun r => !bel v cn r))) (hll : l.length ≤ 100000) (hsz : ∀ r ∈ l, r.length ≤ 9223372036854775806)
    {n : Nat} (hn : n < l.length) {self2 : Value → Value → Value → Value → Value → Value → Value → Value → M} (hbw : Below V.heap.size V w)
    (kk : ∀ w', Below V.heap.size V w' → self2 vl c g va vb (.int .i64 (((l.take (n + 1)).filter (bel v cn)).length : Nat)) (.int .i64 (((l.take (n + 1)).filter (fun r => !bel v cn r)).length : Nat)) (.int .i64 ((n + 1 : Nat) : Int)) w' Q) :
    f5_j3 self2 vl c g va vb (.int .i64 (((l.take n).filter (bel v cn)).length : Nat)) (.int .i64 (((l.take n).filter (fun r => !bel v cn r)).length : Nat)) (.int .i64 (n : Int)) (.bool (bel v cn l[n])) w Q := by
  unfold f5_j3
  have hbd : Below V.heap.size V (drw w) := hbw.trans ⟨rfl, rfl, rfl, Nat.le_refl _, fun _ _ => rfl⟩
  obtain ⟨adl, rl, hrl, hcl, hil⟩ := row_at hl hn
  have qc := hcl _ hbd
  have h3 : IntKind.i64.wrap ((n : Int) + 1) = ((n + 1 : Nat) : Int) := by rw [w64 (by omega) (by omega)]; rfl
  have f1 : ((l.take n).filter (bel v cn)).length ≤ n := Nat.le_trans (List.length_filter_le _ _) (by rw [List.length_take]; omega)
  have f2 : ((l.take n).filter (fun r => !bel v cn r)).length ≤ n := Nat.le_trans (List.length_filter_le _ _) (by rw [List.length_take]; omega)
  have l1 := filt_len (p := bel v cn) hn
  have l2 := filt_len (p := fun r => !bel v cn r) hn
  cases hc : bel v cn l[n] with
  | true =>
    rw [hc] at l1 l2
    simp only [if_true, Bool.not_true, Bool.false_eq_true, if_false, Nat.add_zero] at l1 l2
    obtain ⟨hlt, hat⟩ := filt_at (p := bel v cn) hn hc
    obtain ⟨ada, ra, hra, hca, hia⟩ := row_at ha hlt
    rw [hat] at hra
    have qa := hca _ hbd
    have h4 : IntKind.i64.wrap ((((l.take n).filter (bel v cn)).length : Int) + 1) = ((((l.take n).filter (bel v cn)).length + 1 : Nat) : Int) := by rw [w64 (by omega) (by omega)]; rfl
    simp only [↓reduceIte, ↓LL, LM, Value.cells, Nat.reduceAdd, Option.some.injEq, exists_eq_left', decide_true, decide_false, if_true, if_false, reduceCtorEq, cond_true, cond_false, hia, qa, hil, qc]
    refine f11_s (rdR_b hbd hra) (rdR_b hbd hrl) (hsz _ (List.getElem_mem hn)) fun w1 b1 => ?_
    simp only [↓reduceIte, ↓LL, LM, Value.cells, Nat.reduceAdd, Option.some.injEq, exists_eq_left', decide_true, decide_false, if_true, if_false, reduceCtorEq, cond_true, cond_false, h4]
    unfold f5_j4
    simp only [↓reduceIte, ↓LL, LM, Value.cells, Nat.reduceAdd, Option.some.injEq, exists_eq_left', decide_true, decide_false, if_true, if_false, reduceCtorEq, cond_true, cond_false, h3]
    have := kk w1 (bt hbd b1)
    rw [l1, l2] at this
    exact this
  | false =>
    rw [hc] at l1 l2
    simp only [if_true, Bool.not_false, Bool.false_eq_true, if_false, Nat.add_zero] at l1 l2
    obtain ⟨hlt, hat⟩ := filt_at (p := fun r => !bel v cn r) hn (by rw [hc]; rfl)
    obtain ⟨ada, ra, hra, hca, hia⟩ := row_at hb hlt
    rw [hat] at hra
    have qa := hca _ hbd
    have hlt' : (((l.take n).filter (fun r => !bel v cn r)).length : Int) < ((l.filter (fun r => !bel v cn r)).length : Nat) := by omega
    have h4 : IntKind.i64.wrap ((((l.take n).filter (fun r => !bel v cn r)).length : Int) + 1) = ((((l.take n).filter (fun r => !bel v cn r)).length + 1 : Nat) : Int) := by rw [w64 (by omega) (by omega)]; rfl
    simp only [↓reduceIte, ↓LL, LM, Value.cells, Nat.reduceAdd, Option.some.injEq, exists_eq_left', decide_true, decide_false, if_true, if_false, reduceCtorEq, cond_true, cond_false, lnl_L hb, hlt', hia, qa, hil, qc]
    refine f11_s (rdR_b hbd hra) (rdR_b hbd hrl) (hsz _ (List.getElem_mem hn)) fun w1 b1 => ?_
    simp only [↓reduceIte, ↓LL, LM, Value.cells, Nat.reduceAdd, Option.some.injEq, exists_eq_left', decide_true, decide_false, if_true, if_false, reduceCtorEq, cond_true, cond_false, h4]
    unfold f5_j4
    simp only [↓reduceIte, ↓LL, LM, Value.cells, Nat.reduceAdd, Option.some.injEq, exists_eq_left', decide_true, decide_false, if_true, if_false, reduceCtorEq, cond_true, cond_false, h3]
    have := kk w1 (bt hbd b1)
    rw [l1, l2] at this
    exact this
end
end Go.Proofs.Ytlmiimojgledpaa

set_option maxRecDepth 20000
namespace Go.Proofs.Ytlmiimojgledpaa
open Sh RowKit Go.MapKept
section
variable {W w w' : World} {Q : Value → World → Prop}
theorem f5_loop {V : World} {vl va vb : Value} {l : List Row} {v : Val} {c : Int} {g : Nat} (hl : rdL V vl l) (ha : rdL V va (l.filter (bel v c.toNat))) (hb : rdL V vb (l.filter (fun r => !bel v c.toNat r))) (hll : l.length ≤ 100000) (hsz : ∀ r ∈ l, r.length ≤ 9223372036854775806)
    (hcol : ∀ r ∈ l, 0 ≤ c ∧ c < r.length) (okv : okV v) (hg : ∀ w', Below V.heap.size V w' → cellsAt w' ⟨g, 0, none⟩ (encV v)) {j1 : Value → Value → Value → Value → Value → M} :
    ∀ (d m n : Nat) (w : World), n + d = l.length → d < m → Below V.heap.size V w →
    (∀ w', Below V.heap.size V w' → j1 vl va vb (.int .i64 ((l.filter (bel v c.toNat)).length : Nat)) (.int .i64 ((l.filter (fun r => !bel v c.toNat r)).length : Nat)) w' Q) →
    itr (fun _ _ _ _ _ _ _ _ => bot) (f5_b2 j1) m vl (.int .i64 c) (.pointer (some ⟨g, 0, none⟩)) va vb (.int .i64 (((l.take n).filter (bel v c.toNat)).length : Nat)) (.int .i64 (((l.take n).filter (fun r => !bel v c.toNat r)).length : Nat)) (.int .i64 (n : Int)) w Q := by
  intro d
  induction d with
  | zero =>
    intro m n w hi hm hb kk
    obtain ⟨m, rfl⟩ : ∃ x, m = x + 1 := ⟨m - 1, by omega⟩
    show f5_b2 j1 _ _ _ _ _ _ _ _ _ w Q
    unfold f5_b2
    have cc : ¬ (n : Int) < (l.length : Nat) := by omega
    try simp only [↓reduceIte, ↓LL, LM, Value.cells, Nat.reduceAdd, Option.some.injEq, exists_eq_left', decide_true, decide_false, if_true, if_false, reduceCtorEq, cond_true, cond_false, lnl_L hl, cc]
    have := kk w hb
    rw [List.take_of_length_le (by omega)]
    exact this
  | succ d ih =>
    intro m n w hi hm hbw kk
    obtain ⟨m, rfl⟩ : ∃ x, m = x + 1 := ⟨m - 1, by omega⟩
    show f5_b2 j1 _ _ _ _ _ _ _ _ _ w Q
    unfold f5_b2
    have cc : (n : Int) < (l.length : Nat) := by omega
    have hn : n < l.length := by omega
    have step := fun (w1 : World) (hb1 : Below V.heap.size V w1) => f5_j3s (Q := Q) (c := .int .i64 c) (g := .pointer (some ⟨g, 0, none⟩)) (self2 := itr (fun _ _ _ _ _ _ _ _ => bot) (f5_b2 j1) m) hl ha hb hll hsz hn hb1 fun w' hb' => ih m (n + 1) w' (by omega) (by omega) hb' kk
    have hbd : Below V.heap.size V (drw w) := hbw.trans ⟨rfl, rfl, rfl, Nat.le_refl _, fun _ _ => rfl⟩
    obtain ⟨adl, rl, hrl, hcl, hil⟩ := row_at hl hn
    have hcc := hcol _ (List.getElem_mem hn)
    obtain ⟨adv, hcv, hiv⟩ := val_col hrl hcc
    have okr : okV (colV c.toNat l[n]) := okc hrl (by omega)
    have qc := hcl _ hbd
    by_cases hlt : ((l.take n).filter (bel v c.toNat)).length < (l.filter (bel v c.toNat)).length
    · have hlt' : ((((l.take n).filter (bel v c.toNat)).length : Nat) : Int) < ((l.filter (bel v c.toNat)).length : Nat) := by omega
      try simp only [↓reduceIte, ↓LL, LM, Value.cells, Nat.reduceAdd, Option.some.injEq, exists_eq_left', decide_true, decide_false, if_true, if_false, reduceCtorEq, cond_true, cond_false, lnl_L hl, cc, lnl_L ha, hlt', hil, qc, hiv]
      refine ldn_at (hcv _ hbd) rfl ?_
      try simp only [↓reduceIte, ↓LL, LM, Value.cells, Nat.reduceAdd, Option.some.injEq, exists_eq_left', decide_true, decide_false, if_true, if_false, reduceCtorEq, cond_true, cond_false]
      refine ldn_at (hg _ hbd) rfl ?_
      constructor
      · simp only [↓reduceIte, ↓LL, LM, Value.cells, Nat.reduceAdd, Option.some.injEq, exists_eq_left', decide_true, decide_false, if_true, if_false, reduceCtorEq, cond_true, cond_false]
        refine lit32_s okr fun w1 x hx b1 => ?_
        have b1' := bt hbd b1
        rw [kp_e]
        refine ⟨fun _ => ?_, ?_⟩
        · rw [Kldn_e]; exact ⟨rfl, fun j u hj => hg _ b1' j u (by simpa using hj)⟩
        try simp only [↓reduceIte, ↓LL, LM, Value.cells, Nat.reduceAdd, Option.some.injEq, exists_eq_left', decide_true, decide_false, if_true, if_false, reduceCtorEq, cond_true, cond_false]
        refine lit32_s okv fun w2 y hy b2 => ?_
        have b2' := bt b1' b2
        rw [kp_e]
        refine ⟨fun _ => ?_, ?_⟩
        · rw [Kldn_e]; exact ⟨rfl, fun j u hj => hcv _ b2' j u (by simpa using hj)⟩
        rw [kp_e]
        refine ⟨fun _ => ?_, ?_⟩
        · rw [Kld_e]; exact hcl _ b2'
        try simp only [↓reduceIte, ↓LL, LM, Value.cells, Nat.reduceAdd, Option.some.injEq, exists_eq_left', decide_true, decide_false, if_true, if_false, reduceCtorEq, cond_true, cond_false]
        refine f19_s (rdR_b b2 hx) hy fun w3 b3 => ?_
        try simp only [↓reduceIte, ↓LL, LM, Value.cells, Nat.reduceAdd, Option.some.injEq, exists_eq_left', decide_true, decide_false, if_true, if_false, reduceCtorEq, cond_true, cond_false]
        exact step w3 (bt b2' b3)
      · simp only [↓reduceIte, ↓LL, LM, Value.cells, Nat.reduceAdd, Option.some.injEq, exists_eq_left', decide_true, decide_false, if_true, if_false, reduceCtorEq, cond_true, cond_false]
        refine lit32_s okv fun w1 x hx b1 => ?_
        have b1' := bt hbd b1
        rw [kp_e]
        refine ⟨fun _ => ?_, ?_⟩
        · rw [Kldn_e]; exact ⟨rfl, fun j u hj => hcv _ b1' j u (by simpa using hj)⟩
        rw [kp_e]
        refine ⟨fun _ => ?_, ?_⟩
        · rw [Kld_e]; exact hcl _ b1'
        try simp only [↓reduceIte, ↓LL, LM, Value.cells, Nat.reduceAdd, Option.some.injEq, exists_eq_left', decide_true, decide_false, if_true, if_false, reduceCtorEq, cond_true, cond_false]
        refine lit32_s okr fun w2 y hy b2 => ?_
        have b2' := bt b1' b2
        rw [kp_e]
        refine ⟨fun _ => ?_, ?_⟩
        · rw [Kldn_e]; exact ⟨rfl, fun j u hj => hg _ b2' j u (by simpa using hj)⟩
        try simp only [↓reduceIte, ↓LL, LM, Value.cells, Nat.reduceAdd, Option.some.injEq, exists_eq_left', decide_true, decide_false, if_true, if_false, reduceCtorEq, cond_true, cond_false]
        refine f19_s hy (rdR_b b2 hx) fun w3 b3 => ?_
        try simp only [↓reduceIte, ↓LL, LM, Value.cells, Nat.reduceAdd, Option.some.injEq, exists_eq_left', decide_true, decide_false, if_true, if_false, reduceCtorEq, cond_true, cond_false]
        exact step w3 (bt b2' b3)
    · have hlt' : ¬ ((((l.take n).filter (bel v c.toNat)).length : Nat) : Int) < ((l.filter (bel v c.toNat)).length : Nat) := by omega
      have hnb : bel v c.toNat l[n] = false := by
        cases e : bel v c.toNat l[n] with
        | false => rfl
        | true => exact absurd (filt_at (p := bel v c.toNat) hn e).1 hlt
      have st := step (drw w) hbd
      rw [hnb] at st
      try simp only [↓reduceIte, ↓LL, LM, Value.cells, Nat.reduceAdd, Option.some.injEq, exists_eq_left', decide_true, decide_false, if_true, if_false, reduceCtorEq, cond_true, cond_false, lnl_L hl, cc, lnl_L ha, hlt']
      refine ⟨?_, ?_⟩
      all_goals
        try simp only [↓reduceIte, ↓LL, LM, Value.cells, Nat.reduceAdd, Option.some.injEq, exists_eq_left', decide_true, decide_false, if_true, if_false, reduceCtorEq, cond_true, cond_false, gdB_ff, false_implies, true_and, implies_true]
        exact st
theorem f5_s {vl : Value} {l : List Row} {v : Val} {c : Int} (h : rdL w vl l) (okv : okV v) (hN : ∀ s ∈ l, s.length * 32 ≤ 140737488355328) (kk : ∀ w', Below w.heap.size w w' → Q (.bool true) w') :
    f5 vl (.int .i64 c) (.agg (encV v).toArray) w Q := by
  unfold f5
  have b1 := b_psh w (.cells (Value.agg (encV v).toArray).cells 31)
  have blk := blk_psh_new (w := w) (o := .cells (Value.agg (encV v).toArray).cells 31)
  rw [bx_e]
  generalize psh w (.cells (Value.agg (encV v).toArray).cells 31) = w1 at *
  try simp only [↓reduceIte, ↓LL, LM, Value.cells, Nat.reduceAdd, Option.some.injEq, exists_eq_left', decide_true, decide_false, if_true, if_false, reduceCtorEq, cond_true, cond_false]
  refine f8_s fun w2 c2 => ?_
  have b2 := bt b1 c2
  have blk2 := stay c2 blk
  try simp only [↓reduceIte, ↓LL, LM, Value.cells, Nat.reduceAdd, Option.some.injEq, exists_eq_left', decide_true, decide_false, if_true, if_false, reduceCtorEq, cond_true, cond_false]
  refine f9_s (rdL_b b2 h) fun va' ha' => ?_
  have hla : (l.take 80).length ≤ 80 := by rw [List.length_take]; omega
  have hNa' : ∀ s ∈ l.take 80, s.length * 32 ≤ 140737488355328 := fun s hs => hN s (List.mem_of_mem_take hs)
  generalize l.take 80 = a' at *
  have hat : ∀ w', Below w2.heap.size w2 w' → cellsAt w' ⟨w.heap.size, 0, none⟩ (encV v) := by
    intro w' hb' j x hj
    rw [add_lit, Nat.zero_add, cell_of_blk (stay hb' blk2)]
    simpa [Value.cells] using hj
  have hla9 : ∀ r ∈ a', r.length ≤ 9223372036854775806 := fun r hr => by have := hNa' r hr; omega
  try simp only [↓reduceIte, ↓LL, LM, Value.cells, Nat.reduceAdd, Option.some.injEq, exists_eq_left', decide_true, decide_false, if_true, if_false, reduceCtorEq, cond_true, cond_false]
  refine ldn_at (hat _ (Below.refl _ _)) rfl ?_
  refine lit32_s okv fun w3 x hx c3 => ?_
  have g0 : ∀ a b : Value, (#[a, b] : Array Value)[0]? = some a := fun _ _ => rfl
  have g1 : ∀ a b : Value, (#[a, b] : Array Value)[1]? = some b := fun _ _ => rfl
  try simp only [↓reduceIte, ↓LL, LM, Value.cells, Nat.reduceAdd, Option.some.injEq, exists_eq_left', decide_true, decide_false, if_true, if_false, reduceCtorEq, cond_true, cond_false]
  refine f18_s (lo := []) (hi := [v]) (rdL_b c3 ha') (.inl ⟨rfl, rfl⟩) hx (by omega) hNa' (fun h7 w4 c4 => ?_) (fun h0 w4 ua c4 ra => ?_)
  · have c34 := bt c3 c4
    try simp only [↓reduceIte, ↓LL, LM, Value.cells, Nat.reduceAdd, Option.some.injEq, exists_eq_left', decide_true, decide_false, if_true, if_false, reduceCtorEq, cond_true, cond_false, g0, g1]
    refine ldn_at (hat _ c34) rfl ?_
    refine lit32_s okv fun w5 y hy c5 => ?_
    have c35 := bt c34 c5
    try simp only [↓reduceIte, ↓LL, LM, Value.cells, Nat.reduceAdd, Option.some.injEq, exists_eq_left', decide_true, decide_false, if_true, if_false, reduceCtorEq, cond_true, cond_false]
    refine f18_s (lo := [v]) (hi := []) (rdL_b c35 ha') hy (.inl ⟨rfl, rfl⟩) (by omega) hNa' (fun _ w6 c6 => ?_) (fun h0 => by rw [h7] at h0; cases h0)
    have h70 : ¬ (7 : Int) = 0 := by decide
    try simp only [↓reduceIte, ↓LL, LM, Value.cells, Nat.reduceAdd, Option.some.injEq, exists_eq_left', decide_true, decide_false, if_true, if_false, reduceCtorEq, cond_true, cond_false, g0, g1, h70, ne_eq]
    exact kk w6 (bt (bt b2 c35) c6)
  · have c34 := bt c3 c4
    rw [whB_lo] at ra
    try simp only [↓reduceIte, ↓LL, LM, Value.cells, Nat.reduceAdd, Option.some.injEq, exists_eq_left', decide_true, decide_false, if_true, if_false, reduceCtorEq, cond_true, cond_false, g0, g1]
    refine ldn_at (hat _ c34) rfl ?_
    refine lit32_s okv fun w5 y hy c5 => ?_
    have c35 := bt c34 c5
    try simp only [↓reduceIte, ↓LL, LM, Value.cells, Nat.reduceAdd, Option.some.injEq, exists_eq_left', decide_true, decide_false, if_true, if_false, reduceCtorEq, cond_true, cond_false]
    refine f18_s (lo := [v]) (hi := []) (rdL_b c35 ha') hy (.inl ⟨rfl, rfl⟩) (by omega) hNa' (fun h7 => by rw [h0] at h7; cases h7) (fun _ w6 ub c6 rb => ?_)
    rw [whB_hi] at rb
    have c36 := bt c35 c6
    have b6 := bt b2 c36
    try simp only [↓reduceIte, ↓LL, LM, Value.cells, Nat.reduceAdd, Option.some.injEq, exists_eq_left', decide_true, decide_false, if_true, if_false, reduceCtorEq, cond_true, cond_false, g0, g1, ne_eq]
    refine ⟨_, f5_loop (V := w6) (l := a') (rdL_b c36 ha') (rdL_b (bt c5 c6) ra) rb (by omega) hla9 (not_lacks h0) okv (fun w' hb' => hat _ (bt c36 hb')) a'.length (a'.length + 1) 0 w6 (by omega) (by omega) (Below.refl _ _) fun w7 c7 => ?_⟩
    have ha7 := rdL_b (bt c36 c7) ha'
    have r7a := rdL_b (bt (bt c5 c6) c7) ra
    have r7b := rdL_b c7 rb
    have b7 := bt b6 c7
    have two := filt_two (p := bel v c.toNat) a'
    have hw : IntKind.i64.wrap (((a'.filter (bel v c.toNat)).length : Int) + ((a'.filter (fun r => !bel v c.toNat r)).length : Nat)) = (a'.length : Nat) := by rw [w64 (by omega) (by omega)]; omega
    unfold f5_j1
    try simp only [↓reduceIte, ↓LL, LM, Value.cells, Nat.reduceAdd, Option.some.injEq, exists_eq_left', decide_true, decide_false, if_true, if_false, reduceCtorEq, cond_true, cond_false]
    refine f14_s ha7 (by omega) hNa' fun w8 u8 c8 o8 => ?_
    have r8 := o8.rd c8
    have ol := once_len a' []
    try simp only [↓reduceIte, ↓LL, LM, Value.cells, Nat.reduceAdd, Option.some.injEq, exists_eq_left', decide_true, decide_false, if_true, if_false, reduceCtorEq, cond_true, cond_false, lnl_L r7a, lnl_L r7b, lnl_L ha7, hw]
    refine f16_s (rdL_b c8 ha7) (rdL_b c8 ha7) (by omega) (by omega) hNa' fun w9 u9 c9 r9 => ?_
    rw [left_self] at r9
    have e0 : ((([] : List Row).length : Nat) : Int) = 0 := rfl
    try simp only [↓reduceIte, ↓LL, LM, Value.cells, Nat.reduceAdd, Option.some.injEq, exists_eq_left', decide_true, decide_false, if_true, if_false, reduceCtorEq, cond_true, cond_false, lnl_L r9, e0]
    have c89 := bt c8 c9
    refine f16_s (rdL_b c89 ha7) (rdL_b c9 r8) (by omega) (by simp at ol; omega) hNa' fun w10 u10 c10 r10 => ?_
    rw [left_once] at r10
    try simp only [↓reduceIte, ↓LL, LM, Value.cells, Nat.reduceAdd, Option.some.injEq, exists_eq_left', decide_true, decide_false, if_true, if_false, reduceCtorEq, cond_true, cond_false, lnl_L r10, e0]
    have c810 := bt c89 c10
    have hNo : ∀ r ∈ once [] a', r.length * 32 ≤ 140737488355328 := fun r hr => by
      rcases once_mem a' [] r hr with h | h
      · cases h
      · exact hNa' r h
    refine f14_s (rdL_b (bt c9 c10) r8) (by simp at ol; omega) hNo fun w11 u11 c11 o11 => ?_
    have r11 := o11.rd c11
    rw [once_once] at r11
    try simp only [↓reduceIte, ↓LL, LM, Value.cells, Nat.reduceAdd, Option.some.injEq, exists_eq_left', decide_true, decide_false, if_true, if_false, reduceCtorEq, cond_true, cond_false]
    refine f13_s r11 (rdL_b (bt (bt c9 c10) c11) r8) (by simp at ol; omega) (fun r hr => by have := hNo r hr; omega) fun w12 c12 => ?_
    try simp only [↓reduceIte, ↓LL, LM, Value.cells, Nat.reduceAdd, Option.some.injEq, exists_eq_left', decide_true, decide_false, if_true, if_false, reduceCtorEq, cond_true, cond_false]
    exact kk w12 (bt b7 (bt (bt c810 c11) c12))
end
end Go.Proofs.Ytlmiimojgledpaa

namespace Go.Proofs.Ytlmiimojgledpaa
namespace Srt
/-- an order that is total; ties stay -/
structure Ord {β : Type} (le : β → β → Bool) : Prop where
  total : ∀ a b, le a b = true ∨ le b a = true
  trans : ∀ a b c, le a b = true → le b c = true → le a c = true
section
variable {β : Type} {le : β → β → Bool}
/-- one is ahead of the other -/
def slt (le : β → β → Bool) (x y : β × Nat) : Prop := le x.1 y.1 = true ∧ (le y.1 x.1 = false ∨ x.2 < y.2)
theorem slt_trans (O : Ord le) {x y z : β × Nat} (h : slt le x y) (k : slt le y z) : slt le x z := by
  refine ⟨O.trans _ _ _ h.1 k.1, ?_⟩
  cases e : le z.1 x.1 with
  | false => exact .inl rfl
  | true =>
    right
    have h1 := h.2.resolve_left (by rw [O.trans _ _ _ k.1 e]; simp)
    have k1 := k.2.resolve_left (by rw [O.trans _ _ _ e h.1]; simp)
    omega
theorem slt_irr {x : β × Nat} (h : slt le x x) : False := by
  rcases h with ⟨h1, h2 | h2⟩
  · rw [h1] at h2; cases h2
  · omega
theorem slt_asym (O : Ord le) {x y : β × Nat} (h : slt le x y) (k : slt le y x) : False := slt_irr (slt_trans O h k)
theorem slt_le {x y : β × Nat} (h : le x.1 y.1 = true) (k : x.2 < y.2) : slt le x y := ⟨h, .inr k⟩
theorem slt_nle (O : Ord le) {x y : β × Nat} (h : le x.1 y.1 = false) : slt le y x := ⟨(O.total x.1 y.1).resolve_left (by rw [h]; simp), .inl h⟩
/-- sorted -/
abbrev Sd (le : β → β → Bool) (l : List (β × Nat)) : Prop := l.Pairwise (slt le)
/-- two of one thing are one -/
theorem sd_unique (O : Ord le) : ∀ {l m : List (β × Nat)}, Sd le l → Sd le m → l.Perm m → l = m := by
  intro l
  induction l with
  | nil => intro m _ _ hp; exact (List.nil_perm.1 hp).symm
  | cons x l ih =>
    intro m h1 h2 hp
    cases m with
    | nil => exact absurd hp.length_eq (by simp)
    | cons y m =>
      rw [Sd, List.pairwise_cons] at h1 h2
      have e : x = y := by
        rcases List.mem_cons.1 (hp.mem_iff.1 (List.mem_cons_self : x ∈ x :: l)) with e | hx
        · exact e
        rcases List.mem_cons.1 (hp.mem_iff.2 (List.mem_cons_self : y ∈ y :: m)) with e | hy
        · exact e.symm
        exact (slt_asym O (h2.1 x hx) (h1.1 y hy)).elim
      subst e
      rw [ih h1.2 h2.2 ((List.perm_cons x).1 hp)]
/-- all of one ahead of all of the other -/
abbrev Bf (le : β → β → Bool) (l m : List (β × Nat)) : Prop := ∀ x ∈ l, ∀ y ∈ m, slt le x y
/-- places of one below those of the other -/
abbrev Pl (l m : List (β × Nat)) : Prop := ∀ x ∈ l, ∀ y ∈ m, x.2 < y.2
theorem sd_app {l m : List (β × Nat)} : Sd le (l ++ m) ↔ Sd le l ∧ Sd le m ∧ Bf le l m := List.pairwise_append
/-- both runs' firsts ahead of both runs' lasts -/
theorem bf_last (O : Ord le) {A B : List (β × Nat)} (hA : Sd le A) (hB : Sd le B) (h : ∀ x y, A.getLast? = some x → B.head? = some y → slt le x y) : Bf le A B := by
  intro x hx y hy
  have hA0 : A ≠ [] := List.ne_nil_of_mem hx
  have hB0 : B ≠ [] := List.ne_nil_of_mem hy
  have h1 := h (A.getLast hA0) (B.head hB0) (List.getLast?_eq_some_getLast hA0) (List.head?_eq_some_head hB0)
  have h2 : x = A.getLast hA0 ∨ slt le x (A.getLast hA0) := by
    have e := List.dropLast_concat_getLast hA0
    rw [← e] at hA hx
    rcases List.mem_append.1 hx with hx | hx
    · exact .inr ((sd_app.1 hA).2.2 x hx _ (by simp))
    · left; simpa using hx
  have h3 : y = B.head hB0 ∨ slt le (B.head hB0) y := by
    cases B with
    | nil => exact absurd rfl hB0
    | cons b B =>
      rcases List.mem_cons.1 hy with e | hy
      · exact .inl e
      · exact .inr ((List.pairwise_cons.1 hB).1 y hy)
  have h4 : slt le x (B.head hB0) := by
    rcases h2 with rfl | h2
    · exact h1
    · exact slt_trans O h2 h1
  rcases h3 with rfl | h3
  · exact h4
  · exact slt_trans O h4 h3
/-- a merge of halves -/
theorem merge_halves (O : Ord le) {A1 A2 B1 B2 S1 S2 : List (β × Nat)} (hA : Sd le (A1 ++ A2)) (hB : Sd le (B1 ++ B2))
    (h1 : Bf le A1 B2) (h2 : Bf le B1 A2) (p1 : S1.Perm (A1 ++ B1)) (p2 : S2.Perm (A2 ++ B2)) (s1 : Sd le S1) (s2 : Sd le S2) :
    Sd le (S1 ++ S2) ∧ (S1 ++ S2).Perm ((A1 ++ A2) ++ (B1 ++ B2)) := by
  constructor
  · refine sd_app.2 ⟨s1, s2, fun x hx y hy => ?_⟩
    have hx := p1.mem_iff.1 hx
    have hy := p2.mem_iff.1 hy
    rcases List.mem_append.1 hx with hx | hx <;> rcases List.mem_append.1 hy with hy | hy
    · exact (sd_app.1 hA).2.2 x hx y hy
    · exact h1 x hx y hy
    · exact h2 x hx y hy
    · exact (sd_app.1 hB).2.2 x hx y hy
  · refine (p1.append p2).trans ?_
    rw [List.append_assoc, List.append_assoc]
    refine List.Perm.append_left A1 ?_
    rw [← List.append_assoc, ← List.append_assoc]
    exact List.Perm.append_right B2 List.perm_append_comm
/-- one element among a sorted run, at its place -/
theorem sd_ins {A B : List (β × Nat)} {x : β × Nat} (h : Sd le (A ++ B)) (h1 : ∀ y ∈ A, slt le y x) (h2 : ∀ y ∈ B, slt le x y) : Sd le (A ++ x :: B) := by
  obtain ⟨a, b, c⟩ := sd_app.1 h
  refine sd_app.2 ⟨a, List.pairwise_cons.2 ⟨h2, b⟩, fun u hu v hv => ?_⟩
  rcases List.mem_cons.1 hv with rfl | hv
  · exact h1 u hu
  · exact c u hu v hv
/-- numbered from a place on -/
def num (k : Nat) (l : List β) : List (β × Nat) := l.zipIdx k
theorem num_fst (k : Nat) (l : List β) : (num k l).map (·.1) = l := by unfold num; exact List.zipIdx_map_fst k l
theorem num_app (k : Nat) (l m : List β) : num k (l ++ m) = num k l ++ num (k + l.length) m := by unfold num; exact List.zipIdx_append
theorem num_len (k : Nat) (l : List β) : (num k l).length = l.length := by unfold num; exact List.length_zipIdx
theorem num_mem {k : Nat} {l : List β} {x : β × Nat} (h : x ∈ num k l) : k ≤ x.2 ∧ x.2 < k + l.length := by
  unfold num at h
  obtain ⟨y, i⟩ := x
  have h1 := (List.mk_mem_zipIdx_iff_le_and_getElem?_sub (k := k)).1 h
  refine ⟨h1.1, ?_⟩
  rcases Nat.lt_or_ge (i - k) l.length with c | c
  · simp only; omega
  · rw [List.getElem?_eq_none c] at h1; cases h1.2
theorem num_pl (k : Nat) (l m : List β) : Pl (num k l) (num (k + l.length) m) := fun x hx y hy => by
  have := num_mem hx
  have := num_mem hy
  omega
/-- what sorting comes to: insertion from behind -/
def ins (le : β → β → Bool) : List (β × Nat) → β × Nat → List (β × Nat)
  | [], x => [x]
  | y :: l, x => if le y.1 x.1 then y :: ins le l x else x :: y :: l
theorem ins_perm (x : β × Nat) : ∀ l : List (β × Nat), (ins le l x).Perm (x :: l)
  | [] => List.Perm.refl _
  | y :: l => by
    unfold ins
    split
    · exact ((ins_perm x l).cons y).trans (List.Perm.swap x y l)
    · exact List.Perm.refl _
theorem ins_sd (O : Ord le) {x : β × Nat} : ∀ {l : List (β × Nat)}, Sd le l → (∀ y ∈ l, y.2 < x.2) → Sd le (ins le l x)
  | [], _, _ => by simp [ins]
  | y :: l, h, hp => by
    rw [Sd, List.pairwise_cons] at h
    unfold ins
    cases e : le y.1 x.1 with
    | true =>
      rw [if_pos rfl, Sd, List.pairwise_cons]
      refine ⟨fun z hz => ?_, ins_sd O h.2 fun z hz => hp z (List.mem_cons_of_mem _ hz)⟩
      rcases List.mem_cons.1 ((ins_perm x l).mem_iff.1 hz) with rfl | hz
      · exact slt_le e (hp y List.mem_cons_self)
      · exact h.1 z hz
    | false =>
      rw [if_neg (by simp), Sd, List.pairwise_cons]
      have hxy := slt_nle O e
      refine ⟨fun z hz => ?_, List.pairwise_cons.2 h⟩
      rcases List.mem_cons.1 hz with rfl | hz
      · exact hxy
      · exact slt_trans O hxy (h.1 z hz)
/-- sorted, by insertion -/
def isort (le : β → β → Bool) (l : List (β × Nat)) : List (β × Nat) := l.foldl (ins le) []
theorem isort_app (l : List (β × Nat)) (x : β × Nat) : isort le (l ++ [x]) = ins le (isort le l) x := by
  unfold isort
  rw [List.foldl_append]; rfl
theorem foldl_perm : ∀ (l acc : List (β × Nat)), (l.foldl (ins le) acc).Perm (acc ++ l)
  | [], acc => by simp
  | x :: l, acc => by
    rw [List.foldl_cons]
    refine (foldl_perm l _).trans ?_
    refine (List.Perm.append_right l (ins_perm x acc)).trans ?_
    exact (List.perm_middle (l₁ := acc) (l₂ := l) (a := x)).symm
theorem isort_perm (l : List (β × Nat)) : (isort le l).Perm l := by
  have := foldl_perm (le := le) l []
  simpa [isort] using this
theorem foldl_sd (O : Ord le) : ∀ (l acc : List (β × Nat)), Sd le acc → Pl acc l → l.Pairwise (fun x y => x.2 < y.2) → Sd le (l.foldl (ins le) acc)
  | [], acc, h, _, _ => h
  | x :: l, acc, h, hp, hl => by
    rw [List.foldl_cons]
    rw [List.pairwise_cons] at hl
    refine foldl_sd O l _ (ins_sd O h fun y hy => hp y hy x List.mem_cons_self) (fun y hy z hz => ?_) hl.2
    rcases List.mem_cons.1 ((ins_perm x acc).mem_iff.1 hy) with rfl | hy
    · exact hl.1 z hz
    · exact hp y hy z (List.mem_cons_of_mem _ hz)
theorem num_inc : ∀ (l : List β) (k : Nat), (num k l).Pairwise (fun x y => x.2 < y.2)
  | [], _ => by simp [num]
  | x :: l, k => by
    show ((x, k) :: num (k + 1) l).Pairwise _
    rw [List.pairwise_cons]
    exact ⟨fun y hy => by have := num_mem hy; simp only; omega, num_inc l (k + 1)⟩
theorem isort_sd (O : Ord le) (l : List β) (k : Nat) : Sd le (isort le (num k l)) := foldl_sd O _ _ List.Pairwise.nil (fun x hx => by cases hx) (num_inc l k)
/-- the one stable order -/
theorem sorted_is (O : Ord le) {l : List β} {k : Nat} {m : List (β × Nat)} (hp : m.Perm (num k l)) (hs : Sd le m) : m = isort le (num k l) :=
  sd_unique O hs (isort_sd O l k) (hp.trans (isort_perm _).symm)
/-- runs of so many, the last one shorter -/
inductive Rn (le : β → β → Bool) (bs : Nat) : List (β × Nat) → Prop
  | last {S : List (β × Nat)} : Sd le S → S.length < bs → Rn le bs S
  | cons {B L : List (β × Nat)} : Sd le B → B.length = bs → Pl B L → Rn le bs L → Rn le bs (B ++ L)
/-- runs that whatever runs may follow -/
def Pre (le : β → β → Bool) (bs : Nat) (D : List (β × Nat)) : Prop := ∀ T, Rn le bs T → Pl D T → Rn le bs (D ++ T)
theorem pl_app {l m k : List (β × Nat)} : Pl l (m ++ k) ↔ Pl l m ∧ Pl l k := by
  constructor
  · intro h; exact ⟨fun x hx y hy => h x hx y (List.mem_append_left _ hy), fun x hx y hy => h x hx y (List.mem_append_right _ hy)⟩
  · rintro ⟨h, k⟩ x hx y hy
    rcases List.mem_append.1 hy with hy | hy
    · exact h x hx y hy
    · exact k x hx y hy
theorem app_pl {l m k : List (β × Nat)} : Pl (l ++ m) k ↔ Pl l k ∧ Pl m k := by
  constructor
  · intro h; exact ⟨fun x hx y hy => h x (List.mem_append_left _ hx) y hy, fun x hx y hy => h x (List.mem_append_right _ hx) y hy⟩
  · rintro ⟨h, k⟩ x hx y hy
    rcases List.mem_append.1 hx with hx | hx
    · exact h x hx y hy
    · exact k x hx y hy
theorem pl_perm {l l' m m' : List (β × Nat)} (h : Pl l m) (h1 : l'.Perm l) (h2 : m'.Perm m) : Pl l' m' := fun x hx y hy => h x (h1.mem_iff.1 hx) y (h2.mem_iff.1 hy)
theorem pre_nil {bs : Nat} : Pre le bs [] := fun T h _ => h
theorem pre_snoc {bs : Nat} {D S : List (β × Nat)} (h : Pre le bs D) (hs : Sd le S) (hl : S.length = bs) (hp : Pl D S) : Pre le bs (D ++ S) := by
  intro T hT hp2
  rw [List.append_assoc]
  have := app_pl.1 hp2
  exact h _ (.cons hs hl this.2 hT) (pl_app.2 ⟨hp, this.1⟩)
theorem rn_inv {bs : Nat} {T : List (β × Nat)} (h : Rn le bs T) (hl : bs ≤ T.length) : ∃ B L, T = B ++ L ∧ Sd le B ∧ B.length = bs ∧ Pl B L ∧ Rn le bs L := by
  cases h with
  | last h1 h2 => omega
  | cons h1 h2 h3 h4 => exact ⟨_, _, rfl, h1, h2, h3, h4⟩
theorem rn_last {bs : Nat} {T : List (β × Nat)} (h : Rn le bs T) (hl : T.length < bs) : Sd le T := by
  cases h with
  | last h1 h2 => exact h1
  | cons h1 h2 h3 h4 => rw [List.length_append] at hl; omega
/-- at most one run -/
theorem rn_one {bs : Nat} {T : List (β × Nat)} (h : Rn le bs T) (hl : T.length ≤ bs) : Sd le T := by
  rcases Nat.lt_or_ge T.length bs with c | c
  · exact rn_last h c
  · obtain ⟨B, L, rfl, h1, h2, h3, h4⟩ := rn_inv h c
    have : L = [] := by
      rw [List.length_append] at hl
      exact List.length_eq_zero_iff.1 (by omega)
    rw [this, List.append_nil]; exact h1
end
section
variable {β γ : Type} {le : β → β → Bool} {le' : γ → γ → Bool} {f : γ → β}
theorem ins_map (h : ∀ a b, le' a b = le (f a) (f b)) (x : γ × Nat) : ∀ l : List (γ × Nat), (ins le' l x).map (fun y => (f y.1, y.2)) = ins le (l.map fun y => (f y.1, y.2)) (f x.1, x.2)
  | [] => rfl
  | y :: l => by
    rw [List.map_cons]
    unfold ins
    rw [h]
    cases le (f y.1) (f x.1) with
    | true => rw [if_pos rfl, if_pos rfl, List.map_cons, ins_map h x l]
    | false => rw [if_neg (by simp), if_neg (by simp), List.map_cons, List.map_cons]
theorem foldl_map (h : ∀ a b, le' a b = le (f a) (f b)) : ∀ (l acc : List (γ × Nat)), (l.foldl (ins le') acc).map (fun y => (f y.1, y.2)) = (l.map fun y => (f y.1, y.2)).foldl (ins le) (acc.map fun y => (f y.1, y.2))
  | [], acc => rfl
  | x :: l, acc => by
    rw [List.foldl_cons, foldl_map h l, List.map_cons, List.foldl_cons, ins_map h]
theorem isort_map (h : ∀ a b, le' a b = le (f a) (f b)) (l : List (γ × Nat)) : (isort le' l).map (fun y => (f y.1, y.2)) = isort le (l.map fun y => (f y.1, y.2)) := foldl_map h l []
theorem num_map (f : γ → β) : ∀ (l : List γ) (k : Nat), (num k l).map (fun y => (f y.1, y.2)) = num k (l.map f)
  | [], _ => rfl
  | x :: l, k => by
    show (f x, k) :: (num (k + 1) l).map _ = (f x, k) :: num (k + 1) (l.map f)
    rw [num_map f l]
/-- what is sorted, without the places -/
def srt (le : β → β → Bool) (l : List β) : List β := (isort le (num 0 l)).map (·.1)
theorem srt_perm (l : List β) : (srt le l).Perm l := by
  have := (isort_perm (le := le) (num 0 l)).map (·.1)
  rwa [num_fst] at this
theorem srt_len (l : List β) : (srt le l).length = l.length := (srt_perm l).length_eq
theorem srt_map (h : ∀ a b, le' a b = le (f a) (f b)) (l : List γ) : (srt le' l).map f = srt le (l.map f) := by
  unfold srt
  rw [← num_map f l 0, ← isort_map h, List.map_map, List.map_map]; rfl
theorem srt_le (O : Ord le) (l : List β) : (srt le l).Pairwise (fun a b => le a b = true) := by
  unfold srt
  rw [List.pairwise_map]
  exact (isort_sd O l 0).imp fun h => h.1
/-- what is in order stays -/
theorem srt_of (O : Ord le) {l : List β} (h : l.Pairwise (fun a b => le a b = true)) : srt le l = l := by
  have key : ∀ (l : List β) (k : Nat), l.Pairwise (fun a b => le a b = true) → Sd le (num k l) := by
    intro l
    induction l with
    | nil => intro k _; exact List.Pairwise.nil
    | cons x l ih =>
      intro k h
      rw [List.pairwise_cons] at h
      show Sd le ((x, k) :: num (k + 1) l)
      refine List.pairwise_cons.2 ⟨fun y hy => ?_, ih (k + 1) h.2⟩
      have hm := num_mem hy
      refine slt_le (h.1 y.1 ?_) (by simp only; omega)
      have : y.1 ∈ (num (k + 1) l).map (·.1) := List.mem_map.2 ⟨y, hy, rfl⟩
      rwa [num_fst] at this
  unfold srt
  rw [← sorted_is O (List.Perm.refl _) (key l 0 h), num_fst]
theorem srt_srt (O : Ord le) (l : List β) : srt le (srt le l) = srt le l := srt_of O (srt_le O l)
end
end Srt
end Go.Proofs.Ytlmiimojgledpaa

namespace Go.Proofs.Ytlmiimojgledpaa
namespace Sh
open RowKit Srt
/-- a block g of elements, n cells each -/
structure BkAt {β : Type} (e : TypeId) (enc : β → List Value) (Mm : β → Prop) (rest : List Value) (g : Nat) (w : World) (L : List (β × Nat)) : Prop where
  blk : w.heap[g]? = some (.cells ((L.flatMap fun x => enc x.1) ++ rest).toArray e (0, 0))
  mem : ∀ x ∈ L, Mm x.1
/-- two exchanged -/
def swp {α : Type} (L : List α) (i j : Nat) (x y : α) : List α := (L.set j x).set i y
theorem set_flat {α : Type} {f : α → List Value} {n : Nat} (hn : ∀ x, (f x).length = n) : ∀ (L : List α) (i : Nat) (y : α), i < L.length → (L.set i y).flatMap f = (L.flatMap f).take (i * n) ++ f y ++ (L.flatMap f).drop (i * n + n)
  | x :: L, 0, y, h => by
    simp only [List.set_cons_zero, List.flatMap_cons, Nat.zero_mul, List.take_zero, List.nil_append, Nat.zero_add]
    rw [List.drop_append_of_le_length (by rw [hn]; omega), List.drop_of_length_le (by rw [hn]; omega), List.nil_append]
  | x :: L, i + 1, y, h => by
    simp only [List.set_cons_succ, List.flatMap_cons]
    rw [set_flat hn L i y (by simpa using h)]
    have e1 : (i + 1) * n = (f x).length + i * n := by rw [hn, Nat.add_mul]; omega
    have e2 : (i + 1) * n + n = (f x).length + (i * n + n) := by rw [hn, Nat.add_mul]; omega
    rw [e2, e1, List.take_length_add_append, List.drop_length_add_append]
    simp only [List.append_assoc]
theorem set_same {α : Type} (A : List α) (x y : α) (B : List α) : (A ++ x :: B).set A.length y = A ++ y :: B := by
  rw [List.set_append_right _ _ (Nat.le_refl _), Nat.sub_self]; rfl
/-- two exchanged, in a line -/
theorem swp_line {α : Type} (P Mi R : List α) (x y : α) : swp (P ++ x :: (Mi ++ y :: R)) P.length (P.length + 1 + Mi.length) x y = P ++ y :: (Mi ++ x :: R) := by
  unfold swp
  have e : P ++ x :: (Mi ++ y :: R) = (P ++ x :: Mi) ++ y :: R := by simp
  have l : P.length + 1 + Mi.length = (P ++ x :: Mi).length := by simp; omega
  rw [e, l, set_same]
  have e2 : (P ++ x :: Mi) ++ x :: R = P ++ x :: (Mi ++ x :: R) := by simp
  rw [e2, set_same]
theorem swp_line' {α : Type} (P Mi R : List α) (x y : α) : swp (P ++ x :: (Mi ++ y :: R)) (P.length + 1 + Mi.length) P.length y x = P ++ y :: (Mi ++ x :: R) := by
  unfold swp
  rw [set_same]
  have e : P ++ y :: (Mi ++ y :: R) = (P ++ y :: Mi) ++ y :: R := by simp
  have l : P.length + 1 + Mi.length = (P ++ y :: Mi).length := by simp; omega
  rw [e, l, set_same]
  simp
section
variable {β : Type} {e : TypeId} {enc : β → List Value} {Mm : β → Prop} {rest : List Value} {g n c N : Nat} {w : World} {L : List (β × Nat)} {Q : Value → World → Prop} {K : Value → M} {K0 : M} {k : IntKind} {i : Nat}
theorem BkAt.below {w' : World} (h : BkAt e enc Mm rest g w L) (hb : Below w.heap.size w w') : BkAt e enc Mm rest g w' L := ⟨stay hb h.blk, h.mem⟩
theorem BkAt.drw (h : BkAt e enc Mm rest g w L) : BkAt e enc Mm rest g (drw w) L := ⟨h.blk, h.mem⟩
theorem BkAt.cells (h : BkAt e enc Mm rest g w L) (hn : ∀ x, (enc x).length = n) (hi : i < L.length) : cellsAt w ⟨g, i * n, none⟩ (enc L[i].1) := by
  intro j u hj
  have hjn : j < n := by
    rcases Nat.lt_or_ge j n with c | c
    · exact c
    · rw [List.getElem?_eq_none (by rw [hn]; exact c)] at hj; cases hj
  rw [add_lit, cell_of_blk h.blk]
  have hlt : i * n + j < (L.flatMap fun x => enc x.1).length := by
    rw [flat_len (enc := fun x : β × Nat => enc x.1) (fun x => hn x.1)]
    have : (i + 1) * n ≤ L.length * n := Nat.mul_le_mul_right _ hi
    rw [Nat.add_mul] at this; omega
  rw [List.getElem?_toArray, List.getElem?_append_left hlt, flat_get (enc := fun x : β × Nat => enc x.1) (fun x => hn x.1) L i j hi hjn, hj]
theorem ia_bk {N : Nat} (hi : i < N) : ia n (.slice (some ⟨g, 0, none⟩) N c) (.int k (i : Int)) K w Q = K (.pointer (some ⟨g, i * n, none⟩)) w Q := by
  rw [ia_e, Int.toNat_natCast, add_lit, Nat.zero_add]
  apply propext
  exact ⟨fun h => h.2.2, fun h => ⟨by omega, by omega, h⟩⟩
/-- one read -/
theorem get_of {x : β × Nat} (hx : L[i]? = some x) : ∃ h : i < L.length, L[i] = x := by
  rcases Nat.lt_or_ge i L.length with c | c
  · rw [List.getElem?_eq_getElem c] at hx; exact ⟨c, Option.some.inj hx⟩
  · rw [List.getElem?_eq_none c] at hx; cases hx
theorem rdN {x : β × Nat} (h : BkAt e enc Mm rest g w L) (hN : L.length = N) (hn : ∀ x, (enc x).length = n) (h1 : ∀ x, ∀ v ∈ enc x, v.oneCell' = true) (hx : L[i]? = some x) (kk : K (.agg (enc x.1).toArray) w Q) : ia n (.slice (some ⟨g, 0, none⟩) N c) (.int k (i : Int)) (fun p => ldn n p K) w Q := by
  obtain ⟨hi, rfl⟩ := get_of hx
  rw [ia_bk (by omega)]
  exact ldn_at (h.cells hn hi) (hn _) kk
theorem rd1 {hd : β → Value} {x : β × Nat} (h : BkAt e (fun x => [hd x]) Mm rest g w L) (hN : L.length = N) (h1 : ∀ x, (hd x).oneCell' = true) (hx : L[i]? = some x) (kk : K (hd x.1) w Q) : ia 1 (.slice (some ⟨g, 0, none⟩) N c) (.int k (i : Int)) (fun p => ld p K) w Q := by
  obtain ⟨hi, rfl⟩ := get_of hx
  rw [ia_bk (by omega), ld_e]
  have := h.cells (n := 1) (fun _ => rfl) hi 0 _ rfl
  rw [add_lit, Nat.add_zero] at this
  exact ⟨_, this, kk⟩
/-- one stored -/
theorem stN {y : β × Nat} (h : BkAt e enc Mm rest g w L) (hN : L.length = N) (hn : ∀ x, (enc x).length = n) (h1 : ∀ x, ∀ v ∈ enc x, v.oneCell' = true) (hi : i < L.length) (hy : Mm y.1)
    (kk : ∀ w', BkAt e enc Mm rest g w' (L.set i y) → Upd g w w' → K0 w' Q) : ia n (.slice (some ⟨g, 0, none⟩) N c) (.int k (i : Int)) (fun p => stn n p (.agg (enc y.1).toArray) K0) w Q := by
  rw [ia_bk (by omega)]
  have hle : (i + 1) * n ≤ L.length * n := Nat.mul_le_mul_right _ hi
  rw [Nat.add_mul, Nat.one_mul] at hle
  have hfl : (L.flatMap fun x => enc x.1).length = L.length * n := flat_len (enc := fun x : β × Nat => enc x.1) (fun x => hn x.1) L
  obtain ⟨w', c', e1, e2, e3, e4⟩ := sts_blk (o := i * n) (enc y.1) 0 w _ h.blk (by simp [hfl, hn]; omega) (h1 _)
  refine ⟨_, _, w', rfl, rfl, by simpa using hn _, e1, kk w' ⟨?_, fun x hx => ?_⟩ e4⟩
  · rw [e2]
    congr 2
    apply Array.toList_inj.1
    rw [e3, hn]
    simp only [Nat.add_zero]
    rw [set_flat (f := fun x : β × Nat => enc x.1) (fun x => hn x.1) L i y hi]
    rw [List.take_append_of_le_length (by rw [hfl]; omega), List.drop_append_of_le_length (by rw [hfl]; omega)]
    simp only [List.append_assoc]
  · rcases List.mem_or_eq_of_mem_set hx with hx | rfl
    · exact h.mem x hx
    · exact hy
theorem st1 {hd : β → Value} {y : β × Nat} (h : BkAt e (fun x => [hd x]) Mm rest g w L) (hN : L.length = N) (h1 : ∀ x, (hd x).oneCell' = true) (hi : i < L.length) (hy : Mm y.1)
    (kk : ∀ w', BkAt e (fun x => [hd x]) Mm rest g w' (L.set i y) → Upd g w w' → K0 w' Q) : ia 1 (.slice (some ⟨g, 0, none⟩) N c) (.int k (i : Int)) (fun p => st p (hd y.1) K0) w Q := by
  rw [ia_bk (by omega), Nat.mul_one]
  have hfl : (L.flatMap fun x => [hd x.1]).length = L.length * 1 := flat_len (enc := fun x : β × Nat => [hd x.1]) (fun x => rfl) L
  refine st_box h.blk (by simp [hfl]; omega) (h1 _) fun w' hb hu => kk w' ⟨?_, fun x hx => ?_⟩ hu
  · rw [hb]
    congr 2
    apply Array.toList_inj.1
    simp only [Array.toList_setIfInBounds]
    rw [set_flat (f := fun x : β × Nat => [hd x.1]) (n := 1) (fun x => rfl) L i y hi, Nat.mul_one]
    rw [List.set_append_left _ _ (by rw [hfl]; omega), List.set_eq_take_append_cons_drop, if_pos (by rw [hfl]; omega)]
    simp only [List.append_assoc, List.singleton_append, List.cons_append, List.nil_append]
  · rcases List.mem_or_eq_of_mem_set hx with hx | rfl
    · exact h.mem x hx
    · exact hy
/-- a line's two elements, and both exchanged -/
theorem line_get {P Mi R : List (β × Nat)} {x y : β × Nat} {i j : Nat} (hL : L = P ++ x :: (Mi ++ y :: R)) (hi : i = P.length) (hj : j = P.length + 1 + Mi.length) :
    L[i]? = some x ∧ L[j]? = some y ∧ i < L.length ∧ j < L.length ∧ (L.set i y).set j x = P ++ y :: (Mi ++ x :: R) ∧ (L.set j x).set i y = P ++ y :: (Mi ++ x :: R) := by
  subst hi hj hL
  have e : P ++ x :: (Mi ++ y :: R) = (P ++ x :: Mi) ++ y :: R := by simp
  have l : P.length + 1 + Mi.length = (P ++ x :: Mi).length := by simp; omega
  refine ⟨?_, ?_, ?_, ?_, swp_line' P Mi R x y, swp_line P Mi R x y⟩
  · rw [List.getElem?_append_right (Nat.le_refl _), Nat.sub_self]; rfl
  · rw [e, l, List.getElem?_append_right (Nat.le_refl _), Nat.sub_self]; rfl
  · simp
  · simp; omega
theorem u2c {V w' w2 : World} (h : Chg g V (Sh.drw w)) (u : Upd g (Sh.drw w) w') (u2 : Upd g w' w2) : Chg g V w2 := (h.trans u.chg).trans u2.chg
/-- a half -/
theorem shr1 {x : Nat} : shr .u64 .u64 (.int .u64 (x : Int)) (.int .u64 1) K w Q = K (.int .u64 ((x / 2 : Nat) : Int)) w Q := by
  rw [shr_e]
  have e : (x : Int).fdiv (2 ^ (min (1 : Int).toNat IntKind.u64.bits)) = ((x / 2 : Nat) : Int) := by
    have : min (1 : Int).toNat IntKind.u64.bits = 1 := rfl
    rw [this, Int.fdiv_eq_ediv_of_nonneg _ (by decide)]
    omega
  rw [e]
  exact propext ⟨fun h => h.2, fun h => ⟨by decide, h⟩⟩
/-- how two elements are told apart -/
def CmpOf (P : Program) {β : Type} (V : World) (g : Nat) (f : Value) (hd : β → Value) (le : β → β → Bool) (Mm : β → Prop) : Prop := ∀ (x y : β) (w : World) (K : Value → M) (Q : Value → World → Prop), Chg g V w → Mm x → Mm y →
  (∀ (w' : World) (z : Int), Below w.heap.size w w' → (z < 0 ↔ le y x = false) → K (.int .i64 z) w' Q) → cf P f #[hd x, hd y] K w Q
end
end Sh
end Go.Proofs.Ytlmiimojgledpaa

set_option maxRecDepth 20000
set_option maxHeartbeats 4000000
namespace Go.Proofs.Ytlmiimojgledpaa
open Sh RowKit Go.MapKept Srt
/-! stable sorting: insertion, exchange of ranges, rotation (functions INS, SWR, ROT of the slices package at one element type) -/
section
variable {β : Type} {e : TypeId} {hd : β → Value} {le : β → β → Bool} {Mm : β → Prop} {rest : List Value} {g c N : Nat} {V w : World} {cf : Value} {Q : Value → World → Prop}
theorem f63_loop (hone : ∀ x, (hd x).oneCell' = true) {P A M B R : List (β × Nat)} (hAB : A.length = B.length) (hN : (P ++ A ++ M ++ B ++ R).length = N) (hbd : N ≤ 281474976710656) : ∀ (d m i : Nat) (w : World), i + d = A.length → d < m →
    BkAt e (fun x => [hd x]) Mm rest g w (P ++ (B.take i ++ A.drop i) ++ M ++ (A.take i ++ B.drop i) ++ R) → Chg g V w → (∀ w', BkAt e (fun x => [hd x]) Mm rest g w' (P ++ B ++ M ++ A ++ R) → Chg g V w' → Q (.tuple #[]) w') →
    itr (fun _ _ _ _ _ => bot) f63_b1 m (.slice (some ⟨g, 0, none⟩) N c) (.int .i64 (P.length : Nat)) (.int .i64 ((P.length + A.length + M.length : Nat) : Int)) (.int .i64 (A.length : Nat)) (.int .i64 (i : Int)) w Q := by
  intro d
  induction d with
  | zero =>
    intro m i w hi hm hB hC kk
    obtain ⟨m, rfl⟩ : ∃ x, m = x + 1 := ⟨m - 1, by omega⟩
    show f63_b1 _ _ _ _ _ _ w Q
    unfold f63_b1
    have cc : ¬ (i : Int) < (A.length : Nat) := by omega
    try simp only [↓reduceIte, ↓LL, LM, Value.cells, Nat.reduceAdd, Option.some.injEq, exists_eq_left', decide_true, decide_false, if_true, if_false, reduceCtorEq, cond_true, cond_false, cc]
    rw [List.take_of_length_le (by omega : B.length ≤ i), List.drop_of_length_le (by omega : A.length ≤ i), List.take_of_length_le (by omega : A.length ≤ i), List.drop_of_length_le (by omega : B.length ≤ i), List.append_nil, List.append_nil] at hB
    exact kk w hB hC
  | succ d ih =>
    intro m i w hi hm hB hC kk
    obtain ⟨m, rfl⟩ : ∃ x, m = x + 1 := ⟨m - 1, by omega⟩
    show f63_b1 _ _ _ _ _ _ w Q
    unfold f63_b1
    have cc : (i : Int) < (A.length : Nat) := by omega
    have hiA : i < A.length := by omega
    have hiB : i < B.length := by omega
    simp only [List.length_append] at hN
    have e1 : IntKind.i64.wrap (((P.length : Nat) : Int) + (i : Int)) = ((P.length + i : Nat) : Int) := by rw [w64 (by omega) (by omega)]; omega
    have e2 : IntKind.i64.wrap (((P.length + A.length + M.length : Nat) : Int) + (i : Int)) = ((P.length + A.length + M.length + i : Nat) : Int) := by rw [w64 (by omega) (by omega)]; omega
    have e3 : IntKind.i64.wrap ((i : Int) + 1) = ((i + 1 : Nat) : Int) := by rw [w64 (by omega) (by omega)]; rfl
    have hB := hB.drw
    have hC := hC.drw
    have hL : P ++ (B.take i ++ A.drop i) ++ M ++ (A.take i ++ B.drop i) ++ R = (P ++ B.take i) ++ A[i] :: ((A.drop (i + 1) ++ M ++ A.take i) ++ B[i] :: (B.drop (i + 1) ++ R)) := by
      rw [List.drop_eq_getElem_cons hiA, List.drop_eq_getElem_cons hiB]; simp only [List.append_assoc, List.cons_append]
    have hlen : (P ++ (B.take i ++ A.drop i) ++ M ++ (A.take i ++ B.drop i) ++ R).length = N := by simp; omega
    obtain ⟨g1, g2, k1, k2, x1, x2⟩ := line_get (i := P.length + i) (j := P.length + A.length + M.length + i) hL (by simp; omega) (by simp; omega)
    try simp only [↓reduceIte, ↓LL, LM, Value.cells, Nat.reduceAdd, Option.some.injEq, exists_eq_left', decide_true, decide_false, if_true, if_false, reduceCtorEq, cond_true, cond_false, cc, e1, e2, e3]
    refine rd1 hB hlen hone g2 ?_
    try simp only [↓reduceIte, ↓LL, LM, Value.cells, Nat.reduceAdd, Option.some.injEq, exists_eq_left', decide_true, decide_false, if_true, if_false, reduceCtorEq, cond_true, cond_false, cc, e1, e2, e3]
    refine rd1 hB hlen hone g1 ?_
    try simp only [↓reduceIte, ↓LL, LM, Value.cells, Nat.reduceAdd, Option.some.injEq, exists_eq_left', decide_true, decide_false, if_true, if_false, reduceCtorEq, cond_true, cond_false, cc, e1, e2, e3]
    refine st1 hB hlen hone k1 (hB.mem _ (List.mem_of_getElem? g2)) fun w1 b1 u1 => ?_
    try simp only [↓reduceIte, ↓LL, LM, Value.cells, Nat.reduceAdd, Option.some.injEq, exists_eq_left', decide_true, decide_false, if_true, if_false, reduceCtorEq, cond_true, cond_false, cc, e1, e2, e3]
    refine st1 b1 (by rw [List.length_set]; exact hlen) hone (by rw [List.length_set]; exact k2) (hB.mem _ (List.mem_of_getElem? g1)) fun w2 b2 u2 => ?_
    rw [x1] at b2
    try simp only [↓reduceIte, ↓LL, LM, Value.cells, Nat.reduceAdd, Option.some.injEq, exists_eq_left', decide_true, decide_false, if_true, if_false, reduceCtorEq, cond_true, cond_false, cc, e1, e2, e3]
    refine ih m (i + 1) w2 (by omega) (by omega) ?_ (u2c hC u1 u2) kk
    rw [List.take_succ_eq_append_getElem hiA, List.take_succ_eq_append_getElem hiB]
    have e : (P ++ B.take i) ++ B[i] :: ((A.drop (i + 1) ++ M ++ A.take i) ++ A[i] :: (B.drop (i + 1) ++ R)) = P ++ (B.take i ++ [B[i]] ++ A.drop (i + 1)) ++ M ++ (A.take i ++ [A[i]] ++ B.drop (i + 1)) ++ R := by simp only [List.append_assoc, List.cons_append, List.nil_append]
    rw [← e]; exact b2
/-- two ranges exchanged -/
theorem f63_s (hone : ∀ x, (hd x).oneCell' = true) {P A M B R : List (β × Nat)} {a b n : Nat} (hAB : A.length = B.length) (hN : (P ++ A ++ M ++ B ++ R).length = N) (hbd : N ≤ 281474976710656) (hB : BkAt e (fun x => [hd x]) Mm rest g w (P ++ A ++ M ++ B ++ R)) (hC : Chg g V w) (ha : a = P.length) (hb : b = P.length + A.length + M.length) (hn' : n = A.length)
    {t4 : Value} (kk : ∀ w', BkAt e (fun x => [hd x]) Mm rest g w' (P ++ B ++ M ++ A ++ R) → Chg g V w' → Q (.tuple #[]) w') : f63 (.slice (some ⟨g, 0, none⟩) N c) (.int .i64 (a : Int)) (.int .i64 (b : Int)) (.int .i64 (n : Int)) t4 w Q := by
  subst ha hb hn'
  unfold f63
  exact ⟨_, f63_loop hone hAB hN hbd A.length (A.length + 1) 0 w (by omega) (by omega) (by simpa using hB) hC kk⟩
theorem f61_loop (hone : ∀ x, (hd x).oneCell' = true) {tgt : List (β × Nat)} {mm : Nat} (hbd : N ≤ 281474976710656) {t4 : Value} : ∀ (d m : Nat) (P A B R : List (β × Nat)) (w : World), A.length + B.length ≤ d → d < m → 0 < A.length → 0 < B.length → (P ++ A ++ B ++ R).length = N → P ++ B ++ A ++ R = tgt → mm = P.length + A.length →
    BkAt e (fun x => [hd x]) Mm rest g w (P ++ A ++ B ++ R) → Chg g V w → (∀ w', BkAt e (fun x => [hd x]) Mm rest g w' tgt → Chg g V w' → Q (.tuple #[]) w') →
    itr (fun _ _ _ _ _ => bot) (f61_b2 f61_j1) m (.slice (some ⟨g, 0, none⟩) N c) (.int .i64 (mm : Int)) t4 (.int .i64 (A.length : Nat)) (.int .i64 (B.length : Nat)) w Q := by
  intro d
  induction d with
  | zero => intro m P A B R w hd hm hA hB; omega
  | succ d ih =>
    intro m P A B R w hd hm hA hB hN ht hmm hK hC kk
    obtain ⟨m, rfl⟩ : ∃ x, m = x + 1 := ⟨m - 1, by omega⟩
    show f61_b2 f61_j1 _ _ _ _ _ _ w Q
    unfold f61_b2
    have hN' := hN
    simp only [List.length_append] at hN'
    have e1 : IntKind.i64.wrap ((mm : Int) - (A.length : Nat)) = (P.length : Nat) := by rw [w64 (by omega) (by omega)]; omega
    by_cases heq : A.length = B.length
    · have heq' : ((A.length : Nat) : Int) = (B.length : Nat) := by omega
      try simp only [↓reduceIte, ↓LL, LM, Value.cells, Nat.reduceAdd, Option.some.injEq, exists_eq_left', decide_true, decide_false, if_true, if_false, reduceCtorEq, cond_true, cond_false, ne_eq, heq']
      unfold f61_j1
      rw [← heq']
      try simp only [↓reduceIte, ↓LL, LM, Value.cells, Nat.reduceAdd, Option.some.injEq, exists_eq_left', decide_true, decide_false, if_true, if_false, reduceCtorEq, cond_true, cond_false, e1]
      refine f63_s (P := P) (A := A) (M := []) (B := B) (R := R) hone heq (by simpa using hN) hbd (by simpa using hK) hC rfl (by simpa using hmm) rfl fun w1 b1 c1 => ?_
      try simp only [↓reduceIte, ↓LL, LM, Value.cells, Nat.reduceAdd, Option.some.injEq, exists_eq_left', decide_true, decide_false, if_true, if_false, reduceCtorEq, cond_true, cond_false]
      refine kk w1 ?_ c1
      rw [← ht]
      simpa using b1
    · have heq' : ¬ ((A.length : Nat) : Int) = (B.length : Nat) := by omega
      by_cases hgt : B.length < A.length
      · have hgt' : ((B.length : Nat) : Int) < (A.length : Nat) := by omega
        have e2 : IntKind.i64.wrap (((A.length : Nat) : Int) - (B.length : Nat)) = ((A.length - B.length : Nat) : Int) := by rw [w64 (by omega) (by omega)]; omega
        try simp only [↓reduceIte, ↓LL, LM, Value.cells, Nat.reduceAdd, Option.some.injEq, exists_eq_left', decide_true, decide_false, if_true, if_false, reduceCtorEq, cond_true, cond_false, ne_eq, heq', hgt', e1, e2]
        obtain ⟨A1, A2, hA12, hl1⟩ : ∃ A1 A2, A = A1 ++ A2 ∧ A1.length = B.length := ⟨A.take B.length, A.drop B.length, (List.take_append_drop _ _).symm, by rw [List.length_take]; omega⟩
        have hl2 : A2.length = A.length - B.length := by have := congrArg List.length hA12; rw [List.length_append] at this; omega
        refine f63_s (P := P) (A := A1) (M := A2) (B := B) (R := R) hone hl1 (by rw [hA12] at hN; simpa using hN) hbd (by rw [hA12] at hK; simpa using hK) hC rfl (by omega) hl1.symm fun w1 b1 c1 => ?_
        try simp only [↓reduceIte, ↓LL, LM, Value.cells, Nat.reduceAdd, Option.some.injEq, exists_eq_left', decide_true, decide_false, if_true, if_false, reduceCtorEq, cond_true, cond_false, e1, e2]
        have := ih m (P ++ B) A2 A1 R w1 (by omega) (by omega) (by omega) (by omega) (by rw [← hN, hA12]; simp only [List.length_append]; omega) (by rw [← ht, hA12]; simp only [List.append_assoc]) (by rw [List.length_append]; omega) b1 c1 kk
        rw [hl1, hl2] at this
        exact this
      · have hgt' : ¬ ((B.length : Nat) : Int) < (A.length : Nat) := by omega
        have e3 : IntKind.i64.wrap ((mm : Int) + (B.length : Nat)) = ((mm + B.length : Nat) : Int) := by rw [w64 (by omega) (by omega)]; omega
        have e4 : IntKind.i64.wrap (((mm + B.length : Nat) : Int) - (A.length : Nat)) = ((mm + B.length - A.length : Nat) : Int) := by rw [w64 (by omega) (by omega)]; omega
        have e2 : IntKind.i64.wrap (((B.length : Nat) : Int) - (A.length : Nat)) = ((B.length - A.length : Nat) : Int) := by rw [w64 (by omega) (by omega)]; omega
        try simp only [↓reduceIte, ↓LL, LM, Value.cells, Nat.reduceAdd, Option.some.injEq, exists_eq_left', decide_true, decide_false, if_true, if_false, reduceCtorEq, cond_true, cond_false, ne_eq, heq', hgt', e1, e2, e3, e4]
        obtain ⟨B1, B2, hB12, hl1⟩ : ∃ B1 B2, B = B1 ++ B2 ∧ B2.length = A.length := ⟨B.take (B.length - A.length), B.drop (B.length - A.length), (List.take_append_drop _ _).symm, by rw [List.length_drop]; omega⟩
        have hl2 : B1.length = B.length - A.length := by have := congrArg List.length hB12; rw [List.length_append] at this; omega
        refine f63_s (P := P) (A := A) (M := B1) (B := B2) (R := R) hone hl1.symm (by rw [hB12] at hN; simpa using hN) hbd (by rw [hB12] at hK; simpa using hK) hC rfl (by omega) rfl fun w1 b1 c1 => ?_
        try simp only [↓reduceIte, ↓LL, LM, Value.cells, Nat.reduceAdd, Option.some.injEq, exists_eq_left', decide_true, decide_false, if_true, if_false, reduceCtorEq, cond_true, cond_false, e1, e2]
        have := ih m P B2 B1 (A ++ R) w1 (by omega) (by omega) (by omega) (by omega) (by rw [← hN, hB12]; simp only [List.length_append]; omega) (by rw [← ht, hB12]; simp only [List.append_assoc]) (by omega) (by simpa using b1) c1 kk
        rw [hl1, hl2] at this
        exact this
/-- two neighbours exchanged -/
theorem f61_s (hone : ∀ x, (hd x).oneCell' = true) {P A B R : List (β × Nat)} {a mm b : Nat} (hA : 0 < A.length) (hB : 0 < B.length) (hN : (P ++ A ++ B ++ R).length = N) (hbd : N ≤ 281474976710656) (hK : BkAt e (fun x => [hd x]) Mm rest g w (P ++ A ++ B ++ R)) (hC : Chg g V w) (ha : a = P.length) (hm : mm = P.length + A.length) (hb : b = P.length + A.length + B.length)
    {t4 : Value} (kk : ∀ w', BkAt e (fun x => [hd x]) Mm rest g w' (P ++ B ++ A ++ R) → Chg g V w' → Q (.tuple #[]) w') : f61 (.slice (some ⟨g, 0, none⟩) N c) (.int .i64 (a : Int)) (.int .i64 (mm : Int)) (.int .i64 (b : Int)) t4 w Q := by
  have hN' := hN
  simp only [List.length_append] at hN'
  have e1 : IntKind.i64.wrap ((mm : Int) - (a : Int)) = (A.length : Nat) := by rw [w64 (by omega) (by omega)]; omega
  have e2 : IntKind.i64.wrap ((b : Int) - (mm : Int)) = (B.length : Nat) := by rw [w64 (by omega) (by omega)]; omega
  unfold f61
  try simp only [↓reduceIte, ↓LL, LM, Value.cells, Nat.reduceAdd, Option.some.injEq, exists_eq_left', decide_true, decide_false, if_true, if_false, reduceCtorEq, cond_true, cond_false, e1, e2]
  exact ⟨_, f61_loop hone hbd _ _ P A B R w (Nat.le_refl _) (Nat.lt_succ_self _) hA hB hN rfl hm hK hC kk⟩
end
/-! insertion -/
section
variable {β : Type} {e : TypeId} {hd : β → Value} {le : β → β → Bool} {Mm : β → Prop} {rest : List Value} {g c N : Nat} {V w : World} {cf : Value} {Q : Value → World → Prop}
theorem gdB_f : gdB (.bool false) true = false := rfl
theorem f58_in (hone : ∀ x, (hd x).oneCell' = true) (O : Ord le) (hcmp : CmpOf Try.prog V g cf hd le Mm) (hbd : N ≤ 281474976710656) {P R : List (β × Nat)} {x : β × Nat} {tb ti : Value} {j2 : Value → Value → Value → Value → Value → M} : ∀ (d m : Nat) (S1 S2 : List (β × Nat)) (w : World), S1.length = d → d < m →
    (P ++ S1 ++ x :: (S2 ++ R)).length = N → BkAt e (fun x => [hd x]) Mm rest g w (P ++ S1 ++ x :: (S2 ++ R)) → Chg g V w → Sd le (S1 ++ S2) → (∀ y ∈ S2, slt le x y) → (∀ y ∈ S1, y.2 < x.2) →
    (∀ w' S, BkAt e (fun x => [hd x]) Mm rest g w' (P ++ S ++ R) → Chg g V w' → S.Perm (x :: (S1 ++ S2)) → Sd le S → j2 (.slice (some ⟨g, 0, none⟩) N c) (.int .i64 (P.length : Nat)) tb cf ti w' Q) →
    itr (fun _ _ _ _ _ _ => bot) (f58_b3 j2) m (.slice (some ⟨g, 0, none⟩) N c) (.int .i64 (P.length : Nat)) tb cf ti (.int .i64 ((P.length + S1.length : Nat) : Int)) w Q := by
  intro d
  induction d with
  | zero =>
    intro m S1 S2 w hd hm hN hB hC hs h2 hp kk
    obtain ⟨m, rfl⟩ : ∃ x, m = x + 1 := ⟨m - 1, by omega⟩
    show f58_b3 j2 _ _ _ _ _ _ _ w Q
    unfold f58_b3
    have h0 : S1 = [] := List.length_eq_zero_iff.1 hd
    subst h0
    have cc : ¬ ((P.length : Nat) : Int) < ((P.length + ([] : List (β × Nat)).length : Nat) : Int) := by simp
    try simp only [↓reduceIte, ↓LL, LM, Value.cells, Nat.reduceAdd, Option.some.injEq, exists_eq_left', decide_true, decide_false, if_true, if_false, reduceCtorEq, cond_true, cond_false, cc]
    refine kk (drw w) (x :: S2) (by simpa using hB.drw) hC.drw (by simp) (List.pairwise_cons.2 ⟨h2, by simpa using hs⟩)
  | succ d ih =>
    intro m S1 S2 w hd hm hN hB hC hs h2 hp kk
    obtain ⟨m, rfl⟩ : ∃ x, m = x + 1 := ⟨m - 1, by omega⟩
    show f58_b3 j2 _ _ _ _ _ _ _ w Q
    unfold f58_b3
    obtain ⟨S1', y, rfl⟩ : ∃ S1' y, S1 = S1' ++ [y] := by
      rcases List.eq_nil_or_concat S1 with h | ⟨l, y, h⟩
      · rw [h] at hd; simp at hd
      · exact ⟨l, y, by simpa using h⟩
    have hlen := hN
    have hN' := hN
    simp only [List.length_append, List.length_cons, List.length_nil] at hN'
    have cc : ((P.length : Nat) : Int) < ((P.length + (S1' ++ [y]).length : Nat) : Int) := by simp; omega
    have e1 : IntKind.i64.wrap (((P.length + (S1' ++ [y]).length : Nat) : Int) - 1) = ((P.length + S1'.length : Nat) : Int) := by rw [w64 (by simp; omega) (by simp; omega)]; simp; try omega
    have hL : P ++ (S1' ++ [y]) ++ x :: (S2 ++ R) = (P ++ S1') ++ y :: ([] ++ x :: (S2 ++ R)) := by simp
    obtain ⟨g1, g2, k1, k2, x1, x2⟩ := line_get (i := P.length + S1'.length) (j := P.length + (S1' ++ [y]).length) hL (by simp) (by simp; omega)
    have hBd := hB.drw
    have hCd := hC.drw
    have hx := hBd.mem _ (List.mem_of_getElem? g2)
    have hy := hBd.mem _ (List.mem_of_getElem? g1)
    try simp only [↓reduceIte, ↓LL, LM, Value.cells, Nat.reduceAdd, Option.some.injEq, exists_eq_left', decide_true, decide_false, if_true, if_false, reduceCtorEq, cond_true, cond_false, cc, e1]
    refine rd1 hBd hlen hone g2 ?_
    try simp only [↓reduceIte, ↓LL, LM, Value.cells, Nat.reduceAdd, Option.some.injEq, exists_eq_left', decide_true, decide_false, if_true, if_false, reduceCtorEq, cond_true, cond_false, cc, e1]
    refine rd1 hBd hlen hone g1 ?_
    try simp only [↓reduceIte, ↓LL, LM, Value.cells, Nat.reduceAdd, Option.some.injEq, exists_eq_left', decide_true, decide_false, if_true, if_false, reduceCtorEq, cond_true, cond_false, cc, e1]
    refine hcmp x.1 y.1 _ _ _ hCd hx hy fun w1 z b1 hz => ?_
    have hB1 := hBd.below b1
    have hC1 := hCd.trans (Chg.of_below b1)
    cases hle : le y.1 x.1 with
    | false =>
      have hz0 : z < 0 := hz.2 hle
      have hxy := slt_nle O hle
      try simp only [↓reduceIte, ↓LL, LM, Value.cells, Nat.reduceAdd, Option.some.injEq, exists_eq_left', decide_true, decide_false, if_true, if_false, reduceCtorEq, cond_true, cond_false, cc, hz0]
      have hB1 := hB1.drw
      have hC1 := hC1.drw
      try simp only [↓reduceIte, ↓LL, LM, Value.cells, Nat.reduceAdd, Option.some.injEq, exists_eq_left', decide_true, decide_false, if_true, if_false, reduceCtorEq, cond_true, cond_false, cc, e1]
      refine rd1 hB1 hlen hone g1 ?_
      try simp only [↓reduceIte, ↓LL, LM, Value.cells, Nat.reduceAdd, Option.some.injEq, exists_eq_left', decide_true, decide_false, if_true, if_false, reduceCtorEq, cond_true, cond_false, cc, e1]
      refine rd1 hB1 hlen hone g2 ?_
      try simp only [↓reduceIte, ↓LL, LM, Value.cells, Nat.reduceAdd, Option.some.injEq, exists_eq_left', decide_true, decide_false, if_true, if_false, reduceCtorEq, cond_true, cond_false, cc, e1]
      refine st1 hB1 hlen hone k2 hy fun w2 b2 u2 => ?_
      try simp only [↓reduceIte, ↓LL, LM, Value.cells, Nat.reduceAdd, Option.some.injEq, exists_eq_left', decide_true, decide_false, if_true, if_false, reduceCtorEq, cond_true, cond_false, cc, e1]
      refine st1 b2 (by rw [List.length_set]; exact hlen) hone (by rw [List.length_set]; exact k1) hx fun w3 b3 u3 => ?_
      rw [x2] at b3
      try simp only [↓reduceIte, ↓LL, LM, Value.cells, Nat.reduceAdd, Option.some.injEq, exists_eq_left', decide_true, decide_false, if_true, if_false, reduceCtorEq, cond_true, cond_false, cc, e1]
      have hC3 := (hC1.trans u2.chg).trans u3.chg
      rw [List.append_assoc] at hs
      refine ih m S1' (y :: S2) w3 (by simp at hd; omega) (by omega) (by rw [← hlen]; simp; try omega) (by simpa using b3) hC3 hs (fun u hu => ?_) (fun u hu => hp u (List.mem_append_left _ hu)) fun w' S bS cS pS sS => kk w' S bS cS (pS.trans ?_) sS
      · rcases List.mem_cons.1 hu with rfl | hu
        · exact hxy
        · exact h2 u hu
      · simp
    | true =>
      have hz0 : ¬ z < 0 := fun h => by rw [hz.1 h] at hle; cases hle
      have hyx := slt_le hle (hp y (by simp))
      try simp only [↓reduceIte, ↓LL, LM, Value.cells, Nat.reduceAdd, Option.some.injEq, exists_eq_left', decide_true, decide_false, if_true, if_false, reduceCtorEq, cond_true, cond_false, cc, hz0]
      refine kk w1 ((S1' ++ [y]) ++ x :: S2) (by simpa using hB1) hC1 List.perm_middle (sd_ins hs (fun u hu => ?_) h2)
      rcases List.mem_append.1 hu with hu | hu
      · refine slt_trans O ?_ hyx
        exact (sd_app.1 (sd_app.1 hs).1).2.2 u hu y (by simp)
      · rw [List.mem_singleton] at hu; subst hu; exact hyx
theorem f58_out (hone : ∀ x, (hd x).oneCell' = true) (O : Ord le) (hcmp : CmpOf Try.prog V g cf hd le Mm) (hbd : N ≤ 281474976710656) {P A R : List (β × Nat)} (hA : A.Pairwise (fun x y => x.2 < y.2)) (hN : (P ++ A ++ R).length = N) : ∀ (d m i : Nat) (S : List (β × Nat)) (w : World), i + d = A.length → d < m → 0 < i →
    S.Perm (A.take i) → Sd le S → BkAt e (fun x => [hd x]) Mm rest g w (P ++ S ++ A.drop i ++ R) → Chg g V w → (∀ w' S, BkAt e (fun x => [hd x]) Mm rest g w' (P ++ S ++ R) → Chg g V w' → S.Perm A → Sd le S → Q (.tuple #[]) w') →
    itr (fun _ _ _ _ _ => bot) f58_b1 m (.slice (some ⟨g, 0, none⟩) N c) (.int .i64 (P.length : Nat)) (.int .i64 ((P.length + A.length : Nat) : Int)) cf (.int .i64 ((P.length + i : Nat) : Int)) w Q := by
  intro d
  induction d with
  | zero =>
    intro m i S w hi hm h0 hp hs hB hC kk
    obtain ⟨m, rfl⟩ : ∃ x, m = x + 1 := ⟨m - 1, by omega⟩
    show f58_b1 _ _ _ _ _ _ w Q
    unfold f58_b1
    have cc : ¬ ((P.length + i : Nat) : Int) < ((P.length + A.length : Nat) : Int) := by omega
    try simp only [↓reduceIte, ↓LL, LM, Value.cells, Nat.reduceAdd, Option.some.injEq, exists_eq_left', decide_true, decide_false, if_true, if_false, reduceCtorEq, cond_true, cond_false, cc]
    rw [List.take_of_length_le (by omega)] at hp
    rw [List.drop_of_length_le (by omega), List.append_nil] at hB
    exact kk w S hB hC hp hs
  | succ d ih =>
    intro m i S w hi hm h0 hp hs hB hC kk
    obtain ⟨m, rfl⟩ : ∃ x, m = x + 1 := ⟨m - 1, by omega⟩
    show f58_b1 _ _ _ _ _ _ w Q
    unfold f58_b1
    have hiA : i < A.length := by omega
    have cc : ((P.length + i : Nat) : Int) < ((P.length + A.length : Nat) : Int) := by omega
    have hSl : S.length = i := by rw [hp.length_eq, List.length_take]; omega
    simp only [List.length_append] at hN
    have e1 : IntKind.i64.wrap (((P.length + i : Nat) : Int) + 1) = ((P.length + (i + 1) : Nat) : Int) := by rw [w64 (by omega) (by omega)]; rfl
    try simp only [↓reduceIte, ↓LL, LM, Value.cells, Nat.reduceAdd, Option.some.injEq, exists_eq_left', decide_true, decide_false, if_true, if_false, reduceCtorEq, cond_true, cond_false, cc]
    rw [List.drop_eq_getElem_cons hiA] at hB
    have e0 : ((P.length + i : Nat) : Int) = ((P.length + S.length : Nat) : Int) := by rw [hSl]
    rw [e0]
    refine ⟨_, f58_in hone O hcmp hbd (P := P) (x := A[i]) (R := A.drop (i + 1) ++ R) S.length (S.length + 1) S [] w rfl (by omega) (by simp; omega) (by simp only [List.append_assoc, List.cons_append, List.nil_append] at hB ⊢; exact hB) hC (by simpa using hs) (fun y hy => by cases hy) (fun y hy => ?_) fun w1 S' b1 c1 p1 s1 => ?_⟩
    · have hy := hp.mem_iff.1 hy
      have hA' := hA
      rw [← List.take_append_drop i A, List.drop_eq_getElem_cons hiA, List.pairwise_append] at hA'
      exact hA'.2.2 y hy _ List.mem_cons_self
    · rw [hSl]
      unfold f58_j2
      try simp only [↓reduceIte, ↓LL, LM, Value.cells, Nat.reduceAdd, Option.some.injEq, exists_eq_left', decide_true, decide_false, if_true, if_false, reduceCtorEq, cond_true, cond_false, e1]
      refine ih m (i + 1) S' w1 (by omega) (by omega) (by omega) ?_ s1 (by simpa using b1) c1 kk
      rw [List.take_succ_eq_append_getElem hiA]
      rw [List.append_nil] at p1
      exact p1.trans ((hp.cons _).trans (List.perm_append_singleton _ _).symm)
/-- a part sorted by insertion -/
theorem f58_s (hone : ∀ x, (hd x).oneCell' = true) (O : Ord le) (hcmp : CmpOf Try.prog V g cf hd le Mm) (hbd : N ≤ 281474976710656) {P A R : List (β × Nat)} {a b : Nat} (hA : A.Pairwise (fun x y => x.2 < y.2)) (hN : (P ++ A ++ R).length = N) (hB : BkAt e (fun x => [hd x]) Mm rest g w (P ++ A ++ R)) (hC : Chg g V w) (ha : a = P.length) (hb : b = P.length + A.length)
    (kk : ∀ w' S, BkAt e (fun x => [hd x]) Mm rest g w' (P ++ S ++ R) → Chg g V w' → S.Perm A → Sd le S → Q (.tuple #[]) w') : f58 (.slice (some ⟨g, 0, none⟩) N c) (.int .i64 (a : Int)) (.int .i64 (b : Int)) cf w Q := by
  subst ha hb
  have hN' := hN
  simp only [List.length_append] at hN'
  have e1 : IntKind.i64.wrap (((P.length : Nat) : Int) + 1) = ((P.length + 1 : Nat) : Int) := by rw [w64 (by omega) (by omega)]; rfl
  unfold f58
  try simp only [↓reduceIte, ↓LL, LM, Value.cells, Nat.reduceAdd, Option.some.injEq, exists_eq_left', decide_true, decide_false, if_true, if_false, reduceCtorEq, cond_true, cond_false, e1]
  cases A with
  | nil =>
    refine ⟨1, ?_⟩
    show f58_b1 _ _ _ _ _ _ w Q
    unfold f58_b1
    have cc : ¬ ((P.length + 1 : Nat) : Int) < ((P.length + ([] : List (β × Nat)).length : Nat) : Int) := by simp; omega
    try simp only [↓reduceIte, ↓LL, LM, Value.cells, Nat.reduceAdd, Option.some.injEq, exists_eq_left', decide_true, decide_false, if_true, if_false, reduceCtorEq, cond_true, cond_false, cc]
    exact kk w [] hB hC (List.Perm.refl _) List.Pairwise.nil
  | cons x A =>
    refine ⟨_, f58_out hone O hcmp hbd hA hN A.length (A.length + 1) 1 [x] w (by simp; omega) (by omega) (by omega) (by simp) (List.pairwise_singleton _ _) (by simpa using hB) hC kk⟩
end
end Go.Proofs.Ytlmiimojgledpaa

set_option maxRecDepth 20000
set_option maxHeartbeats 4000000
namespace Go.Proofs.Ytlmiimojgledpaa
open Sh RowKit Go.MapKept Srt
/-! runs merged -/
section
variable {β : Type} {e : TypeId} {hd : β → Value} {le : β → β → Bool} {Mm : β → Prop} {rest : List Value} {g c N : Nat} {V w : World} {cf : Value} {Q : Value → World → Prop}
theorem sd_take {l : List (β × Nat)} {k : Nat} {y x : β × Nat} (h : Sd le l) (O : Ord le) (hk : l[k]? = some y) (hyx : slt le y x) : ∀ u ∈ l.take (k + 1), slt le u x := by
  obtain ⟨hkl, rfl⟩ := get_of hk
  intro u hu
  rw [List.take_succ_eq_append_getElem hkl] at hu
  rcases List.mem_append.1 hu with hu | hu
  · have h' := h
    rw [← List.take_append_drop k l, List.drop_eq_getElem_cons hkl] at h'
    exact slt_trans O ((sd_app.1 h').2.2 u hu _ List.mem_cons_self) hyx
  · rw [List.mem_singleton] at hu; subst hu; exact hyx
theorem sd_drop {l : List (β × Nat)} {k : Nat} {y x : β × Nat} (h : Sd le l) (O : Ord le) (hk : l[k]? = some y) (hxy : slt le x y) : ∀ u ∈ l.drop k, slt le x u := by
  obtain ⟨hkl, rfl⟩ := get_of hk
  intro u hu
  rw [List.drop_eq_getElem_cons hkl] at hu
  rcases List.mem_cons.1 hu with rfl | hu
  · exact hxy
  · have h' := h
    rw [← List.take_append_drop k l, List.drop_eq_getElem_cons hkl] at h'
    exact slt_trans O hxy ((List.pairwise_cons.1 (sd_app.1 h').2.1).1 u hu)
/-- where one belongs in the run behind it -/
theorem f59_find1 (hone : ∀ x, (hd x).oneCell' = true) (O : Ord le) (hcmp : CmpOf Try.prog V g cf hd le Mm) (hbd : N ≤ 281474976710656) {P B R : List (β × Nat)} {x : β × Nat} (hN : (P ++ x :: (B ++ R)).length = N) (hs : Sd le B) (hp : ∀ y ∈ B, x.2 < y.2) {j1 : Value → Value → Value → M} : ∀ (d m i j : Nat) (w : World), i ≤ j → j ≤ B.length → j - i ≤ d → d < m →
    BkAt e (fun x => [hd x]) Mm rest g w (P ++ x :: (B ++ R)) → Chg g V w → (∀ y ∈ B.take i, slt le y x) → (∀ y ∈ B.drop j, slt le x y) →
    (∀ w' k, BkAt e (fun x => [hd x]) Mm rest g w' (P ++ x :: (B ++ R)) → Chg g V w' → k ≤ B.length → (∀ y ∈ B.take k, slt le y x) → (∀ y ∈ B.drop k, slt le x y) → j1 (.slice (some ⟨g, 0, none⟩) N c) (.int .i64 (P.length : Nat)) (.int .i64 ((P.length + 1 + k : Nat) : Int)) w' Q) →
    itr (fun _ _ _ _ _ => bot) (f59_b2 j1) m (.slice (some ⟨g, 0, none⟩) N c) (.int .i64 (P.length : Nat)) cf (.int .i64 ((P.length + 1 + i : Nat) : Int)) (.int .i64 ((P.length + 1 + j : Nat) : Int)) w Q := by
  intro d
  induction d with
  | zero =>
    intro m i j w hij hj hd hm hB hC h1 h2 kk
    obtain ⟨m, rfl⟩ : ∃ x, m = x + 1 := ⟨m - 1, by omega⟩
    show f59_b2 j1 _ _ _ _ _ _ w Q
    unfold f59_b2
    have : j = i := by omega
    subst this
    have cc : ¬ ((P.length + 1 + j : Nat) : Int) < ((P.length + 1 + j : Nat) : Int) := by omega
    try simp only [↓reduceIte, ↓LL, LM, Value.cells, Nat.reduceAdd, Option.some.injEq, exists_eq_left', decide_true, decide_false, if_true, if_false, reduceCtorEq, cond_true, cond_false, cc]
    exact kk w j hB hC hj h1 h2
  | succ d ih =>
    intro m i j w hij hj hd hm hB hC h1 h2 kk
    obtain ⟨m, rfl⟩ : ∃ x, m = x + 1 := ⟨m - 1, by omega⟩
    show f59_b2 j1 _ _ _ _ _ _ w Q
    unfold f59_b2
    by_cases hlt : i < j
    · have cc : ((P.length + 1 + i : Nat) : Int) < ((P.length + 1 + j : Nat) : Int) := by omega
      have hN' := hN
      simp only [List.length_append, List.length_cons] at hN'
      obtain ⟨h, hh⟩ : ∃ h, (P.length + 1 + i + (P.length + 1 + j)) / 2 = P.length + 1 + h := ⟨(P.length + 1 + i + (P.length + 1 + j)) / 2 - (P.length + 1), by omega⟩
      have hih : i ≤ h := by omega
      have hhj : h < j := by omega
      have e1 : IntKind.i64.wrap (((P.length + 1 + i : Nat) : Int) + ((P.length + 1 + j : Nat) : Int)) = ((P.length + 1 + i + (P.length + 1 + j) : Nat) : Int) := by rw [w64 (by omega) (by omega)]; omega
      have e2 : IntKind.u64.wrap ((P.length + 1 + i + (P.length + 1 + j) : Nat) : Int) = ((P.length + 1 + i + (P.length + 1 + j) : Nat) : Int) := wu64 (by omega) (by omega)
      have e3 : IntKind.i64.wrap ((P.length + 1 + h : Nat) : Int) = ((P.length + 1 + h : Nat) : Int) := w64 (by omega) (by omega)
      have e4 : IntKind.i64.wrap (((P.length + 1 + h : Nat) : Int) + 1) = ((P.length + 1 + (h + 1) : Nat) : Int) := by rw [w64 (by omega) (by omega)]; rfl
      have hhB : h < B.length := by omega
      have gB : B[h]? = some B[h] := List.getElem?_eq_getElem hhB
      have g1 : (P ++ x :: (B ++ R))[P.length]? = some x := by rw [List.getElem?_append_right (Nat.le_refl _), Nat.sub_self]; rfl
      have g2 : (P ++ x :: (B ++ R))[P.length + 1 + h]? = some B[h] := by
        rw [List.getElem?_append_right (by omega), show P.length + 1 + h - P.length = h + 1 from by omega, List.getElem?_cons_succ, List.getElem?_append_left hhB]; exact gB
      try simp only [↓reduceIte, ↓LL, LM, Value.cells, Nat.reduceAdd, Option.some.injEq, exists_eq_left', decide_true, decide_false, if_true, if_false, reduceCtorEq, cond_true, cond_false, cc, e1, e2]
      rw [shr1, hh]
      have hB := hB.drw
      have hC := hC.drw
      try simp only [↓reduceIte, ↓LL, LM, Value.cells, Nat.reduceAdd, Option.some.injEq, exists_eq_left', decide_true, decide_false, if_true, if_false, reduceCtorEq, cond_true, cond_false, e3]
      refine rd1 hB hN hone g2 ?_
      try simp only [↓reduceIte, ↓LL, LM, Value.cells, Nat.reduceAdd, Option.some.injEq, exists_eq_left', decide_true, decide_false, if_true, if_false, reduceCtorEq, cond_true, cond_false]
      refine rd1 hB hN hone g1 ?_
      try simp only [↓reduceIte, ↓LL, LM, Value.cells, Nat.reduceAdd, Option.some.injEq, exists_eq_left', decide_true, decide_false, if_true, if_false, reduceCtorEq, cond_true, cond_false]
      refine hcmp B[h].1 x.1 _ _ _ hC (hB.mem _ (List.mem_of_getElem? g2)) (hB.mem _ (List.mem_of_getElem? g1)) fun w1 z b1 hz => ?_
      have hB := hB.below b1
      have hC := hC.trans (Chg.of_below b1)
      cases hle : le x.1 B[h].1 with
      | false =>
        have hz0 : z < 0 := hz.2 hle
        try simp only [↓reduceIte, ↓LL, LM, Value.cells, Nat.reduceAdd, Option.some.injEq, exists_eq_left', decide_true, decide_false, if_true, if_false, reduceCtorEq, cond_true, cond_false, hz0, e4]
        exact ih m (h + 1) j w1 (by omega) hj (by omega) (by omega) hB hC (sd_take hs O gB (slt_nle O hle)) h2 kk
      | true =>
        have hz0 : ¬ z < 0 := fun h => by rw [hz.1 h] at hle; cases hle
        try simp only [↓reduceIte, ↓LL, LM, Value.cells, Nat.reduceAdd, Option.some.injEq, exists_eq_left', decide_true, decide_false, if_true, if_false, reduceCtorEq, cond_true, cond_false, hz0, e4]
        exact ih m i h w1 (by omega) (by omega) (by omega) (by omega) hB hC h1 (sd_drop hs O gB (slt_le hle (hp _ (List.getElem_mem hhB)))) kk
    · have : j = i := by omega
      subst this
      have cc : ¬ ((P.length + 1 + j : Nat) : Int) < ((P.length + 1 + j : Nat) : Int) := by omega
      try simp only [↓reduceIte, ↓LL, LM, Value.cells, Nat.reduceAdd, Option.some.injEq, exists_eq_left', decide_true, decide_false, if_true, if_false, reduceCtorEq, cond_true, cond_false, cc]
      exact kk w j hB hC hj h1 h2
/-- it goes there -/
theorem f59_up (hone : ∀ x, (hd x).oneCell' = true) (hbd : N ≤ 281474976710656) {P B R : List (β × Nat)} {x : β × Nat} (hN : (P ++ x :: (B ++ R)).length = N) {k : Nat} (hk : k ≤ B.length) : ∀ (d m s : Nat) (w : World), s + d = k → d < m →
    BkAt e (fun x => [hd x]) Mm rest g w (P ++ B.take s ++ x :: (B.drop s ++ R)) → Chg g V w → (∀ w', BkAt e (fun x => [hd x]) Mm rest g w' (P ++ B.take k ++ x :: (B.drop k ++ R)) → Chg g V w' → Q (.tuple #[]) w') →
    itr (fun _ _ _ => bot) f59_b3 m (.slice (some ⟨g, 0, none⟩) N c) (.int .i64 ((P.length + 1 + k : Nat) : Int)) (.int .i64 ((P.length + s : Nat) : Int)) w Q := by
  intro d
  induction d with
  | zero =>
    intro m s w hs hm hB hC kk
    obtain ⟨m, rfl⟩ : ∃ x, m = x + 1 := ⟨m - 1, by omega⟩
    show f59_b3 _ _ _ _ w Q
    unfold f59_b3
    simp only [List.length_append, List.length_cons] at hN
    have : s = k := by omega
    subst this
    have e1 : IntKind.i64.wrap (((P.length + 1 + s : Nat) : Int) - 1) = ((P.length + s : Nat) : Int) := by rw [w64 (by omega) (by omega)]; omega
    have cc : ¬ ((P.length + s : Nat) : Int) < ((P.length + s : Nat) : Int) := by omega
    try simp only [↓reduceIte, ↓LL, LM, Value.cells, Nat.reduceAdd, Option.some.injEq, exists_eq_left', decide_true, decide_false, if_true, if_false, reduceCtorEq, cond_true, cond_false, e1, cc]
    exact kk w hB hC
  | succ d ih =>
    intro m s w hs hm hB hC kk
    obtain ⟨m, rfl⟩ : ∃ x, m = x + 1 := ⟨m - 1, by omega⟩
    show f59_b3 _ _ _ _ w Q
    unfold f59_b3
    have hN' := hN
    simp only [List.length_append, List.length_cons] at hN'
    have hsB : s < B.length := by omega
    have e1 : IntKind.i64.wrap (((P.length + 1 + k : Nat) : Int) - 1) = ((P.length + k : Nat) : Int) := by rw [w64 (by omega) (by omega)]; omega
    have e2 : IntKind.i64.wrap (((P.length + s : Nat) : Int) + 1) = ((P.length + (s + 1) : Nat) : Int) := by rw [w64 (by omega) (by omega)]; rfl
    have cc : ((P.length + s : Nat) : Int) < ((P.length + k : Nat) : Int) := by omega
    have hL : P ++ B.take s ++ x :: (B.drop s ++ R) = (P ++ B.take s) ++ x :: ([] ++ B[s] :: (B.drop (s + 1) ++ R)) := by
      rw [List.drop_eq_getElem_cons hsB]; simp only [List.append_assoc, List.cons_append, List.nil_append]
    have hlen : (P ++ B.take s ++ x :: (B.drop s ++ R)).length = N := by simp; omega
    obtain ⟨g1, g2, k1, k2, x1, x2⟩ := line_get (i := P.length + s) (j := P.length + (s + 1)) hL (by simp; omega) (by simp; omega)
    have hB := hB.drw
    have hC := hC.drw
    try simp only [↓reduceIte, ↓LL, LM, Value.cells, Nat.reduceAdd, Option.some.injEq, exists_eq_left', decide_true, decide_false, if_true, if_false, reduceCtorEq, cond_true, cond_false, cc, e1, e2]
    refine rd1 hB hlen hone g2 ?_
    try simp only [↓reduceIte, ↓LL, LM, Value.cells, Nat.reduceAdd, Option.some.injEq, exists_eq_left', decide_true, decide_false, if_true, if_false, reduceCtorEq, cond_true, cond_false, cc, e1, e2]
    refine rd1 hB hlen hone g1 ?_
    try simp only [↓reduceIte, ↓LL, LM, Value.cells, Nat.reduceAdd, Option.some.injEq, exists_eq_left', decide_true, decide_false, if_true, if_false, reduceCtorEq, cond_true, cond_false, cc, e1, e2]
    refine st1 hB hlen hone k1 (hB.mem _ (List.mem_of_getElem? g2)) fun w1 b1 u1 => ?_
    try simp only [↓reduceIte, ↓LL, LM, Value.cells, Nat.reduceAdd, Option.some.injEq, exists_eq_left', decide_true, decide_false, if_true, if_false, reduceCtorEq, cond_true, cond_false, cc, e1, e2]
    refine st1 b1 (by rw [List.length_set]; exact hlen) hone (by rw [List.length_set]; exact k2) (hB.mem _ (List.mem_of_getElem? g1)) fun w2 b2 u2 => ?_
    rw [x1] at b2
    try simp only [↓reduceIte, ↓LL, LM, Value.cells, Nat.reduceAdd, Option.some.injEq, exists_eq_left', decide_true, decide_false, if_true, if_false, reduceCtorEq, cond_true, cond_false, cc, e1, e2]
    refine ih m (s + 1) w2 (by omega) (by omega) ?_ (u2c hC u1 u2) kk
    rw [List.take_succ_eq_append_getElem hsB]
    simp only [List.append_assoc, List.cons_append, List.nil_append] at b2 ⊢
    exact b2
/-- where one belongs in the run ahead of it -/
theorem f59_find2 (hone : ∀ x, (hd x).oneCell' = true) (O : Ord le) (hcmp : CmpOf Try.prog V g cf hd le Mm) (hbd : N ≤ 281474976710656) {P A R : List (β × Nat)} {y : β × Nat} (hN : (P ++ A ++ y :: R).length = N) (hs : Sd le A) (hp : ∀ x ∈ A, x.2 < y.2) {j1 : Value → Value → Value → M} : ∀ (d m i j : Nat) (w : World), i ≤ j → j ≤ A.length → j - i ≤ d → d < m →
    BkAt e (fun x => [hd x]) Mm rest g w (P ++ A ++ y :: R) → Chg g V w → (∀ x ∈ A.take i, slt le x y) → (∀ x ∈ A.drop j, slt le y x) →
    (∀ w' k, BkAt e (fun x => [hd x]) Mm rest g w' (P ++ A ++ y :: R) → Chg g V w' → k ≤ A.length → (∀ x ∈ A.take k, slt le x y) → (∀ x ∈ A.drop k, slt le y x) → j1 (.slice (some ⟨g, 0, none⟩) N c) (.int .i64 ((P.length + A.length : Nat) : Int)) (.int .i64 ((P.length + k : Nat) : Int)) w' Q) →
    itr (fun _ _ _ _ _ => bot) (f59_b5 j1) m (.slice (some ⟨g, 0, none⟩) N c) (.int .i64 ((P.length + A.length : Nat) : Int)) cf (.int .i64 ((P.length + i : Nat) : Int)) (.int .i64 ((P.length + j : Nat) : Int)) w Q := by
  intro d
  induction d with
  | zero =>
    intro m i j w hij hj hd hm hB hC h1 h2 kk
    obtain ⟨m, rfl⟩ : ∃ x, m = x + 1 := ⟨m - 1, by omega⟩
    show f59_b5 j1 _ _ _ _ _ _ w Q
    unfold f59_b5
    have : j = i := by omega
    subst this
    have cc : ¬ ((P.length + j : Nat) : Int) < ((P.length + j : Nat) : Int) := by omega
    try simp only [↓reduceIte, ↓LL, LM, Value.cells, Nat.reduceAdd, Option.some.injEq, exists_eq_left', decide_true, decide_false, if_true, if_false, reduceCtorEq, cond_true, cond_false, cc]
    exact kk w j hB hC hj h1 h2
  | succ d ih =>
    intro m i j w hij hj hd hm hB hC h1 h2 kk
    obtain ⟨m, rfl⟩ : ∃ x, m = x + 1 := ⟨m - 1, by omega⟩
    show f59_b5 j1 _ _ _ _ _ _ w Q
    unfold f59_b5
    by_cases hlt : i < j
    · have cc : ((P.length + i : Nat) : Int) < ((P.length + j : Nat) : Int) := by omega
      have hN' := hN
      simp only [List.length_append, List.length_cons] at hN'
      obtain ⟨h, hh⟩ : ∃ h, (P.length + i + (P.length + j)) / 2 = P.length + h := ⟨(P.length + i + (P.length + j)) / 2 - (P.length), by omega⟩
      have hih : i ≤ h := by omega
      have hhj : h < j := by omega
      have e1 : IntKind.i64.wrap (((P.length + i : Nat) : Int) + ((P.length + j : Nat) : Int)) = ((P.length + i + (P.length + j) : Nat) : Int) := by rw [w64 (by omega) (by omega)]; omega
      have e2 : IntKind.u64.wrap ((P.length + i + (P.length + j) : Nat) : Int) = ((P.length + i + (P.length + j) : Nat) : Int) := wu64 (by omega) (by omega)
      have e3 : IntKind.i64.wrap ((P.length + h : Nat) : Int) = ((P.length + h : Nat) : Int) := w64 (by omega) (by omega)
      have e4 : IntKind.i64.wrap (((P.length + h : Nat) : Int) + 1) = ((P.length + (h + 1) : Nat) : Int) := by rw [w64 (by omega) (by omega)]; rfl
      have hhA : h < A.length := by omega
      have gA : A[h]? = some A[h] := List.getElem?_eq_getElem hhA
      have g1 : (P ++ A ++ y :: R)[P.length + A.length]? = some y := by rw [List.getElem?_append_right (by simp), show P.length + A.length - (P ++ A).length = 0 from by simp]; rfl
      have g2 : (P ++ A ++ y :: R)[P.length + h]? = some A[h] := by
        rw [List.getElem?_append_left (by simp; omega), List.getElem?_append_right (by omega), show P.length + h - P.length = h from by omega]; exact gA
      try simp only [↓reduceIte, ↓LL, LM, Value.cells, Nat.reduceAdd, Option.some.injEq, exists_eq_left', decide_true, decide_false, if_true, if_false, reduceCtorEq, cond_true, cond_false, cc, e1, e2]
      rw [shr1, hh]
      have hB := hB.drw
      have hC := hC.drw
      try simp only [↓reduceIte, ↓LL, LM, Value.cells, Nat.reduceAdd, Option.some.injEq, exists_eq_left', decide_true, decide_false, if_true, if_false, reduceCtorEq, cond_true, cond_false, e3]
      refine rd1 hB hN hone g1 ?_
      try simp only [↓reduceIte, ↓LL, LM, Value.cells, Nat.reduceAdd, Option.some.injEq, exists_eq_left', decide_true, decide_false, if_true, if_false, reduceCtorEq, cond_true, cond_false]
      refine rd1 hB hN hone g2 ?_
      try simp only [↓reduceIte, ↓LL, LM, Value.cells, Nat.reduceAdd, Option.some.injEq, exists_eq_left', decide_true, decide_false, if_true, if_false, reduceCtorEq, cond_true, cond_false]
      refine hcmp y.1 A[h].1 _ _ _ hC (hB.mem _ (List.mem_of_getElem? g1)) (hB.mem _ (List.mem_of_getElem? g2)) fun w1 z b1 hz => ?_
      have hB := hB.below b1
      have hC := hC.trans (Chg.of_below b1)
      cases hle : le A[h].1 y.1 with
      | false =>
        have hz0 : z < 0 := hz.2 hle
        try simp only [↓reduceIte, ↓LL, LM, Value.cells, Nat.reduceAdd, Option.some.injEq, exists_eq_left', decide_true, decide_false, if_true, if_false, reduceCtorEq, cond_true, cond_false, hz0, e4]
        exact ih m i h w1 (by omega) (by omega) (by omega) (by omega) hB hC h1 (sd_drop hs O gA (slt_nle O hle)) kk
      | true =>
        have hz0 : ¬ z < 0 := fun h => by rw [hz.1 h] at hle; cases hle
        try simp only [↓reduceIte, ↓LL, LM, Value.cells, Nat.reduceAdd, Option.some.injEq, exists_eq_left', decide_true, decide_false, if_true, if_false, reduceCtorEq, cond_true, cond_false, hz0, e4]
        exact ih m (h + 1) j w1 (by omega) (by omega) (by omega) (by omega) hB hC (sd_take hs O gA (slt_le hle (hp _ (List.getElem_mem hhA)))) h2 kk
    · have : j = i := by omega
      subst this
      have cc : ¬ ((P.length + j : Nat) : Int) < ((P.length + j : Nat) : Int) := by omega
      try simp only [↓reduceIte, ↓LL, LM, Value.cells, Nat.reduceAdd, Option.some.injEq, exists_eq_left', decide_true, decide_false, if_true, if_false, reduceCtorEq, cond_true, cond_false, cc]
      exact kk w j hB hC hj h1 h2
/-- it goes there -/
theorem f59_down (hone : ∀ x, (hd x).oneCell' = true) (hbd : N ≤ 281474976710656) {P A R : List (β × Nat)} {y : β × Nat} (hN : (P ++ A ++ y :: R).length = N) {k : Nat} (hk : k ≤ A.length) : ∀ (d m s : Nat) (w : World), s = k + d → s ≤ A.length → d < m →
    BkAt e (fun x => [hd x]) Mm rest g w (P ++ A.take s ++ y :: (A.drop s ++ R)) → Chg g V w → (∀ w', BkAt e (fun x => [hd x]) Mm rest g w' (P ++ A.take k ++ y :: (A.drop k ++ R)) → Chg g V w' → Q (.tuple #[]) w') →
    itr (fun _ _ _ => bot) f59_b6 m (.slice (some ⟨g, 0, none⟩) N c) (.int .i64 ((P.length + k : Nat) : Int)) (.int .i64 ((P.length + s : Nat) : Int)) w Q := by
  intro d
  induction d with
  | zero =>
    intro m s w hs hsl hm hB hC kk
    obtain ⟨m, rfl⟩ : ∃ x, m = x + 1 := ⟨m - 1, by omega⟩
    show f59_b6 _ _ _ _ w Q
    unfold f59_b6
    have : s = k := by omega
    subst this
    have cc : ¬ ((P.length + s : Nat) : Int) < ((P.length + s : Nat) : Int) := by omega
    try simp only [↓reduceIte, ↓LL, LM, Value.cells, Nat.reduceAdd, Option.some.injEq, exists_eq_left', decide_true, decide_false, if_true, if_false, reduceCtorEq, cond_true, cond_false, cc]
    exact kk w hB hC
  | succ d ih =>
    intro m s w hs hsl hm hB hC kk
    obtain ⟨m, rfl⟩ : ∃ x, m = x + 1 := ⟨m - 1, by omega⟩
    show f59_b6 _ _ _ _ w Q
    unfold f59_b6
    have hN' := hN
    simp only [List.length_append, List.length_cons] at hN'
    obtain ⟨s, rfl⟩ : ∃ s', s = s' + 1 := ⟨s - 1, by omega⟩
    have hsA : s < A.length := by omega
    have e2 : IntKind.i64.wrap (((P.length + (s + 1) : Nat) : Int) - 1) = ((P.length + s : Nat) : Int) := by rw [w64 (by omega) (by omega)]; omega
    have cc : ((P.length + k : Nat) : Int) < ((P.length + (s + 1) : Nat) : Int) := by omega
    have hL : P ++ A.take (s + 1) ++ y :: (A.drop (s + 1) ++ R) = (P ++ A.take s) ++ A[s] :: ([] ++ y :: (A.drop (s + 1) ++ R)) := by
      rw [List.take_succ_eq_append_getElem hsA]; simp only [List.append_assoc, List.cons_append, List.nil_append]
    have hlen : (P ++ A.take (s + 1) ++ y :: (A.drop (s + 1) ++ R)).length = N := by simp; omega
    obtain ⟨g1, g2, k1, k2, x1, x2⟩ := line_get (i := P.length + s) (j := P.length + (s + 1)) hL (by simp; omega) (by simp; omega)
    have hB := hB.drw
    have hC := hC.drw
    try simp only [↓reduceIte, ↓LL, LM, Value.cells, Nat.reduceAdd, Option.some.injEq, exists_eq_left', decide_true, decide_false, if_true, if_false, reduceCtorEq, cond_true, cond_false, cc, e2]
    refine rd1 hB hlen hone g1 ?_
    try simp only [↓reduceIte, ↓LL, LM, Value.cells, Nat.reduceAdd, Option.some.injEq, exists_eq_left', decide_true, decide_false, if_true, if_false, reduceCtorEq, cond_true, cond_false, cc, e2]
    refine rd1 hB hlen hone g2 ?_
    try simp only [↓reduceIte, ↓LL, LM, Value.cells, Nat.reduceAdd, Option.some.injEq, exists_eq_left', decide_true, decide_false, if_true, if_false, reduceCtorEq, cond_true, cond_false, cc, e2]
    refine st1 hB hlen hone k2 (hB.mem _ (List.mem_of_getElem? g1)) fun w1 b1 u1 => ?_
    try simp only [↓reduceIte, ↓LL, LM, Value.cells, Nat.reduceAdd, Option.some.injEq, exists_eq_left', decide_true, decide_false, if_true, if_false, reduceCtorEq, cond_true, cond_false, cc, e2]
    refine st1 b1 (by rw [List.length_set]; exact hlen) hone (by rw [List.length_set]; exact k1) (hB.mem _ (List.mem_of_getElem? g2)) fun w2 b2 u2 => ?_
    rw [x2] at b2
    try simp only [↓reduceIte, ↓LL, LM, Value.cells, Nat.reduceAdd, Option.some.injEq, exists_eq_left', decide_true, decide_false, if_true, if_false, reduceCtorEq, cond_true, cond_false, cc, e2]
    refine ih m s w2 (by omega) (by omega) (by omega) ?_ (u2c hC u1 u2) kk
    rw [List.drop_eq_getElem_cons hsA]
    simp only [List.append_assoc, List.cons_append, List.nil_append] at b2 ⊢
    exact b2
end
/-! runs merged: both of several -/
section
variable {β : Type} {e : TypeId} {hd : β → Value} {le : β → β → Bool} {Mm : β → Prop} {rest : List Value} {g c N : Nat} {V w : World} {cf : Value} {Q : Value → World → Prop}
theorem f59_half (hone : ∀ x, (hd x).oneCell' = true) (O : Ord le) (hcmp : CmpOf Try.prog V g cf hd le Mm) (hbd : N ≤ 281474976710656) {P A B R : List (β × Nat)} {D : Nat} {ta tm tb td : Value} (hN : (P ++ A ++ B ++ R).length = N) {j8 : Value → Value → Value → Value → Value → Value → Value → Value → M} : ∀ (d m k r : Nat) (w : World), k ≤ r → r ≤ A.length → r ≤ D → D ≤ k + B.length → r - k ≤ d → d < m → Pl A B →
    BkAt e (fun x => [hd x]) Mm rest g w (P ++ A ++ B ++ R) → Chg g V w → (0 < k → ∀ x y, A[k - 1]? = some x → B[D - k]? = some y → slt le x y) → (r < D → ∀ x y, B[D - 1 - r]? = some y → A[r]? = some x → slt le y x) →
    (∀ w' k, BkAt e (fun x => [hd x]) Mm rest g w' (P ++ A ++ B ++ R) → Chg g V w' → k ≤ A.length → k ≤ D → D ≤ k + B.length → (0 < k → ∀ x y, A[k - 1]? = some x → B[D - k]? = some y → slt le x y) → (k < D → ∀ x y, B[D - 1 - k]? = some y → A[k]? = some x → slt le y x) →
      j8 (.slice (some ⟨g, 0, none⟩) N c) ta tm tb cf td (.int .i64 ((P.length + D + (P.length + A.length) : Nat) : Int)) (.int .i64 ((P.length + k : Nat) : Int)) w' Q) →
    itr (fun _ _ _ _ _ _ _ _ _ _ => bot) (f59_b9 j8) m (.slice (some ⟨g, 0, none⟩) N c) ta tm tb cf td (.int .i64 ((P.length + D + (P.length + A.length) : Nat) : Int)) (.int .i64 ((P.length + k : Nat) : Int)) (.int .i64 ((P.length + r : Nat) : Int)) (.int .i64 ((P.length + D + (P.length + A.length) - 1 : Nat) : Int)) w Q := by
  intro d
  induction d with
  | zero =>
    intro m k r w hkr hrA hrD hDk hd hm hp hB hC h1 h2 kk
    obtain ⟨m, rfl⟩ : ∃ x, m = x + 1 := ⟨m - 1, by omega⟩
    show f59_b9 j8 _ _ _ _ _ _ _ _ _ _ _ w Q
    unfold f59_b9
    have : r = k := by omega
    subst this
    have cc : ¬ ((P.length + r : Nat) : Int) < ((P.length + r : Nat) : Int) := by omega
    try simp only [↓reduceIte, ↓LL, LM, Value.cells, Nat.reduceAdd, Option.some.injEq, exists_eq_left', decide_true, decide_false, if_true, if_false, reduceCtorEq, cond_true, cond_false, cc]
    exact kk w r hB hC hrA hrD hDk h1 h2
  | succ d ih =>
    intro m k r w hkr hrA hrD hDk hd hm hp hB hC h1 h2 kk
    obtain ⟨m, rfl⟩ : ∃ x, m = x + 1 := ⟨m - 1, by omega⟩
    show f59_b9 j8 _ _ _ _ _ _ _ _ _ _ _ w Q
    unfold f59_b9
    by_cases hlt : k < r
    · have cc : ((P.length + k : Nat) : Int) < ((P.length + r : Nat) : Int) := by omega
      have hN' := hN
      simp only [List.length_append] at hN'
      obtain ⟨h, hh⟩ : ∃ h, (P.length + k + (P.length + r)) / 2 = P.length + h := ⟨(P.length + k + (P.length + r)) / 2 - (P.length), by omega⟩
      have hkh : k ≤ h := by omega
      have hhr : h < r := by omega
      have hhA : h < A.length := by omega
      have hhB : D - 1 - h < B.length := by omega
      have e1 : IntKind.i64.wrap (((P.length + k : Nat) : Int) + ((P.length + r : Nat) : Int)) = ((P.length + k + (P.length + r) : Nat) : Int) := by rw [w64 (by omega) (by omega)]; omega
      have e2 : IntKind.u64.wrap ((P.length + k + (P.length + r) : Nat) : Int) = ((P.length + k + (P.length + r) : Nat) : Int) := wu64 (by omega) (by omega)
      have e3 : IntKind.i64.wrap ((P.length + h : Nat) : Int) = ((P.length + h : Nat) : Int) := w64 (by omega) (by omega)
      have e4 : IntKind.i64.wrap (((P.length + h : Nat) : Int) + 1) = ((P.length + (h + 1) : Nat) : Int) := by rw [w64 (by omega) (by omega)]; rfl
      have e5 : IntKind.i64.wrap (((P.length + D + (P.length + A.length) - 1 : Nat) : Int) - ((P.length + h : Nat) : Int)) = ((P.length + A.length + (D - 1 - h) : Nat) : Int) := by rw [w64 (by omega) (by omega)]; omega
      have gA : A[h]? = some A[h] := List.getElem?_eq_getElem hhA
      have gB : B[D - 1 - h]? = some B[D - 1 - h] := List.getElem?_eq_getElem hhB
      have g1 : (P ++ A ++ B ++ R)[P.length + h]? = some A[h] := by
        rw [List.append_assoc, List.append_assoc, List.getElem?_append_right (by omega), show P.length + h - P.length = h from by omega, List.getElem?_append_left hhA]; exact gA
      have g2 : (P ++ A ++ B ++ R)[P.length + A.length + (D - 1 - h)]? = some B[D - 1 - h] := by
        rw [List.append_assoc, List.getElem?_append_right (by simp), show P.length + A.length + (D - 1 - h) - (P ++ A).length = D - 1 - h from by simp, List.getElem?_append_left hhB]; exact gB
      try simp only [↓reduceIte, ↓LL, LM, Value.cells, Nat.reduceAdd, Option.some.injEq, exists_eq_left', decide_true, decide_false, if_true, if_false, reduceCtorEq, cond_true, cond_false, cc, e1, e2]
      rw [shr1, hh]
      have hB := hB.drw
      have hC := hC.drw
      try simp only [↓reduceIte, ↓LL, LM, Value.cells, Nat.reduceAdd, Option.some.injEq, exists_eq_left', decide_true, decide_false, if_true, if_false, reduceCtorEq, cond_true, cond_false, e3, e5]
      refine rd1 hB hN hone g2 ?_
      try simp only [↓reduceIte, ↓LL, LM, Value.cells, Nat.reduceAdd, Option.some.injEq, exists_eq_left', decide_true, decide_false, if_true, if_false, reduceCtorEq, cond_true, cond_false]
      refine rd1 hB hN hone g1 ?_
      try simp only [↓reduceIte, ↓LL, LM, Value.cells, Nat.reduceAdd, Option.some.injEq, exists_eq_left', decide_true, decide_false, if_true, if_false, reduceCtorEq, cond_true, cond_false]
      refine hcmp B[D - 1 - h].1 A[h].1 _ _ _ hC (hB.mem _ (List.mem_of_getElem? g2)) (hB.mem _ (List.mem_of_getElem? g1)) fun w1 z b1 hz => ?_
      have hB := hB.below b1
      have hC := hC.trans (Chg.of_below b1)
      cases hle : le A[h].1 B[D - 1 - h].1 with
      | false =>
        have hz0 : z < 0 := hz.2 hle
        try simp only [↓reduceIte, ↓LL, LM, Value.cells, Nat.reduceAdd, Option.some.injEq, exists_eq_left', decide_true, decide_false, if_true, if_false, reduceCtorEq, cond_true, cond_false, hz0, e4]
        refine ih m k h w1 hkh (by omega) (by omega) hDk (by omega) (by omega) hp hB hC h1 (fun _ x y hy hx => ?_) kk
        rw [gA] at hx; rw [gB] at hy; cases hx; cases hy
        exact slt_nle O hle
      | true =>
        have hz0 : ¬ z < 0 := fun h => by rw [hz.1 h] at hle; cases hle
        try simp only [↓reduceIte, ↓LL, LM, Value.cells, Nat.reduceAdd, Option.some.injEq, exists_eq_left', decide_true, decide_false, if_true, if_false, reduceCtorEq, cond_true, cond_false, hz0, e4]
        refine ih m (h + 1) r w1 (by omega) (by omega) (by omega) (by omega) (by omega) (by omega) hp hB hC (fun _ x y hx hy => ?_) h2 kk
        rw [Nat.add_sub_cancel, gA] at hx
        rw [show D - (h + 1) = D - 1 - h from by omega, gB] at hy
        cases hx; cases hy
        exact slt_le hle (hp _ (List.getElem_mem hhA) _ (List.getElem_mem hhB))
    · have : r = k := by omega
      subst this
      have cc : ¬ ((P.length + r : Nat) : Int) < ((P.length + r : Nat) : Int) := by omega
      try simp only [↓reduceIte, ↓LL, LM, Value.cells, Nat.reduceAdd, Option.some.injEq, exists_eq_left', decide_true, decide_false, if_true, if_false, reduceCtorEq, cond_true, cond_false, cc]
      exact kk w r hB hC hrA hrD hDk h1 h2
/-- two runs merged -/
theorem f59_s (hone : ∀ x, (hd x).oneCell' = true) (O : Ord le) (hcmp : CmpOf Try.prog V g cf hd le Mm) (hbd : N ≤ 281474976710656) : ∀ (n : Nat) (P A B R : List (β × Nat)) (a mm b : Nat) (w : World) (Q : Value → World → Prop), A.length + B.length ≤ n → 0 < A.length → 0 < B.length → (P ++ A ++ B ++ R).length = N → a = P.length → mm = P.length + A.length → b = P.length + A.length + B.length →
    BkAt e (fun x => [hd x]) Mm rest g w (P ++ A ++ B ++ R) → Chg g V w → Sd le A → Sd le B → Pl A B →
    (∀ w' S, BkAt e (fun x => [hd x]) Mm rest g w' (P ++ S ++ R) → Chg g V w' → S.Perm (A ++ B) → Sd le S → Q (.tuple #[]) w') →
    f59 (.slice (some ⟨g, 0, none⟩) N c) (.int .i64 (a : Int)) (.int .i64 (mm : Int)) (.int .i64 (b : Int)) cf w Q := by
  intro n
  induction n with
  | zero => intro P A B R a mm b w Q hn hA hB; omega
  | succ n ih =>
    intro P A B R a mm b w Q hn hA hB hN ha hm hb hK hC sA sB hp kk
    have hN' := hN
    simp only [List.length_append] at hN'
    unfold f59
    have e1 : IntKind.i64.wrap ((mm : Int) - (a : Int)) = ((A.length : Nat) : Int) := by rw [w64 (by omega) (by omega)]; omega
    have e2 : IntKind.i64.wrap ((b : Int) - (mm : Int)) = ((B.length : Nat) : Int) := by rw [w64 (by omega) (by omega)]; omega
    by_cases hA1 : A.length = 1
    · obtain ⟨x, rfl⟩ : ∃ x, A = [x] := List.length_eq_one_iff.1 hA1
      have cA : ((([x] : List (β × Nat)).length : Nat) : Int) = 1 := rfl
      try simp only [↓reduceIte, ↓LL, LM, Value.cells, Nat.reduceAdd, Option.some.injEq, exists_eq_left', decide_true, decide_false, if_true, if_false, reduceCtorEq, cond_true, cond_false, e1, cA]
      have hK' : BkAt e (fun x => [hd x]) Mm rest g w (P ++ x :: (B ++ R)) := by simpa using hK
      have hNx : (P ++ x :: (B ++ R)).length = N := by rw [← hN]; simp
      have em : (mm : Int) = ((P.length + 1 + 0 : Nat) : Int) := by rw [hm]; simp
      have eb : (b : Int) = ((P.length + 1 + B.length : Nat) : Int) := by rw [hb]; simp
      have ea : (a : Int) = ((P.length : Nat) : Int) := by rw [ha]
      rw [em, eb, ea]
      refine ⟨_, f59_find1 hone O hcmp hbd hNx sB (fun y hy => hp x (by simp) y hy) B.length (B.length + 1) 0 B.length w (by omega) (by omega) (by omega) (by omega) hK' hC (by simp) (by simp) fun w1 k b1 c1 hk q1 q2 => ?_⟩
      unfold f59_j1
      refine ⟨_, f59_up hone hbd hNx hk k (k + 1) 0 w1 (by omega) (by omega) (by simpa using b1) c1 fun w2 b2 c2 => ?_⟩
      refine kk w2 (B.take k ++ x :: B.drop k) (by simpa using b2) c2 ?_ (sd_ins (by rw [List.take_append_drop]; exact sB) q1 q2)
      refine List.perm_middle.trans ?_
      rw [List.take_append_drop]
      exact List.Perm.refl _
    · have cA : ¬ ((A.length : Nat) : Int) = 1 := by omega
      by_cases hB1 : B.length = 1
      · obtain ⟨y, rfl⟩ : ∃ y, B = [y] := List.length_eq_one_iff.1 hB1
        have cB : ((([y] : List (β × Nat)).length : Nat) : Int) = 1 := rfl
        try simp only [↓reduceIte, ↓LL, LM, Value.cells, Nat.reduceAdd, Option.some.injEq, exists_eq_left', decide_true, decide_false, if_true, if_false, reduceCtorEq, cond_true, cond_false, e1, e2, cA, cB]
        have hK' : BkAt e (fun x => [hd x]) Mm rest g w (P ++ A ++ y :: R) := by simpa using hK
        have hNx : (P ++ A ++ y :: R).length = N := by rw [← hN]; simp
        have em : (mm : Int) = ((P.length + A.length : Nat) : Int) := by rw [hm]
        have ea : (a : Int) = ((P.length + 0 : Nat) : Int) := by rw [ha]; simp
        rw [em, ea]
        refine ⟨_, f59_find2 hone O hcmp hbd hNx sA (fun x hx => hp x hx y (by simp)) A.length (A.length + 1) 0 A.length w (by omega) (by omega) (by omega) (by omega) hK' hC (by simp) (by simp) fun w1 k b1 c1 hk q1 q2 => ?_⟩
        unfold f59_j4
        refine ⟨_, f59_down hone hbd hNx hk (A.length - k) (A.length - k + 1) A.length w1 (by omega) (by omega) (by omega) (by simpa using b1) c1 fun w2 b2 c2 => ?_⟩
        refine kk w2 (A.take k ++ y :: A.drop k) (by simpa using b2) c2 ?_ (sd_ins (by rw [List.take_append_drop]; exact sA) q1 q2)
        refine List.perm_middle.trans ?_
        rw [List.take_append_drop]
        exact (List.perm_append_singleton _ _).symm
      · have cB : ¬ ((B.length : Nat) : Int) = 1 := by omega
        obtain ⟨D, hD⟩ : ∃ D, (a + b) / 2 = P.length + D := ⟨(a + b) / 2 - P.length, by omega⟩
        have e3 : IntKind.i64.wrap ((a : Int) + (b : Int)) = ((a + b : Nat) : Int) := by rw [w64 (by omega) (by omega)]; omega
        have e4 : IntKind.u64.wrap ((a + b : Nat) : Int) = ((a + b : Nat) : Int) := wu64 (by omega) (by omega)
        have e5 : IntKind.i64.wrap ((P.length + D : Nat) : Int) = ((P.length + D : Nat) : Int) := w64 (by omega) (by omega)
        have e6 : IntKind.i64.wrap (((P.length + D : Nat) : Int) + (mm : Int)) = ((P.length + D + (P.length + A.length) : Nat) : Int) := by rw [w64 (by omega) (by omega)]; omega
        have e7 : IntKind.i64.wrap (((P.length + D + (P.length + A.length) : Nat) : Int) - 1) = ((P.length + D + (P.length + A.length) - 1 : Nat) : Int) := by rw [w64 (by omega) (by omega)]; omega
        try simp only [↓reduceIte, ↓LL, LM, Value.cells, Nat.reduceAdd, Option.some.injEq, exists_eq_left', decide_true, decide_false, if_true, if_false, reduceCtorEq, cond_true, cond_false, e1, e2, cA, cB, e3, e4]
        rw [shr1, hD]
        try simp only [↓reduceIte, ↓LL, LM, Value.cells, Nat.reduceAdd, Option.some.injEq, exists_eq_left', decide_true, decide_false, if_true, if_false, reduceCtorEq, cond_true, cond_false, e5, e6]
        -- behind the search
        have fin : ∀ (w1 : World) (k : Nat), BkAt e (fun x => [hd x]) Mm rest g w1 (P ++ A ++ B ++ R) → Chg g V w1 → k ≤ A.length → k ≤ D → D ≤ k + B.length → (0 < k → ∀ x y, A[k - 1]? = some x → B[D - k]? = some y → slt le x y) → (k < D → ∀ x y, B[D - 1 - k]? = some y → A[k]? = some x → slt le y x) →
            f59_j8 (.slice (some ⟨g, 0, none⟩) N c) (.int .i64 (a : Int)) (.int .i64 (mm : Int)) (.int .i64 (b : Int)) cf (.int .i64 ((P.length + D : Nat) : Int)) (.int .i64 ((P.length + D + (P.length + A.length) : Nat) : Int)) (.int .i64 ((P.length + k : Nat) : Int)) w1 Q := by
          intro w1 k b1 c1 hkA hkD hDk q1 q2
          unfold f59_j8
          obtain ⟨A1, A2, hA12, hl1⟩ : ∃ A1 A2, A = A1 ++ A2 ∧ A1.length = k := ⟨A.take k, A.drop k, (List.take_append_drop _ _).symm, by rw [List.length_take]; omega⟩
          obtain ⟨B1, B2, hB12, hl2⟩ : ∃ B1 B2, B = B1 ++ B2 ∧ B1.length = D - k := ⟨B.take (D - k), B.drop (D - k), (List.take_append_drop _ _).symm, by rw [List.length_take]; omega⟩
          have la : A.length = A1.length + A2.length := by rw [hA12, List.length_append]
          have lb : B.length = B1.length + B2.length := by rw [hB12, List.length_append]
          have sA' := sA
          rw [hA12] at sA'
          have sB' := sB
          rw [hB12] at sB'
          have sa := sd_app.1 sA'
          have sb := sd_app.1 sB'
          have f1 : Bf le A1 B2 := bf_last O sa.1 sb.2.1 fun x y hx hy => by
            have hk0 : 0 < k := by
              rcases Nat.eq_zero_or_pos k with h | h
              · rw [List.length_eq_zero_iff.1 (hl1.trans h)] at hx; cases hx
              · exact h
            refine q1 hk0 x y ?_ ?_
            · rw [hA12, List.getElem?_append_left (by omega), ← hx, List.getLast?_eq_getElem?, hl1]
            · rw [hB12, List.getElem?_append_right (by omega), hl2, Nat.sub_self, ← hy, List.head?_eq_getElem?]
          have f2 : Bf le B1 A2 := bf_last O sb.1 sa.2.1 fun y x hy hx => by
            have hk0 : k < D := by
              rcases Nat.lt_or_ge k D with h | h
              · exact h
              · rw [List.length_eq_zero_iff.1 (hl2.trans (by omega))] at hy; cases hy
            refine q2 hk0 x y ?_ ?_
            · rw [hB12, List.getElem?_append_left (by omega), ← hy, List.getLast?_eq_getElem?, hl2]; congr 1; omega
            · rw [hA12, List.getElem?_append_right (by omega), hl1, Nat.sub_self, ← hx, List.head?_eq_getElem?]
          have p1 : Pl A1 B1 := fun x hx y hy => hp x (by rw [hA12]; exact List.mem_append_left _ hx) y (by rw [hB12]; exact List.mem_append_left _ hy)
          have p2 : Pl A2 B2 := fun x hx y hy => hp x (by rw [hA12]; exact List.mem_append_right _ hx) y (by rw [hB12]; exact List.mem_append_right _ hy)
          have e8 : IntKind.i64.wrap (((P.length + D + (P.length + A.length) : Nat) : Int) - ((P.length + k : Nat) : Int)) = ((P.length + A.length + (D - k) : Nat) : Int) := by rw [w64 (by omega) (by omega)]; omega
          -- behind both halves
          have fin2 : ∀ (w2 : World) (S1 : List (β × Nat)), BkAt e (fun x => [hd x]) Mm rest g w2 (P ++ S1 ++ A2 ++ B2 ++ R) → Chg g V w2 → S1.Perm (A1 ++ B1) → Sd le S1 →
              f59_j11 (.slice (some ⟨g, 0, none⟩) N c) (.int .i64 (b : Int)) cf (.int .i64 ((P.length + D : Nat) : Int)) (.int .i64 ((P.length + A.length + (D - k) : Nat) : Int)) w2 Q := by
            intro w2 S1 b2 c2 pS1 sS1
            have lS1 : S1.length = D := by rw [pS1.length_eq, List.length_append]; omega
            unfold f59_j11
            by_cases z1 : 0 < A2.length
            · have c1' : ((P.length + D : Nat) : Int) < ((P.length + A.length + (D - k) : Nat) : Int) := by omega
              by_cases z2 : 0 < B2.length
              · have c2' : ((P.length + A.length + (D - k) : Nat) : Int) < (b : Int) := by omega
                try simp only [↓reduceIte, ↓LL, LM, Value.cells, Nat.reduceAdd, Option.some.injEq, exists_eq_left', decide_true, decide_false, if_true, if_false, reduceCtorEq, cond_true, cond_false, c1', c2']
                refine s59 _ _ _ _ _ w2 _ ?_
                refine ih (P ++ S1) A2 B2 R _ _ _ w2 _ (by omega) z1 z2 (by rw [← hN, hA12, hB12]; simp; omega) (by simp; omega) (by simp; omega) (by simp; omega) (by simpa using b2) c2 sa.2.1 sb.2.1 p2 fun w3 S2 b3 c3 pS2 sS2 => ?_
                try simp only [↓reduceIte, ↓LL, LM, Value.cells, Nat.reduceAdd, Option.some.injEq, exists_eq_left', decide_true, decide_false, if_true, if_false, reduceCtorEq, cond_true, cond_false]
                obtain ⟨t1, t2⟩ := merge_halves O sA' sB' f1 f2 pS1 pS2 sS1 sS2
                exact kk w3 (S1 ++ S2) (by simpa using b3) c3 (by rw [hA12, hB12]; exact t2) t1
              · have c2' : ¬ ((P.length + A.length + (D - k) : Nat) : Int) < (b : Int) := by omega
                try simp only [↓reduceIte, ↓LL, LM, Value.cells, Nat.reduceAdd, Option.some.injEq, exists_eq_left', decide_true, decide_false, if_true, if_false, reduceCtorEq, cond_true, cond_false, c1', c2']
                have hB2 : B2 = [] := List.length_eq_zero_iff.1 (by omega)
                obtain ⟨t1, t2⟩ := merge_halves O sA' sB' f1 f2 pS1 (S2 := A2) (by rw [hB2, List.append_nil]) sS1 sa.2.1
                exact kk w2 (S1 ++ A2) (by rw [hB2] at b2; simpa using b2) c2 (by rw [hA12, hB12]; exact t2) t1
            · have c1' : ¬ ((P.length + D : Nat) : Int) < ((P.length + A.length + (D - k) : Nat) : Int) := by omega
              try simp only [↓reduceIte, ↓LL, LM, Value.cells, Nat.reduceAdd, Option.some.injEq, exists_eq_left', decide_true, decide_false, if_true, if_false, reduceCtorEq, cond_true, cond_false, c1']
              have hA2 : A2 = [] := List.length_eq_zero_iff.1 (by omega)
              obtain ⟨t1, t2⟩ := merge_halves O sA' sB' f1 f2 pS1 (S2 := B2) (by rw [hA2, List.nil_append]) sS1 sb.2.1
              exact kk w2 (S1 ++ B2) (by rw [hA2] at b2; simpa using b2) c2 (by rw [hA12, hB12]; exact t2) t1
          -- behind the rotation
          have fin1 : ∀ (w2 : World), BkAt e (fun x => [hd x]) Mm rest g w2 (P ++ A1 ++ B1 ++ A2 ++ B2 ++ R) → Chg g V w2 →
              f59_j10 (.slice (some ⟨g, 0, none⟩) N c) (.int .i64 (a : Int)) (.int .i64 (b : Int)) cf (.int .i64 ((P.length + D : Nat) : Int)) (.int .i64 ((P.length + k : Nat) : Int)) (.int .i64 ((P.length + A.length + (D - k) : Nat) : Int)) w2 Q := by
            intro w2 b2 c2
            unfold f59_j10
            by_cases z1 : 0 < A1.length
            · have c1' : (a : Int) < ((P.length + k : Nat) : Int) := by omega
              by_cases z2 : 0 < B1.length
              · have c2' : ((P.length + k : Nat) : Int) < ((P.length + D : Nat) : Int) := by omega
                try simp only [↓reduceIte, ↓LL, LM, Value.cells, Nat.reduceAdd, Option.some.injEq, exists_eq_left', decide_true, decide_false, if_true, if_false, reduceCtorEq, cond_true, cond_false, c1', c2']
                refine s59 _ _ _ _ _ w2 _ ?_
                refine ih P A1 B1 (A2 ++ B2 ++ R) _ _ _ w2 _ (by omega) z1 z2 (by rw [← hN, hA12, hB12]; simp; omega) ha (by omega) (by omega) (by simpa using b2) c2 sa.1 sb.1 p1 fun w3 S1 b3 c3 pS1 sS1 => ?_
                try simp only [↓reduceIte, ↓LL, LM, Value.cells, Nat.reduceAdd, Option.some.injEq, exists_eq_left', decide_true, decide_false, if_true, if_false, reduceCtorEq, cond_true, cond_false]
                exact fin2 w3 S1 (by simpa using b3) c3 pS1 sS1
              · have c2' : ¬ ((P.length + k : Nat) : Int) < ((P.length + D : Nat) : Int) := by omega
                try simp only [↓reduceIte, ↓LL, LM, Value.cells, Nat.reduceAdd, Option.some.injEq, exists_eq_left', decide_true, decide_false, if_true, if_false, reduceCtorEq, cond_true, cond_false, c1', c2']
                have hB1 : B1 = [] := List.length_eq_zero_iff.1 (by omega)
                exact fin2 w2 A1 (by rw [hB1] at b2; simpa using b2) c2 (by rw [hB1, List.append_nil]) sa.1
            · have c1' : ¬ (a : Int) < ((P.length + k : Nat) : Int) := by omega
              try simp only [↓reduceIte, ↓LL, LM, Value.cells, Nat.reduceAdd, Option.some.injEq, exists_eq_left', decide_true, decide_false, if_true, if_false, reduceCtorEq, cond_true, cond_false, c1']
              have hA1 : A1 = [] := List.length_eq_zero_iff.1 (by omega)
              exact fin2 w2 B1 (by rw [hA1] at b2; simpa using b2) c2 (by rw [hA1, List.nil_append]) sb.1
          have b1' : BkAt e (fun x => [hd x]) Mm rest g w1 ((P ++ A1) ++ A2 ++ B1 ++ (B2 ++ R)) := by rw [hA12, hB12] at b1; simpa using b1
          by_cases z1 : 0 < A2.length
          · have c1' : ((P.length + k : Nat) : Int) < (mm : Int) := by omega
            by_cases z2 : 0 < B1.length
            · have c2' : (mm : Int) < ((P.length + A.length + (D - k) : Nat) : Int) := by omega
              try simp only [↓reduceIte, ↓LL, LM, Value.cells, Nat.reduceAdd, Option.some.injEq, exists_eq_left', decide_true, decide_false, if_true, if_false, reduceCtorEq, cond_true, cond_false, e8, c1', c2']
              refine f61_s hone z1 z2 (by rw [← hN, hA12, hB12]; simp) hbd b1' c1 (by simp; omega) (by simp; omega) (by simp; omega) fun w2 b2 c2 => ?_
              try simp only [↓reduceIte, ↓LL, LM, Value.cells, Nat.reduceAdd, Option.some.injEq, exists_eq_left', decide_true, decide_false, if_true, if_false, reduceCtorEq, cond_true, cond_false]
              exact fin1 w2 (by simpa using b2) c2
            · have c2' : ¬ (mm : Int) < ((P.length + A.length + (D - k) : Nat) : Int) := by omega
              try simp only [↓reduceIte, ↓LL, LM, Value.cells, Nat.reduceAdd, Option.some.injEq, exists_eq_left', decide_true, decide_false, if_true, if_false, reduceCtorEq, cond_true, cond_false, e8, c1', c2']
              have hB1 : B1 = [] := List.length_eq_zero_iff.1 (by omega)
              exact fin1 w1 (by rw [hB1] at b1' ⊢; simpa using b1') c1
          · have c1' : ¬ ((P.length + k : Nat) : Int) < (mm : Int) := by omega
            try simp only [↓reduceIte, ↓LL, LM, Value.cells, Nat.reduceAdd, Option.some.injEq, exists_eq_left', decide_true, decide_false, if_true, if_false, reduceCtorEq, cond_true, cond_false, e8, c1']
            have hA2 : A2 = [] := List.length_eq_zero_iff.1 (by omega)
            exact fin1 w1 (by rw [hA2] at b1' ⊢; simpa using b1') c1
        by_cases hgt : P.length + D < mm
        · have c3 : ((P.length + D : Nat) : Int) < (mm : Int) := by omega
          have e9 : IntKind.i64.wrap (((P.length + D + (P.length + A.length) : Nat) : Int) - (b : Int)) = ((P.length + (D - B.length) : Nat) : Int) := by rw [w64 (by omega) (by omega)]; omega
          try simp only [↓reduceIte, ↓LL, LM, Value.cells, Nat.reduceAdd, Option.some.injEq, exists_eq_left', decide_true, decide_false, if_true, if_false, reduceCtorEq, cond_true, cond_false, c3, e9]
          unfold f59_j7
          try simp only [↓reduceIte, ↓LL, LM, Value.cells, Nat.reduceAdd, Option.some.injEq, exists_eq_left', decide_true, decide_false, if_true, if_false, reduceCtorEq, cond_true, cond_false, e7]
          refine ⟨_, f59_half hone O hcmp hbd hN D (D + 1) (D - B.length) D w (by omega) (by omega) (by omega) (by omega) (by omega) (by omega) hp hK hC (fun h0 x y hx hy => ?_) (fun h => by omega) fun w1 k b1 c1 q1 q2 q3 q4 q5 => fin w1 k b1 c1 q1 q2 q3 q4 q5⟩
          rw [show D - (D - B.length) = B.length from by omega, List.getElem?_eq_none (Nat.le_refl _)] at hy
          cases hy
        · have c3 : ¬ ((P.length + D : Nat) : Int) < (mm : Int) := by omega
          try simp only [↓reduceIte, ↓LL, LM, Value.cells, Nat.reduceAdd, Option.some.injEq, exists_eq_left', decide_true, decide_false, if_true, if_false, reduceCtorEq, cond_true, cond_false, c3]
          unfold f59_j7
          try simp only [↓reduceIte, ↓LL, LM, Value.cells, Nat.reduceAdd, Option.some.injEq, exists_eq_left', decide_true, decide_false, if_true, if_false, reduceCtorEq, cond_true, cond_false, e7]
          have := f59_half (Q := Q) (c := c) (ta := .int .i64 (a : Int)) (tm := .int .i64 (mm : Int)) (tb := .int .i64 (b : Int)) (td := .int .i64 ((P.length + D : Nat) : Int)) (D := D) (j8 := f59_j8) hone O hcmp hbd hN A.length (A.length + 1) 0 A.length w (by omega) (by omega) (by omega) (by omega) (by omega) (by omega) hp hK hC (fun h0 => by omega) (fun h x y hx hy => by rw [List.getElem?_eq_none (Nat.le_refl _)] at hy; cases hy) fun w1 k b1 c1 q1 q2 q3 q4 q5 => fin w1 k b1 c1 q1 q2 q3 q4 q5
          have ea : (a : Int) = ((P.length + 0 : Nat) : Int) := by rw [ha]; simp
          have em : (mm : Int) = ((P.length + A.length : Nat) : Int) := by rw [hm]
          rw [← ea, ← em] at this
          exact ⟨_, this⟩
end
end Go.Proofs.Ytlmiimojgledpaa

set_option maxRecDepth 20000
set_option maxHeartbeats 4000000
namespace Go.Proofs.Ytlmiimojgledpaa
open Sh RowKit Go.MapKept Srt
/-! the whole -/
section
variable {β : Type} {e : TypeId} {hd : β → Value} {le : β → β → Bool} {Mm : β → Prop} {rest : List Value} {g c N : Nat} {V w : World} {cf : Value} {Q : Value → World → Prop}
theorem f52_runs (hone : ∀ x, (hd x).oneCell' = true) (O : Ord le) (hcmp : CmpOf Try.prog V g cf hd le Mm) (hbd : N ≤ 281474976710656) {L0 : List (β × Nat)} (hinc : L0.Pairwise (fun x y => x.2 < y.2)) (hN : L0.length = N) {j1 : Value → Value → Value → Value → Value → M} : ∀ (d m : Nat) (D : List (β × Nat)) (w : World), L0.length < D.length + d → d < m → D.length ≤ L0.length →
    D.Perm (L0.take D.length) → Pre le 20 D → BkAt e (fun x => [hd x]) Mm rest g w (D ++ L0.drop D.length) → Chg g V w →
    (∀ w' D, BkAt e (fun x => [hd x]) Mm rest g w' (D ++ L0.drop D.length) → Chg g V w' → D.Perm (L0.take D.length) → Pre le 20 D → D.length ≤ L0.length → L0.length < D.length + 20 → j1 (.slice (some ⟨g, 0, none⟩) N c) (.int .i64 (N : Int)) cf (.int .i64 20) (.int .i64 (D.length : Nat)) w' Q) →
    itr (fun _ _ _ _ _ _ => bot) (f52_b2 j1) m (.slice (some ⟨g, 0, none⟩) N c) (.int .i64 (N : Int)) cf (.int .i64 20) (.int .i64 (D.length : Nat)) (.int .i64 ((D.length + 20 : Nat) : Int)) w Q := by
  intro d
  induction d with
  | zero => intro m D w hdd hm hl; omega
  | succ d ih =>
    intro m D w hdd hm hl hp hpre hB hC kk
    obtain ⟨m, rfl⟩ : ∃ x, m = x + 1 := ⟨m - 1, by omega⟩
    show f52_b2 j1 _ _ _ _ _ _ _ w Q
    unfold f52_b2
    by_cases hle : D.length + 20 ≤ N
    · have cc : ((D.length + 20 : Nat) : Int) ≤ (N : Int) := by omega
      have e1 : IntKind.i64.wrap (((D.length + 20 : Nat) : Int) + 20) = ((D.length + 20 + 20 : Nat) : Int) := by rw [w64 (by omega) (by omega)]; rfl
      try simp only [↓reduceIte, ↓LL, LM, Value.cells, Nat.reduceAdd, Option.some.injEq, exists_eq_left', decide_true, decide_false, if_true, if_false, reduceCtorEq, cond_true, cond_false, cc, e1]
      have hsp : L0.drop D.length = (L0.drop D.length).take 20 ++ L0.drop (D.length + 20) := by
        rw [← List.drop_drop]; exact (List.take_append_drop _ _).symm
      have hl20 : ((L0.drop D.length).take 20).length = 20 := by rw [List.length_take, List.length_drop]; omega
      have hinc2 : ((L0.drop D.length).take 20).Pairwise (fun x y => x.2 < y.2) := (hinc.sublist (List.drop_sublist _ _)).sublist (List.take_sublist _ _)
      rw [hsp, ← List.append_assoc] at hB
      have hpl : Pl (L0.take D.length) ((L0.drop D.length).take 20) := fun x hx y hy => by
        have h := hinc
        rw [← List.take_append_drop D.length L0, List.pairwise_append] at h
        exact h.2.2 x hx y (List.mem_of_mem_take hy)
      refine f58_s hone O hcmp hbd hinc2 (by rw [← hN]; simp; omega) hB hC rfl (by omega) fun w1 S b1 c1 pS sS => ?_
      have lS : S.length = 20 := by rw [pS.length_eq]; exact hl20
      have lDS : (D ++ S).length = D.length + 20 := by rw [List.length_append, lS]
      try simp only [↓reduceIte, ↓LL, LM, Value.cells, Nat.reduceAdd, Option.some.injEq, exists_eq_left', decide_true, decide_false, if_true, if_false, reduceCtorEq, cond_true, cond_false, e1]
      have := ih m (D ++ S) w1 (by omega) (by omega) (by omega) ?_ (pre_snoc hpre sS lS (pl_perm hpl hp pS)) (by rw [lDS]; exact b1) c1 kk
      · rw [lDS] at this
        exact this
      · rw [lDS, List.take_add]
        exact hp.append pS
    · have cc : ¬ ((D.length + 20 : Nat) : Int) ≤ (N : Int) := by omega
      try simp only [↓reduceIte, ↓LL, LM, Value.cells, Nat.reduceAdd, Option.some.injEq, exists_eq_left', decide_true, decide_false, if_true, if_false, reduceCtorEq, cond_true, cond_false, cc]
      exact kk w D hB hC hp hpre hl (by omega)
theorem f52_pass (hone : ∀ x, (hd x).oneCell' = true) (O : Ord le) (hcmp : CmpOf Try.prog V g cf hd le Mm) (hbd : N ≤ 281474976710656) {L0 : List (β × Nat)} (hN : L0.length = N) {bs : Nat} (hbs : 0 < bs ∧ bs < N) {j4 : Value → Value → Value → Value → Value → M} : ∀ (d m : Nat) (D T : List (β × Nat)) (w : World), L0.length < D.length + d → d < m →
    (D ++ T).Perm L0 → Pre le (2 * bs) D → Rn le bs T → Pl D T → BkAt e (fun x => [hd x]) Mm rest g w (D ++ T) → Chg g V w →
    (∀ w' D T, BkAt e (fun x => [hd x]) Mm rest g w' (D ++ T) → Chg g V w' → (D ++ T).Perm L0 → Pre le (2 * bs) D → Rn le bs T → Pl D T → T.length < 2 * bs → j4 (.slice (some ⟨g, 0, none⟩) N c) (.int .i64 (N : Int)) cf (.int .i64 (bs : Int)) (.int .i64 (D.length : Nat)) w' Q) →
    itr (fun _ _ _ _ _ _ => bot) (f52_b5 j4) m (.slice (some ⟨g, 0, none⟩) N c) (.int .i64 (N : Int)) cf (.int .i64 (bs : Int)) (.int .i64 (D.length : Nat)) (.int .i64 ((D.length + 2 * bs : Nat) : Int)) w Q := by
  intro d
  induction d with
  | zero =>
    intro m D T w hdd hm hp
    have := hp.length_eq
    rw [List.length_append] at this
    omega
  | succ d ih =>
    intro m D T w hdd hm hp hpre hrn hpl hB hC kk
    obtain ⟨m, rfl⟩ : ∃ x, m = x + 1 := ⟨m - 1, by omega⟩
    show f52_b5 j4 _ _ _ _ _ _ _ w Q
    unfold f52_b5
    have hlen := hp.length_eq
    rw [List.length_append] at hlen
    by_cases hle : D.length + 2 * bs ≤ N
    · have cc : ((D.length + 2 * bs : Nat) : Int) ≤ (N : Int) := by omega
      have e1 : IntKind.i64.wrap (((D.length : Nat) : Int) + (bs : Int)) = ((D.length + bs : Nat) : Int) := by rw [w64 (by omega) (by omega)]; rfl
      have e2 : IntKind.i64.wrap ((2 : Int) * (bs : Int)) = ((2 * bs : Nat) : Int) := by rw [w64 (by omega) (by omega)]; omega
      have e3 : IntKind.i64.wrap (((D.length + 2 * bs : Nat) : Int) + ((2 * bs : Nat) : Int)) = ((D.length + 2 * bs + 2 * bs : Nat) : Int) := by rw [w64 (by omega) (by omega)]; rfl
      try simp only [↓reduceIte, ↓LL, LM, Value.cells, Nat.reduceAdd, Option.some.injEq, exists_eq_left', decide_true, decide_false, if_true, if_false, reduceCtorEq, cond_true, cond_false, cc, e1]
      obtain ⟨B1, T1, rfl, s1, l1, p1, r1⟩ := rn_inv hrn (by omega)
      rw [List.length_append] at hlen
      obtain ⟨B2, T2, rfl, s2, l2, p2, r2⟩ := rn_inv r1 (by omega)
      have pp := pl_app.1 p1
      have hB' : BkAt e (fun x => [hd x]) Mm rest g w (D ++ B1 ++ B2 ++ T2) := by simpa using hB
      refine f59_s hone O hcmp hbd _ D B1 B2 T2 _ _ _ w _ (Nat.le_refl _) (by omega) (by omega) (by rw [← hN, ← hp.length_eq]; simp; try omega) rfl (by omega) (by omega) hB' hC s1 s2 pp.1 fun w1 S b1 c1 pS sS => ?_
      have lS : S.length = 2 * bs := by rw [pS.length_eq, List.length_append]; omega
      have lDS : (D ++ S).length = D.length + 2 * bs := by rw [List.length_append, lS]
      have pl2 := pl_app.1 hpl
      have pl3 := pl_app.1 pl2.2
      try simp only [↓reduceIte, ↓LL, LM, Value.cells, Nat.reduceAdd, Option.some.injEq, exists_eq_left', decide_true, decide_false, if_true, if_false, reduceCtorEq, cond_true, cond_false, e2, e3]
      have := ih m (D ++ S) T2 w1 (by omega) (by omega) ?_ (pre_snoc hpre sS lS (pl_perm (pl_app.2 ⟨pl2.1, pl3.1⟩) (List.Perm.refl _) pS)) r2 (app_pl.2 ⟨pl3.2, pl_perm (app_pl.2 ⟨pp.2, p2⟩) pS (List.Perm.refl _)⟩) b1 c1 kk
      · rw [lDS] at this
        exact this
      · refine List.Perm.trans ?_ hp
        rw [List.append_assoc]
        refine List.Perm.append_left D ?_
        rw [← List.append_assoc]
        exact pS.append_right T2
    · have cc : ¬ ((D.length + 2 * bs : Nat) : Int) ≤ (N : Int) := by omega
      try simp only [↓reduceIte, ↓LL, LM, Value.cells, Nat.reduceAdd, Option.some.injEq, exists_eq_left', decide_true, decide_false, if_true, if_false, reduceCtorEq, cond_true, cond_false, cc]
      exact kk w D T hB hC hp hpre hrn hpl (by omega)
theorem f52_all (hone : ∀ x, (hd x).oneCell' = true) (O : Ord le) (hcmp : CmpOf Try.prog V g cf hd le Mm) (hbd : N ≤ 281474976710656) {L0 : List (β × Nat)} (hN : L0.length = N) : ∀ (d m bs : Nat) (T : List (β × Nat)) (w : World), N ≤ bs + d → d < m → 0 < bs → bs ≤ 2 * N + 20 →
    T.Perm L0 → Rn le bs T → BkAt e (fun x => [hd x]) Mm rest g w T → Chg g V w →
    (∀ w' T, BkAt e (fun x => [hd x]) Mm rest g w' T → Chg g V w' → T.Perm L0 → Sd le T → Q (.tuple #[]) w') →
    itr (fun _ _ _ _ => bot) (f52_b3) m (.slice (some ⟨g, 0, none⟩) N c) (.int .i64 (N : Int)) cf (.int .i64 (bs : Int)) w Q := by
  intro d
  induction d with
  | zero =>
    intro m bs T w hdd hm h0 hbs hp hrn hB hC kk
    obtain ⟨m, rfl⟩ : ∃ x, m = x + 1 := ⟨m - 1, by omega⟩
    show f52_b3 _ _ _ _ _ w Q
    unfold f52_b3
    have cc : ¬ (bs : Int) < (N : Int) := by omega
    try simp only [↓reduceIte, ↓LL, LM, Value.cells, Nat.reduceAdd, Option.some.injEq, exists_eq_left', decide_true, decide_false, if_true, if_false, reduceCtorEq, cond_true, cond_false, cc]
    exact kk w T hB hC hp (rn_one hrn (by rw [hp.length_eq]; omega))
  | succ d ih =>
    intro m bs T w hdd hm h0 hbs hp hrn hB hC kk
    obtain ⟨m, rfl⟩ : ∃ x, m = x + 1 := ⟨m - 1, by omega⟩
    show f52_b3 _ _ _ _ _ w Q
    unfold f52_b3
    by_cases hlt : bs < N
    · have cc : (bs : Int) < (N : Int) := by omega
      have e2 : IntKind.i64.wrap ((2 : Int) * (bs : Int)) = ((2 * bs : Nat) : Int) := by rw [w64 (by omega) (by omega)]; omega
      have e5 : ((2 * bs : Nat) : Int) = ((([] : List (β × Nat)).length + 2 * bs : Nat) : Int) := by simp
      have e4 : IntKind.i64.wrap ((bs : Int) * (2 : Int)) = ((2 * bs : Nat) : Int) := by rw [w64 (by omega) (by omega)]; omega
      try simp only [↓reduceIte, ↓LL, LM, Value.cells, Nat.reduceAdd, Option.some.injEq, exists_eq_left', decide_true, decide_false, if_true, if_false, reduceCtorEq, cond_true, cond_false, cc, e2]
      rw [e5]
      refine ⟨_, f52_pass (Q := Q) (j4 := f52_j4 (itr (fun _ _ _ _ => bot) f52_b3 m)) hone O hcmp hbd hN ⟨h0, hlt⟩ (N + 1) (N + 2) [] T w (by simp; omega) (by omega) (by simpa using hp) pre_nil hrn (fun x hx => by cases hx) (by simpa using hB) hC fun w1 D T1 b1 c1 p1 q1 r1 l1 z1 => ?_⟩
      unfold f52_j4
      have hlen := p1.length_eq
      rw [List.length_append] at hlen
      have e1 : IntKind.i64.wrap (((D.length : Nat) : Int) + (bs : Int)) = ((D.length + bs : Nat) : Int) := by rw [w64 (by omega) (by omega)]; rfl
      by_cases hm2 : D.length + bs < N
      · have c2 : ((D.length + bs : Nat) : Int) < (N : Int) := by omega
        try simp only [↓reduceIte, ↓LL, LM, Value.cells, Nat.reduceAdd, Option.some.injEq, exists_eq_left', decide_true, decide_false, if_true, if_false, reduceCtorEq, cond_true, cond_false, e1, c2]
        obtain ⟨B1, T2, rfl, s1, l2, p2, r2⟩ := rn_inv r1 (by omega)
        rw [List.length_append] at hlen z1
        have sT2 := rn_last r2 (by omega)
        have b1' : BkAt e (fun x => [hd x]) Mm rest g w1 (D ++ B1 ++ T2 ++ []) := by simpa using b1
        refine f59_s hone O hcmp hbd _ D B1 T2 [] _ _ _ w1 _ (Nat.le_refl _) (by omega) (by omega) (by rw [← hN, ← p1.length_eq]; simp; try omega) rfl (by omega) (by omega) b1' c1 s1 sT2 p2 fun w2 S b2 c2 pS sS => ?_
        unfold f52_j6
        try simp only [↓reduceIte, ↓LL, LM, Value.cells, Nat.reduceAdd, Option.some.injEq, exists_eq_left', decide_true, decide_false, if_true, if_false, reduceCtorEq, cond_true, cond_false, e4]
        have lS : S.length < 2 * bs := by rw [pS.length_eq, List.length_append]; omega
        refine ih m (2 * bs) (D ++ S) w2 (by omega) (by omega) (by omega) (by omega) ((pS.append_left D).trans p1) (q1 S (.last sS lS) (pl_perm l1 (List.Perm.refl _) pS)) (by simpa using b2) c2 kk
      · have c2 : ¬ ((D.length + bs : Nat) : Int) < (N : Int) := by omega
        try simp only [↓reduceIte, ↓LL, LM, Value.cells, Nat.reduceAdd, Option.some.injEq, exists_eq_left', decide_true, decide_false, if_true, if_false, reduceCtorEq, cond_true, cond_false, e1, c2]
        unfold f52_j6
        try simp only [↓reduceIte, ↓LL, LM, Value.cells, Nat.reduceAdd, Option.some.injEq, exists_eq_left', decide_true, decide_false, if_true, if_false, reduceCtorEq, cond_true, cond_false, e4]
        exact ih m (2 * bs) (D ++ T1) w1 (by omega) (by omega) (by omega) (by omega) p1 (q1 T1 (.last (rn_one r1 (by omega)) z1) l1) b1 c1 kk
    · have cc : ¬ (bs : Int) < (N : Int) := by omega
      try simp only [↓reduceIte, ↓LL, LM, Value.cells, Nat.reduceAdd, Option.some.injEq, exists_eq_left', decide_true, decide_false, if_true, if_false, reduceCtorEq, cond_true, cond_false, cc]
      exact kk w T hB hC hp (rn_one hrn (by rw [hp.length_eq]; omega))
/-- sorted, ties staying -/
theorem f39_s (hone : ∀ x, (hd x).oneCell' = true) (O : Ord le) (hcmp : CmpOf Try.prog V g cf hd le Mm) (hbd : N ≤ 281474976710656) {l : List β} (hN : l.length = N) (hB : BkAt e (fun x => [hd x]) Mm rest g w (num 0 l)) (hC : Chg g V w)
    (kk : ∀ w', BkAt e (fun x => [hd x]) Mm rest g w' (isort le (num 0 l)) → Chg g V w' → Q (.tuple #[]) w') : f39 (.slice (some ⟨g, 0, none⟩) N c) cf w Q := by
  unfold f39 f52
  have hN0 : (num 0 l).length = N := by rw [num_len]; exact hN
  try simp only [↓reduceIte, ↓LL, LM, Value.cells, Nat.reduceAdd, Option.some.injEq, exists_eq_left', decide_true, decide_false, if_true, if_false, reduceCtorEq, cond_true, cond_false]
  refine ⟨_, f52_runs (Q := _) (j1 := f52_j1) hone O hcmp hbd (num_inc l 0) hN0 (N + 1) (N + 2) [] w (by simp; omega) (by omega) (by simp) (by simp) pre_nil (by simpa using hB) hC fun w1 D b1 c1 p1 q1 l1 l2 => ?_⟩
  unfold f52_j1
  try simp only [↓reduceIte, ↓LL, LM, Value.cells, Nat.reduceAdd, Option.some.injEq, exists_eq_left', decide_true, decide_false, if_true, if_false, reduceCtorEq, cond_true, cond_false]
  have hinc2 : ((num 0 l).drop D.length).Pairwise (fun x y => x.2 < y.2) := (num_inc l 0).sublist (List.drop_sublist _ _)
  have hpl : Pl ((num 0 l).take D.length) ((num 0 l).drop D.length) := fun x hx y hy => by
    have h := num_inc l 0
    rw [← List.take_append_drop D.length (num 0 l), List.pairwise_append] at h
    exact h.2.2 x hx y hy
  have b1' : BkAt e (fun x => [hd x]) Mm rest g w1 (D ++ (num 0 l).drop D.length ++ []) := by simpa using b1
  refine f58_s hone O hcmp hbd (R := []) hinc2 (by rw [← hN0]; simp; omega) b1' c1 rfl (by simp; omega) fun w2 S b2 c2 pS sS => ?_
  have lS : S.length = N - D.length := by rw [pS.length_eq, List.length_drop]; omega
  try simp only [↓reduceIte, ↓LL, LM, Value.cells, Nat.reduceAdd, Option.some.injEq, exists_eq_left', decide_true, decide_false, if_true, if_false, reduceCtorEq, cond_true, cond_false]
  refine ⟨_, f52_all hone O hcmp hbd hN0 (N + 1) (N + 2) 20 (D ++ S) w2 (by omega) (by omega) (by omega) (by omega) ?_ (q1 S (.last sS (by omega)) (pl_perm hpl p1 pS)) (by simpa using b2) c2 fun w3 T b3 c3 p3 s3 => ?_⟩
  · have := p1.append pS
    rwa [List.take_append_drop] at this
  · try simp only [↓reduceIte, ↓LL, LM, Value.cells, Nat.reduceAdd, Option.some.injEq, exists_eq_left', decide_true, decide_false, if_true, if_false, reduceCtorEq, cond_true, cond_false]
    rw [sorted_is O p3 s3] at b3
    exact kk w3 b3 c3
/-- nothing to sort -/
theorem f39_nil (kk : Q (.tuple #[]) w) : f39 (.slice none 0 0) cf w Q := by
  unfold f39 f52
  try simp only [↓reduceIte, ↓LL, LM, Value.cells, Nat.reduceAdd, Option.some.injEq, exists_eq_left', decide_true, decide_false, if_true, if_false, reduceCtorEq, cond_true, cond_false]
  refine ⟨1, ?_⟩
  show f52_b2 f52_j1 _ _ _ _ _ _ _ w _
  unfold f52_b2
  have c1 : ¬ ((20 : Int) ≤ ((0 : Nat) : Int)) := by decide
  try simp only [↓reduceIte, ↓LL, LM, Value.cells, Nat.reduceAdd, Option.some.injEq, exists_eq_left', decide_true, decide_false, if_true, if_false, reduceCtorEq, cond_true, cond_false, c1]
  unfold f52_j1 f58
  have e1 : IntKind.i64.wrap ((0 : Int) + 1) = 1 := rfl
  try simp only [↓reduceIte, ↓LL, LM, Value.cells, Nat.reduceAdd, Option.some.injEq, exists_eq_left', decide_true, decide_false, if_true, if_false, reduceCtorEq, cond_true, cond_false, e1]
  refine ⟨1, ?_⟩
  show f58_b1 _ _ _ _ _ _ w _
  unfold f58_b1
  have c2 : ¬ ((1 : Int) < ((0 : Nat) : Int)) := by decide
  try simp only [↓reduceIte, ↓LL, LM, Value.cells, Nat.reduceAdd, Option.some.injEq, exists_eq_left', decide_true, decide_false, if_true, if_false, reduceCtorEq, cond_true, cond_false, c2]
  refine ⟨1, ?_⟩
  show f52_b3 _ _ _ _ _ w _
  unfold f52_b3
  have c3 : ¬ ((20 : Int) < ((0 : Nat) : Int)) := by decide
  try simp only [↓reduceIte, ↓LL, LM, Value.cells, Nat.reduceAdd, Option.some.injEq, exists_eq_left', decide_true, decide_false, if_true, if_false, reduceCtorEq, cond_true, cond_false, c3]
  exact kk
end
end Go.Proofs.Ytlmiimojgledpaa

set_option maxRecDepth 20000
namespace Go.Proofs.Ytlmiimojgledpaa
open Sh RowKit Go.MapKept Srt
abbrev bl := Op.bytesLess
theorem bl_irr : ∀ x : List UInt8, bl x x = false
  | [] => rfl
  | a :: x => by simp [bl, Op.bytesLess, bl_irr x]
theorem bl_trans : ∀ {x y z : List UInt8}, bl x y = true → bl y z = true → bl x z = true
  | _, [], _, h, _ => by simp [bl, Op.bytesLess] at h
  | _, _ :: _, [], _, h => by simp [bl, Op.bytesLess] at h
  | [], _ :: _, _ :: _, _, _ => rfl
  | a :: x, b :: y, c :: z, h, k => by
    simp only [bl, Op.bytesLess, Bool.or_eq_true, decide_eq_true_eq, Bool.and_eq_true, beq_iff_eq] at h k ⊢
    rcases h with h | ⟨rfl, h⟩
    · rcases k with k | ⟨rfl, k⟩
      · exact .inl (UInt8.lt_trans h k)
      · exact .inl h
    · rcases k with k | ⟨rfl, k⟩
      · exact .inl k
      · exact .inr ⟨rfl, bl_trans h k⟩
theorem bl_tri : ∀ x y : List UInt8, bl x y = true ∨ x = y ∨ bl y x = true
  | [], [] => .inr (.inl rfl)
  | [], _ :: _ => .inl rfl
  | _ :: _, [] => .inr (.inr rfl)
  | a :: x, b :: y => by
    simp only [bl, Op.bytesLess, Bool.or_eq_true, decide_eq_true_eq, Bool.and_eq_true, beq_iff_eq, List.cons.injEq]
    rcases Nat.lt_trichotomy a.toNat b.toNat with h | h | h
    · exact .inl (.inl (UInt8.lt_iff_toNat_lt.2 h))
    · have : a = b := UInt8.toNat_inj.1 h
      subst this
      rcases bl_tri x y with h | h | h
      · exact .inl (.inr ⟨rfl, h⟩)
      · exact .inr (.inl ⟨rfl, h⟩)
      · exact .inr (.inr (.inr ⟨rfl, h⟩))
    · exact .inr (.inr (.inl (UInt8.lt_iff_toNat_lt.2 h)))
def ltV (a b : Val) : Prop := a.k < b.k ∨ (a.k = b.k ∧ (a.n < b.n ∨ (a.n = b.n ∧ ltS a.s b.s = true)))
theorem ltV_irr {a : Val} (h : ltV a a) : False := by
  rcases h with h | ⟨_, h | ⟨_, h⟩⟩
  · omega
  · omega
  · have e := bl_irr a.s.toList
    rw [show ltS a.s a.s = bl a.s.toList a.s.toList from rfl, e] at h
    cases h
theorem ltV_trans {a b c : Val} (h : ltV a b) (k : ltV b c) : ltV a c := by
  rcases h with h | ⟨e, h | ⟨e2, h⟩⟩
  · rcases k with k | ⟨f, _⟩
    · exact .inl (by omega)
    · exact .inl (by omega)
  · rcases k with k | ⟨f, k | ⟨f2, _⟩⟩
    · exact .inl (by omega)
    · exact .inr ⟨by omega, .inl (by omega)⟩
    · exact .inr ⟨by omega, .inl (by omega)⟩
  · rcases k with k | ⟨f, k | ⟨f2, k⟩⟩
    · exact .inl (by omega)
    · exact .inr ⟨by omega, .inl (by omega)⟩
    · exact .inr ⟨by omega, .inr ⟨by omega, bl_trans h k⟩⟩
theorem ltV_or {a b : Val} (h : ltV a b) (c : Val) : ltV a c ∨ ltV c b := by
  rcases Int.lt_trichotomy a.k c.k with k1 | k1 | k1
  · exact .inl (.inl k1)
  · rcases h with h | ⟨e, h⟩
    · exact .inr (.inl (by omega))
    · rcases Int.lt_trichotomy a.n c.n with k2 | k2 | k2
      · exact .inl (.inr ⟨k1, .inl k2⟩)
      · rcases h with h | ⟨e2, h⟩
        · exact .inr (.inr ⟨by omega, .inl (by omega)⟩)
        · rcases bl_tri a.s.toList c.s.toList with k3 | k3 | k3
          · exact .inl (.inr ⟨k1, .inr ⟨k2, k3⟩⟩)
          · refine .inr (.inr ⟨by omega, .inr ⟨by omega, ?_⟩⟩)
            show bl c.s.toList b.s.toList = true
            rw [← k3]; exact h
          · exact .inr (.inr ⟨by omega, .inr ⟨by omega, bl_trans k3 h⟩⟩)
      · refine .inr (.inr ⟨by omega, ?_⟩)
        rcases h with h | ⟨e2, h⟩ <;> exact .inl (by omega)
  · right
    rcases h with h | ⟨e, h⟩ <;> exact .inl (by omega)
theorem cmpS_neg {a b : ByteArray} : cmpS a b < 0 ↔ ltS a b = true := by
  unfold cmpS
  split
  · rename_i h; simp [h]
  · rename_i h
    split
    · simp [h]
    · simp [h]
theorem cmpS_pos {a b : ByteArray} : 0 < cmpS a b ↔ ltS b a = true := by
  unfold cmpS
  split
  · rename_i h
    constructor
    · intro h'; omega
    · intro h'
      have := bl_trans (show bl a.toList b.toList = true from h) h'
      rw [bl_irr] at this; cases this
  · rename_i h
    have h : bl a.toList b.toList = false := Bool.eq_false_iff.2 h
    split
    · rename_i g
      refine ⟨fun _ => ?_, fun _ => by omega⟩
      unfold gtS at g
      simp only [Bool.not_eq_true', Bool.or_eq_false_iff, beq_eq_false_iff_ne] at g
      rcases bl_tri a.toList b.toList with k | k | k
      · rw [h] at k; cases k
      · exact absurd k g.2
      · exact k
    · rename_i g
      refine ⟨fun h => by omega, fun k => absurd ?_ g⟩
      unfold gtS
      simp only [Bool.not_eq_true', Bool.or_eq_false_iff, beq_eq_false_iff_ne]
      refine ⟨h, fun e => ?_⟩
      rw [show ltS b a = bl b.toList a.toList from rfl, e, bl_irr] at k; cases k
theorem cmpV_neg {a b : Val} : cmpV a b < 0 ↔ ltV a b := by
  unfold cmpV orI ltV
  by_cases h1 : a.k < b.k
  · simp [cmpI, h1]
  · by_cases h2 : b.k < a.k
    · have : ¬ a.k = b.k := by omega
      simp [cmpI, h1, h2, this]
    · have e : a.k = b.k := by omega
      by_cases h3 : a.n < b.n
      · simp [cmpI, h1, h2, e, h3]
      · by_cases h4 : b.n < a.n
        · have : ¬ a.n = b.n := by omega
          simp [cmpI, h1, h2, e, h3, h4, this]
        · have e2 : a.n = b.n := by omega
          simp [cmpI, e, e2, cmpS_neg]
theorem cmpV_pos {a b : Val} : 0 < cmpV a b ↔ ltV b a := by
  unfold cmpV orI ltV
  by_cases h1 : a.k < b.k
  · have : ¬ b.k < a.k := by omega
    have : ¬ b.k = a.k := by omega
    simp [cmpI, h1, *]
  · by_cases h2 : b.k < a.k
    · simp [cmpI, h1, h2]
    · have e : a.k = b.k := by omega
      by_cases h3 : a.n < b.n
      · have : ¬ b.n < a.n := by omega
        have : ¬ b.n = a.n := by omega
        simp [cmpI, e, h3, *]
      · by_cases h4 : b.n < a.n
        · simp [cmpI, e, h3, h4]
        · have e2 : a.n = b.n := by omega
          simp [cmpI, e, e2, cmpS_pos]
/-- the order of rows by a column -/
def leC (c : Nat) (r s : Row) : Bool := !decide (cmpV (colV c s) (colV c r) < 0)
theorem leC_f {c : Nat} {r s : Row} : leC c r s = false ↔ ltV (colV c s) (colV c r) := by
  unfold leC; simp [cmpV_neg]
theorem leC_t {c : Nat} {r s : Row} : leC c r s = true ↔ ¬ ltV (colV c s) (colV c r) := by
  unfold leC; simp [← cmpV_neg]
theorem ordC (c : Nat) : Ord (leC c) := by
  constructor
  · intro a b
    rw [leC_t, leC_t]
    by_cases h : ltV (colV c b) (colV c a)
    · exact .inr fun k => ltV_irr (ltV_trans h k)
    · exact .inl h
  · intro a b d h k
    rw [leC_t] at h k ⊢
    intro hh
    rcases ltV_or hh (colV c b) with g | g
    · exact k g
    · exact h g
end Go.Proofs.Ytlmiimojgledpaa

set_option maxRecDepth 20000
namespace Go.Proofs.Ytlmiimojgledpaa
open Sh RowKit Go.MapKept Srt
theorem en40 : ∀ args w, (callFunc 40 args).run Try.prog w = .ok (.enter 40 args) w := enters_of Try.func40 (by kernel_rfl) rfl
theorem en38 : ∀ args w, (callFunc 38 args).run Try.prog w = .ok (.enter 38 args) w := enters_of Try.func38 (by kernel_rfl) rfl
theorem fm1 {α β : Type} (f : α → β) : ∀ l : List α, l.flatMap (fun x => [f x]) = l.map f
  | [] => rfl
  | x :: l => by rw [List.flatMap_cons, fm1 f l]; rfl
/-- a row's header and the row -/
abbrev HR := SV × Row
def hdR (x : HR) : Value := slV x.1
theorem hdR_one (x : HR) : (hdR x).oneCell' = true := rfl
def leH (c : Nat) (x y : HR) : Bool := leC c x.2 y.2
theorem ordH (c : Nat) : Ord (leH c) := ⟨fun a b => (ordC c).total a.2 b.2, fun a b d => (ordC c).trans a.2 b.2 d.2⟩
theorem zip_fst {α β : Type} : ∀ (l : List α) (m : List β), l.length = m.length → (l.zip m).map (·.1) = l
  | [], [], _ => rfl
  | a :: l, b :: m, h => by simp only [List.zip_cons_cons, List.map_cons]; rw [zip_fst l m (by simpa using h)]
theorem zip_snd {α β : Type} : ∀ (l : List α) (m : List β), l.length = m.length → (l.zip m).map (·.2) = m
  | [], [], _ => rfl
  | a :: l, b :: m, h => by simp only [List.zip_cons_cons, List.map_cons]; rw [zip_snd l m (by simpa using h)]
section
variable {W w w' : World} {Q : Value → World → Prop}
theorem RowK.hd {v : Value} {r : Row} (h : RowK W w v r) : ∃ x : SV, v = slV x := by
  rcases h with h | h
  · exact slV_of h
  · exact slV_of (ownR_rd h)
theorem heads {xs : List Value} {l : List Row} (hl : xs.length = l.length) (h : ∀ (i : Nat) (x : Value) (r : Row), xs[i]? = some x → l[i]? = some r → RowK W w x r) : ∃ sl : List SV, xs = sl.map slV := by
  induction xs generalizing l with
  | nil => exact ⟨[], rfl⟩
  | cons x xs ih =>
    cases l with
    | nil => simp at hl
    | cons r l =>
      obtain ⟨s, hs⟩ := (h 0 x r rfl rfl).hd
      obtain ⟨sl, hsl⟩ := ih (l := l) (by simpa using hl) (fun i y q h1 h2 => h (i + 1) y q h1 h2)
      exact ⟨s :: sl, by rw [hs, hsl]; rfl⟩
theorem cmp40 {V : World} {g b0 : Nat} {c : Int} (hb : ∀ w, Chg g V w → w.cell? ⟨b0, 0, none⟩ = some (.int .i64 c)) :
    CmpOf Try.prog V g (.func (.func 40) #[] #[.pointer (some ⟨b0, 0, none⟩)]) hdR (leH c.toNat) (fun x => (∀ w, Chg g V w → rdR w (slV x.1) x.2) ∧ 0 ≤ c ∧ c < x.2.length) := by
  intro x y w K Q hC hx hy kk
  refine cf_p en40 ?_
  refine s40 (hdR x) (hdR y) (.pointer (some ⟨b0, 0, none⟩)) w _ ?_
  unfold f40
  have hCd := hC.drw
  have q := hb _ hCd
  obtain ⟨ad, hcx, hia⟩ := val_col (hx.1 _ hCd) hx.2
  obtain ⟨ae, hcy, hie⟩ := val_col (hy.1 _ hCd) hy.2
  have okx := okc (c := c.toNat) (hx.1 _ hCd) (by have := hx.2; omega)
  have oky := okc (c := c.toNat) (hy.1 _ hCd) (by have := hy.2; omega)
  unfold hdR
  try simp only [↓reduceIte, ↓LL, LM, Value.cells, Nat.reduceAdd, Option.some.injEq, exists_eq_left', decide_true, decide_false, if_true, if_false, reduceCtorEq, cond_true, cond_false, q, hia]
  refine ldn_at (hcx _ (Below.refl _ _)) rfl ?_
  try simp only [↓reduceIte, ↓LL, LM, Value.cells, Nat.reduceAdd, Option.some.injEq, exists_eq_left', decide_true, decide_false, if_true, if_false, reduceCtorEq, cond_true, cond_false, q, hie]
  refine ldn_at (hcy _ (Below.refl _ _)) rfl ?_
  try simp only [↓reduceIte, ↓LL, LM, Value.cells, Nat.reduceAdd, Option.some.injEq, exists_eq_left', decide_true, decide_false, if_true, if_false, reduceCtorEq, cond_true, cond_false]
  refine f35_s okx oky fun w1 b1 => ?_
  try simp only [↓reduceIte, ↓LL, LM, Value.cells, Nat.reduceAdd, Option.some.injEq, exists_eq_left', decide_true, decide_false, if_true, if_false, reduceCtorEq, cond_true, cond_false]
  refine kk w1 _ (of_drw b1) ?_
  unfold leH
  rw [leC_f, cmpV_neg]
theorem f39_OL {u : Value} {l : List Row} {b0 : Nat} {c : Int} (ho : OL W w u l) (hWw : Below W.heap.size W w) (hc : ∀ r ∈ l, 0 ≤ c ∧ c < r.length) (hb : w.heap[b0]? = some (.cells #[.int .i64 c] 3 (0, 0))) (hl : l.length ≤ 1000000)
    (kk : ∀ w', Below W.heap.size W w' → OL W w' u (srt (leC c.toNat) l) → Q (.tuple #[]) w') : f39 u (.func (.func 40) #[] #[.pointer (some ⟨b0, 0, none⟩)]) w Q := by
  obtain ⟨xs, hv, hlen, hr⟩ := ho
  obtain ⟨sl, rfl⟩ := heads hlen hr
  rw [List.length_map] at hlen
  rcases ownV_cases hv with ⟨rfl, hx0⟩ | ⟨g, cap, cur, rfl, hg, hblk, hn, hm, hs, ht⟩
  · have : sl = [] := by simpa using hx0
    subst this
    have : l = [] := List.length_eq_zero_iff.1 hlen.symm
    subst this
    refine f39_nil ?_
    exact kk w hWw OL_nil
  · have hb0 : b0 ≠ g := by rintro rfl; rw [hb] at hblk; simp at hblk
    -- a row stays whatever is done to the block of heads
    have stays : ∀ (i : Nat) (x : SV) (r : Row), sl[i]? = some x → l[i]? = some r → ∀ w2, Chg g w w2 → RowK W w2 (slV x) r := by
      intro i x r h1 h2 w2 hC
      refine (hr i (slV x) r (by rw [List.getElem?_map, h1]; rfl) h2).keep ⟨hC.below hg hWw.size, fun k cur2 hk => hC.keep hk ?_⟩
      rintro rfl
      rw [hk] at hblk; simp at hblk
    have hcell : ∀ w2, Chg g w w2 → w2.cell? ⟨b0, 0, none⟩ = some (.int .i64 c) := fun w2 hC => by rw [cell_of_blk (hC.keep hb hb0)]; rfl
    have bel : ∀ w2, Chg g w w2 → Below W.heap.size W w2 := fun w2 hC => hWw.trans (hC.below hg hWw.size)
    have hzl : (sl.zip l).length = sl.length := by rw [List.length_zip]; omega
    have hB : BkAt 33 (fun x : HR => [hdR x]) (fun x => (∀ w2, Chg g w w2 → RowK W w2 (slV x.1) x.2) ∧ 0 ≤ c ∧ c < x.2.length) (cur.toList.drop sl.length) g w (num 0 (sl.zip l)) := by
      refine ⟨?_, fun x hx => ?_⟩
      · rw [hblk]
        congr 2
        apply Array.toList_inj.1
        have e1 : (num 0 (sl.zip l)).flatMap (fun x => [hdR x.1]) = sl.map slV := by
          have : (num 0 (sl.zip l)).flatMap (fun x => [hdR x.1]) = (((num 0 (sl.zip l)).map (·.1)).map (·.1)).map slV := by
            rw [List.map_map, List.map_map, fm1]; rfl
          rw [this, num_fst, zip_fst _ _ hlen]
        show cur.toList = ((num 0 (sl.zip l)).flatMap (fun x => [hdR x.1])) ++ cur.toList.drop sl.length
        rw [e1]
        rw [List.length_map] at ht
        conv => lhs; rw [← List.take_append_drop sl.length cur.toList, ht]
      · have hm : x.1 ∈ sl.zip l := by
          have : x.1 ∈ (num 0 (sl.zip l)).map (·.1) := List.mem_map.2 ⟨x, hx, rfl⟩
          rwa [num_fst] at this
        obtain ⟨i, hi, e⟩ := List.mem_iff_getElem.1 hm
        rw [List.getElem_zip] at e
        have hi1 : i < sl.length := by omega
        have hi2 : i < l.length := by omega
        have e1 : sl[i] = x.1.1 := (Prod.mk.inj e).1
        have e2 : l[i] = x.1.2 := (Prod.mk.inj e).2
        refine ⟨fun w2 hC => ?_, ?_⟩
        · exact stays i x.1.1 x.1.2 (by rw [List.getElem?_eq_getElem hi1, e1]) (by rw [List.getElem?_eq_getElem hi2, e2]) w2 hC
        · rw [← e2]; exact hc _ (List.getElem_mem hi2)
    have hcmp : CmpOf Try.prog w g (.func (.func 40) #[] #[.pointer (some ⟨b0, 0, none⟩)]) hdR (leH c.toNat) (fun x => (∀ w2, Chg g w w2 → RowK W w2 (slV x.1) x.2) ∧ 0 ≤ c ∧ c < x.2.length) := by
      intro x y w1 K Q hC hx hy k
      exact cmp40 hcell x y w1 K Q hC ⟨fun w2 hC2 => (hx.1 w2 hC2).rd (bel w2 hC2), hx.2⟩ ⟨fun w2 hC2 => (hy.1 w2 hC2).rd (bel w2 hC2), hy.2⟩ k
    rw [List.length_map]
    refine f39_s hdR_one (ordH c.toNat) hcmp (by omega) hzl hB (Chg.refl g w) fun w2 b2 c2 => ?_
    refine kk w2 (bel w2 c2) ?_
    -- the list anew
    obtain ⟨m, hm0⟩ : ∃ m, m = srt (leH c.toNat) (sl.zip l) := ⟨_, rfl⟩
    have ml : m.length = sl.length := by rw [hm0, srt_len, hzl]
    have m2 : m.map (·.2) = srt (leC c.toNat) l := by
      rw [hm0, srt_map (le := leC c.toNat) (le' := leH c.toNat) (f := fun x : HR => x.2) (fun _ _ => rfl), zip_snd _ _ hlen]
    have hfl : (isort (leH c.toNat) (num 0 (sl.zip l))).flatMap (fun x => [hdR x.1]) = (m.map (·.1)).map slV := by
      rw [hm0]; unfold srt
      rw [List.map_map, List.map_map, fm1]; rfl
    have hblk2 := b2.blk
    rw [hfl] at hblk2
    refine ⟨(m.map (·.1)).map slV, ?_, by rw [List.length_map, List.length_map, ml, ← srt_len (le := leC c.toNat) l] at *; rw [srt_len, hlen, srt_len], fun i x r h1 h2 => ?_⟩
    · have : (sl.map slV).length = ((m.map (·.1)).map slV).length := by simp [ml]
      rw [this]
      refine ownV_mk hg hblk2 (by rw [← this]; exact hn) hm ?_ ?_
      · rw [List.length_map] at hn
        have hs' : cur.toList.length = cap := by simpa using hs
        simp only [List.size_toArray, List.length_append, List.length_map, List.length_drop, hs', ml]; omega
      · simp only [List.take_left']
    · rw [← m2] at h2
      rw [List.getElem?_map, List.getElem?_map] at h1
      rw [List.getElem?_map] at h2
      cases hmi : m[i]? with
      | none => rw [hmi] at h1; cases h1
      | some p =>
        rw [hmi] at h1 h2
        cases h1; cases h2
        have hp : p ∈ m := List.mem_of_getElem? hmi
        have hq : ∃ q ∈ isort (leH c.toNat) (num 0 (sl.zip l)), q.1 = p := by
          rw [hm0] at hp
          obtain ⟨q, hq, e⟩ := List.mem_map.1 hp
          exact ⟨q, hq, e⟩
        obtain ⟨q, hq, rfl⟩ := hq
        exact (b2.mem q hq).1 w2 c2
end
end Go.Proofs.Ytlmiimojgledpaa

set_option maxRecDepth 20000
namespace Go.Proofs.Ytlmiimojgledpaa
open Sh RowKit Go.MapKept Srt
theorem bl_drop : ∀ (i : Nat) (x y : List UInt8), x.take i = y.take i → bl x y = bl (x.drop i) (y.drop i)
  | 0, _, _, _ => by simp
  | i + 1, [], [], _ => by simp
  | i + 1, [], b :: y, h => by simp at h
  | i + 1, a :: x, [], h => by simp at h
  | i + 1, a :: x, b :: y, h => by
    simp only [List.take_succ_cons, List.cons.injEq] at h
    obtain ⟨rfl, h⟩ := h
    rw [List.drop_succ_cons, List.drop_succ_cons, ← bl_drop i x y h]
    have : ¬ a < a := UInt8.lt_irrefl a
    simp [bl, Op.bytesLess]
theorem bl_ne {a b : UInt8} {x y : List UInt8} (h : a ≠ b) : bl (a :: x) (b :: y) = decide (a < b) := by
  simp [bl, Op.bytesLess, h]
section
variable {W w w' : World} {Q : Value → World → Prop}
theorem f20_s {v : Value} {l : List Row} {c : Int} (h : rdL w v l) (hl : l.length ≤ 100000) (hsz : ∀ r ∈ l, r.length * 32 ≤ 140737488355328)
    (k7 : l.any (lacksB c) = true → ∀ w', Below w.heap.size w w' → Q (.tuple #[.slice none 0 0, .int .i64 7]) w')
    (k0 : l.any (lacksB c) = false → ∀ w' u, Below w.heap.size w w' → rdL w' u (srt (leC c.toNat) l) → Q (.tuple #[u, .int .i64 0]) w') : f20 v (.int .i64 c) w Q := by
  unfold f20
  have b1 := b_psh w (.cells (Value.int .i64 c).cells 3)
  have blk1 := blk_psh_new (w := w) (o := .cells (Value.int .i64 c).cells 3)
  rw [bx_e]
  generalize psh w (.cells (Value.int .i64 c).cells 3) = w1 at *
  have q1 : w1.cell? ⟨w.heap.size, 0, none⟩ = some (.int .i64 c) := by rw [cell_of_blk blk1]; rfl
  try simp only [↓reduceIte, ↓LL, LM, Value.cells, Nat.reduceAdd, Option.some.injEq, exists_eq_left', decide_true, decide_false, if_true, if_false, reduceCtorEq, cond_true, cond_false, q1]
  refine f26_s (rdL_b b1 h) (by omega) c fun w4 b4 => ?_
  have b04 := bt b1 b4
  have blk1 := stay b4 blk1
  by_cases hany : l.any (lacksB c) = true
  · try simp only [↓reduceIte, ↓LL, LM, Value.cells, Nat.reduceAdd, Option.some.injEq, exists_eq_left', decide_true, decide_false, if_true, if_false, reduceCtorEq, cond_true, cond_false, hany]
    exact k7 hany w4 b04
  · have hanf : l.any (lacksB c) = false := Bool.eq_false_iff.2 hany
    have hno := not_lacks hanf
    try simp only [↓reduceIte, ↓LL, LM, Value.cells, Nat.reduceAdd, Option.some.injEq, exists_eq_left', decide_true, decide_false, if_true, if_false, reduceCtorEq, cond_true, cond_false, hanf]
    refine f32_s (rdL_b b04 h) (pr := fun _ => true) ?_ hl hsz fun w5 u b5 o5 => ?_
    · intro rv r w6 K Q b6 hr hz k
      refine cf_p en38 ?_
      refine s38 rv w6 _ ?_
      unfold f38
      try simp only [↓reduceIte, ↓LL, LM, Value.cells, Nat.reduceAdd, Option.some.injEq, exists_eq_left', decide_true, decide_false, if_true, if_false, reduceCtorEq, cond_true, cond_false]
      exact k w6 (Below.refl _ _)
    · have e : l.filter (fun _ => true) = l := List.filter_eq_self.2 (fun _ _ => rfl)
      rw [e] at o5
      have blk5 := stay b5 blk1
      try simp only [↓reduceIte, ↓LL, LM, Value.cells, Nat.reduceAdd, Option.some.injEq, exists_eq_left', decide_true, decide_false, if_true, if_false, reduceCtorEq, cond_true, cond_false]
      refine f39_OL o5 b5 hno blk5 (by omega) fun w6 b6 o6 => ?_
      try simp only [↓reduceIte, ↓LL, LM, Value.cells, Nat.reduceAdd, Option.some.injEq, exists_eq_left', decide_true, decide_false, if_true, if_false, reduceCtorEq, cond_true, cond_false]
      exact k0 hanf w6 u (bt b04 b6) (o6.rd b6)
theorem nei_e8 {a b : Int} {K : Value → M} : nei .u8 (.int .u8 a) (.int .u8 b) K w Q = K (.bool (decide (a ≠ b))) w Q := by rw [nei_e]
/-- texts compared, byte by byte -/
theorem f62_loop {s t : ByteArray} (hs : s.size ≤ maxLen) (ht : t.size ≤ maxLen) : ∀ (d m i : Nat) (w : World), i + d = s.size → d < m → i ≤ t.size → s.data.toList.take i = t.data.toList.take i →
    (∀ w', Below w.heap.size w w' → Q (.bool (ltS s t)) w') →
    itr (fun _ _ _ => bot) (f62_b2 f62_j1) m (.string s) (.string t) (.int .i64 (i : Int)) w Q := by
  have hd : ∀ x : ByteArray, x.data.toList.length = x.size := fun x => Array.length_toList
  have e : ltS s t = bl s.data.toList t.data.toList := by unfold ltS; rw [ByteArray.toList_eq, ByteArray.toList_eq]
  have key : ∀ i, s.data.toList.take i = t.data.toList.take i → i ≤ s.size → i ≤ t.size → (i = s.size ∨ i = t.size) → ltS s t = decide ((s.size : Int) < (t.size : Nat)) := by
    intro i h h1 h2 h3
    rw [e, bl_drop i _ _ h]
    rcases Nat.lt_or_ge i t.size with c1 | c1
    · have hi : i = s.size := h3.resolve_right (by omega)
      rw [List.drop_of_length_le (by rw [hd]; omega), List.drop_eq_getElem_cons (by rw [hd]; exact c1), decide_eq_true (by omega)]
      rfl
    · rw [List.drop_of_length_le (l := t.data.toList) (by rw [hd]; omega), decide_eq_false (by omega)]
      cases s.data.toList.drop i <;> rfl
  intro d
  induction d with
  | zero =>
    intro m i w hi hm hit he kk
    obtain ⟨m, rfl⟩ : ∃ x, m = x + 1 := ⟨m - 1, by omega⟩
    show f62_b2 f62_j1 _ _ _ _ w Q
    unfold f62_b2
    have c : ¬ (i : Int) < (s.size : Nat) := by omega
    try simp only [↓reduceIte, ↓LL, LM, Value.cells, Nat.reduceAdd, Option.some.injEq, exists_eq_left', decide_true, decide_false, if_true, if_false, reduceCtorEq, cond_true, cond_false, c]
    unfold f62_j1
    try simp only [↓reduceIte, ↓LL, LM, Value.cells, Nat.reduceAdd, Option.some.injEq, exists_eq_left', decide_true, decide_false, if_true, if_false, reduceCtorEq, cond_true, cond_false]
    have := kk w (Below.refl _ _)
    rw [key i he (by omega) hit (.inl (by omega))] at this
    exact this
  | succ d ih =>
    intro m i w hi hm hit he kk
    obtain ⟨m, rfl⟩ : ∃ x, m = x + 1 := ⟨m - 1, by omega⟩
    show f62_b2 f62_j1 _ _ _ _ w Q
    unfold f62_b2
    have c : (i : Int) < (s.size : Nat) := by omega
    by_cases c2 : i < t.size
    · have c2' : (i : Int) < (t.size : Nat) := by omega
      have hs1 : i < s.data.toList.length := by rw [hd]; omega
      have ht1 : i < t.data.toList.length := by rw [hd]; omega
      have gs : s[i]? = some s.data.toList[i] := by rw [getElem?_pos s i (by omega)]; rfl
      have gt : t[i]? = some t.data.toList[i] := by rw [getElem?_pos t i (by omega)]; rfl
      have ix : ∀ (x : ByteArray) (b : UInt8) (K : Value → M) (w : World) (Q : Value → World → Prop), x[i]? = some b → K (.int .u8 (b.toNat : Int)) w Q → ixs (.string x) (.int .i64 (i : Int)) K w Q := fun x b K w Q hx k => ⟨x, _, _, b, rfl, rfl, by omega, by simpa using hx, k⟩
      have h3 : IntKind.i64.wrap ((i : Int) + 1) = ((i + 1 : Nat) : Int) := by rw [w64 (by omega) (by unfold maxLen at *; omega)]; rfl
      have hdr : ltS s t = bl (s.data.toList[i] :: s.data.toList.drop (i + 1)) (t.data.toList[i] :: t.data.toList.drop (i + 1)) := by
        rw [e, bl_drop i _ _ he, List.drop_eq_getElem_cons hs1, List.drop_eq_getElem_cons ht1]
      have htk : s.data.toList[i] = t.data.toList[i] → s.data.toList.take (i + 1) = t.data.toList.take (i + 1) := fun h => by
        rw [List.take_succ_eq_append_getElem hs1, List.take_succ_eq_append_getElem ht1, he, h]
      generalize s.data.toList[i] = a at *
      generalize t.data.toList[i] = b at *
      try simp only [↓reduceIte, ↓LL, LM, Value.cells, Nat.reduceAdd, Option.some.injEq, exists_eq_left', decide_true, decide_false, if_true, if_false, reduceCtorEq, cond_true, cond_false, c, c2']
      refine ix _ _ _ _ _ gs ?_
      try simp only [↓reduceIte, ↓LL, LM, Value.cells, Nat.reduceAdd, Option.some.injEq, exists_eq_left', decide_true, decide_false, if_true, if_false, reduceCtorEq, cond_true, cond_false]
      refine ix _ _ _ _ _ gt ?_
      have bd : Below w.heap.size w (drw w) := ⟨rfl, rfl, rfl, Nat.le_refl _, fun _ _ => rfl⟩
      by_cases hab : a = b
      · have hab' : ((a.toNat : Nat) : Int) = (b.toNat : Nat) := by rw [hab]
        try simp only [↓reduceIte, ↓LL, LM, Value.cells, Nat.reduceAdd, Option.some.injEq, exists_eq_left', decide_true, decide_false, if_true, if_false, reduceCtorEq, cond_true, cond_false, hab', ne_eq, h3]
        exact ih m (i + 1) (drw w) (by omega) (by omega) (by omega) (htk hab) (fun w' hb => kk w' (bd.trans hb))
      · have hab' : ¬ ((a.toNat : Nat) : Int) = (b.toNat : Nat) := fun h => hab (UInt8.toNat_inj.1 (by omega))
        have bd2 : Below w.heap.size w (drw (drw w)) := bd.trans ⟨rfl, rfl, rfl, Nat.le_refl _, fun _ _ => rfl⟩
        try simp only [↓reduceIte, ↓LL, LM, Value.cells, Nat.reduceAdd, Option.some.injEq, exists_eq_left', decide_true, decide_false, if_true, if_false, reduceCtorEq, cond_true, cond_false, hab', ne_eq]
        refine ix _ _ _ _ _ gs ?_
        try simp only [↓reduceIte, ↓LL, LM, Value.cells, Nat.reduceAdd, Option.some.injEq, exists_eq_left', decide_true, decide_false, if_true, if_false, reduceCtorEq, cond_true, cond_false]
        refine ix _ _ _ _ _ gt ?_
        try simp only [↓reduceIte, ↓LL, LM, Value.cells, Nat.reduceAdd, Option.some.injEq, exists_eq_left', decide_true, decide_false, if_true, if_false, reduceCtorEq, cond_true, cond_false]
        have k := kk _ bd2
        rw [hdr, bl_ne hab] at k
        have e2 : decide (((a.toNat : Nat) : Int) < (b.toNat : Nat)) = decide (a < b) := by
          rw [Bool.eq_iff_iff, decide_eq_true_iff, decide_eq_true_iff, UInt8.lt_iff_toNat_lt]; omega
        rw [e2]
        exact k
    · have c2' : ¬ (i : Int) < (t.size : Nat) := by omega
      try simp only [↓reduceIte, ↓LL, LM, Value.cells, Nat.reduceAdd, Option.some.injEq, exists_eq_left', decide_true, decide_false, if_true, if_false, reduceCtorEq, cond_true, cond_false, c, c2']
      unfold f62_j1
      try simp only [↓reduceIte, ↓LL, LM, Value.cells, Nat.reduceAdd, Option.some.injEq, exists_eq_left', decide_true, decide_false, if_true, if_false, reduceCtorEq, cond_true, cond_false]
      have := kk w (Below.refl _ _)
      rw [key i he (by omega) hit (.inr (by omega))] at this
      exact this
theorem f62_s {s t : ByteArray} (hs : s.size ≤ maxLen) (ht : t.size ≤ maxLen) (kk : ∀ w', Below w.heap.size w w' → Q (.bool (ltS s t)) w') : f62 (.string s) (.string t) w Q := by
  unfold f62
  try simp only [↓reduceIte, ↓LL, LM, Value.cells, Nat.reduceAdd, Option.some.injEq, exists_eq_left', decide_true, decide_false, if_true, if_false, reduceCtorEq, cond_true, cond_false]
  exact ⟨_, f62_loop hs ht s.size (s.size + 1) 0 w (by omega) (by omega) (Nat.zero_le _) (by simp) kk⟩
instance (a b : Val) : Decidable (ltV a b) := by unfold ltV; infer_instance
/-- one ahead of the other -/
theorem f60_s {a b : Val} (ha : okV a) (hb : okV b) (kk : ∀ w', Below w.heap.size w w' → Q (.bool (decide (ltV a b))) w') : f60 (.agg (encV a).toArray) (.agg (encV b).toArray) w Q := by
  unfold f60
  have b1 := b_psh w (.cells (Value.agg (encV a).toArray).cells 31)
  have blk1 := blk_psh_new (w := w) (o := .cells (Value.agg (encV a).toArray).cells 31)
  rw [bx_e]
  generalize psh w (.cells (Value.agg (encV a).toArray).cells 31) = w1 at *
  have b2 := b_psh w1 (.cells (Value.agg (encV b).toArray).cells 31)
  have blk2 := blk_psh_new (w := w1) (o := .cells (Value.agg (encV b).toArray).cells 31)
  rw [bx_e]
  have blk1 := stay b2 blk1
  generalize psh w1 (.cells (Value.agg (encV b).toArray).cells 31) = w2 at *
  have b12 := bt b1 b2
  have a0 : w2.cell? ⟨w.heap.size, 0, none⟩ = some (.int .i64 a.k) := by rw [cell_of_blk blk1]; rfl
  have a1 : w2.cell? ⟨w.heap.size, 1, none⟩ = some (.int .i64 a.n) := by rw [cell_of_blk blk1]; rfl
  have a2 : w2.cell? ⟨w.heap.size, 2, none⟩ = some (.string a.s) := by rw [cell_of_blk blk1]; rfl
  have c0 : w2.cell? ⟨w1.heap.size, 0, none⟩ = some (.int .i64 b.k) := by rw [cell_of_blk blk2]; rfl
  have c1 : w2.cell? ⟨w1.heap.size, 1, none⟩ = some (.int .i64 b.n) := by rw [cell_of_blk blk2]; rfl
  have c2 : w2.cell? ⟨w1.heap.size, 2, none⟩ = some (.string b.s) := by rw [cell_of_blk blk2]; rfl
  have k := fun w' hb => kk w' (bt b12 hb)
  by_cases h1 : a.k = b.k
  · by_cases h2 : a.n = b.n
    · have e : decide (ltV a b) = ltS a.s b.s := by
        rw [Bool.eq_iff_iff, decide_eq_true_iff]; unfold ltV
        simp [h1, h2]
      rw [e] at k
      try simp only [↓reduceIte, ↓LL, LM, Value.cells, Nat.reduceAdd, Option.some.injEq, exists_eq_left', decide_true, decide_false, if_true, if_false, reduceCtorEq, cond_true, cond_false, a0, a1, a2, c0, c1, c2, h1, h2, ne_eq]
      refine f62_s ha.2.2 hb.2.2 fun w3 b3 => ?_
      try simp only [↓reduceIte, ↓LL, LM, Value.cells, Nat.reduceAdd, Option.some.injEq, exists_eq_left', decide_true, decide_false, if_true, if_false, reduceCtorEq, cond_true, cond_false]
      exact k w3 b3
    · have e : decide (ltV a b) = decide (a.n < b.n) := by
        rw [Bool.eq_iff_iff, decide_eq_true_iff, decide_eq_true_iff]; unfold ltV
        simp [h1, h2]
      rw [e] at k
      try simp only [↓reduceIte, ↓LL, LM, Value.cells, Nat.reduceAdd, Option.some.injEq, exists_eq_left', decide_true, decide_false, if_true, if_false, reduceCtorEq, cond_true, cond_false, a0, a1, a2, c0, c1, c2, h1, h2, ne_eq]
      exact k w2 (Below.refl _ _)
  · have e : decide (ltV a b) = decide (a.k < b.k) := by
      rw [Bool.eq_iff_iff, decide_eq_true_iff, decide_eq_true_iff]; unfold ltV
      simp [h1]
    rw [e] at k
    try simp only [↓reduceIte, ↓LL, LM, Value.cells, Nat.reduceAdd, Option.some.injEq, exists_eq_left', decide_true, decide_false, if_true, if_false, reduceCtorEq, cond_true, cond_false, a0, a1, a2, c0, c1, c2, h1, ne_eq]
    exact k w2 (Below.refl _ _)
/-- the document's order of lists of one value -/
theorem f53_s {x y : Value} {a b : Val} (hx : rdR w x [a]) (hy : rdR w y [b]) (kk : ∀ w', Below w.heap.size w w' → Q (.int .i64 (if ltV a b then -1 else if ltV b a then 1 else 0)) w') : f53 x y w Q := by
  unfold f53
  obtain ⟨ax, hoka, hcx, hax⟩ := val_at hx (i := 0) (by simp)
  obtain ⟨ay, hokb, hcy, hay⟩ := val_at hy (i := 0) (by simp)
  have ia1 : ∀ (K : Value → M) (w' : World) (Q : Value → World → Prop), ia 3 x (.int .i64 0) K w' Q = K (.pointer (some ax)) w' Q := fun K w' Q => hax .i64 K w' Q
  have ia2 : ∀ (K : Value → M) (w' : World) (Q : Value → World → Prop), ia 3 y (.int .i64 0) K w' Q = K (.pointer (some ay)) w' Q := fun K w' Q => hay .i64 K w' Q
  have l1 : (([a] : Row).length : Int) = 1 := rfl
  have l2 : (([b] : Row).length : Int) = 1 := rfl
  have e1 : IntKind.i64.wrap ((0 : Int) + 1) = 1 := rfl
  have h01 : (0 : Int) < 1 := by decide
  have bd : Below w.heap.size w (drw w) := ⟨rfl, rfl, rfl, Nat.le_refl _, fun _ _ => rfl⟩
  try simp only [↓reduceIte, ↓LL, LM, Value.cells, Nat.reduceAdd, Option.some.injEq, exists_eq_left', decide_true, decide_false, if_true, if_false, reduceCtorEq, cond_true, cond_false]
  refine ⟨2, ?_⟩
  show f53_b2 f53_j1 (itr (fun _ _ _ => bot) (f53_b2 f53_j1) 1) x y (.int .i64 0) w _
  unfold f53_b2
  try simp only [↓reduceIte, ↓LL, LM, Value.cells, Nat.reduceAdd, Option.some.injEq, exists_eq_left', decide_true, decide_false, if_true, if_false, reduceCtorEq, cond_true, cond_false, lnl_R hx, lnl_R hy, l1, l2, h01, ia1]
  refine ldn_at (hcx _ bd) rfl ?_
  try simp only [↓reduceIte, ↓LL, LM, Value.cells, Nat.reduceAdd, Option.some.injEq, exists_eq_left', decide_true, decide_false, if_true, if_false, reduceCtorEq, cond_true, cond_false, ia2]
  refine ldn_at (hcy _ bd) rfl ?_
  try simp only [↓reduceIte, ↓LL, LM, Value.cells, Nat.reduceAdd, Option.some.injEq, exists_eq_left', decide_true, decide_false, if_true, if_false, reduceCtorEq, cond_true, cond_false]
  refine f60_s hoka hokb fun w1 b1 => ?_
  have b1 := bt bd b1
  try simp only [List.getElem_cons_zero]
  by_cases h1 : ltV a b
  · try simp only [↓reduceIte, ↓LL, LM, Value.cells, Nat.reduceAdd, Option.some.injEq, exists_eq_left', decide_true, decide_false, if_true, if_false, reduceCtorEq, cond_true, cond_false, h1]
    have := kk w1 b1
    rw [if_pos h1] at this
    exact this
  · have k := kk
    simp only [if_neg h1] at k
    have bd1 : Below w.heap.size w (drw w1) := b1.trans ⟨rfl, rfl, rfl, Nat.le_refl _, fun _ _ => rfl⟩
    try simp only [↓reduceIte, ↓LL, LM, Value.cells, Nat.reduceAdd, Option.some.injEq, exists_eq_left', decide_true, decide_false, if_true, if_false, reduceCtorEq, cond_true, cond_false, h1, ia2]
    refine ldn_at (hcy _ bd1) rfl ?_
    try simp only [↓reduceIte, ↓LL, LM, Value.cells, Nat.reduceAdd, Option.some.injEq, exists_eq_left', decide_true, decide_false, if_true, if_false, reduceCtorEq, cond_true, cond_false, ia1]
    refine ldn_at (hcx _ bd1) rfl ?_
    try simp only [↓reduceIte, ↓LL, LM, Value.cells, Nat.reduceAdd, Option.some.injEq, exists_eq_left', decide_true, decide_false, if_true, if_false, reduceCtorEq, cond_true, cond_false]
    refine f60_s hokb hoka fun w2 b2 => ?_
    have b2 := bt bd1 b2
    try simp only [List.getElem_cons_zero]
    by_cases h2 : ltV b a
    · try simp only [↓reduceIte, ↓LL, LM, Value.cells, Nat.reduceAdd, Option.some.injEq, exists_eq_left', decide_true, decide_false, if_true, if_false, reduceCtorEq, cond_true, cond_false, h2]
      have := k w2 b2
      rw [if_pos h2] at this
      exact this
    · simp only [if_neg h2] at k
      try simp only [↓reduceIte, ↓LL, LM, Value.cells, Nat.reduceAdd, Option.some.injEq, exists_eq_left', decide_true, decide_false, if_true, if_false, reduceCtorEq, cond_true, cond_false, h2, e1]
      show f53_b2 f53_j1 (itr (fun _ _ _ => bot) (f53_b2 f53_j1) 0) x y (.int .i64 1) w2 _
      unfold f53_b2
      try simp only [↓reduceIte, ↓LL, LM, Value.cells, Nat.reduceAdd, Option.some.injEq, exists_eq_left', decide_true, decide_false, if_true, if_false, reduceCtorEq, cond_true, cond_false, lnl_R hx, lnl_R hy, l1, l2, Int.lt_irrefl]
      unfold f53_j1
      try simp only [↓reduceIte, ↓LL, LM, Value.cells, Nat.reduceAdd, Option.some.injEq, exists_eq_left', decide_true, decide_false, if_true, if_false, reduceCtorEq, cond_true, cond_false, lnl_R hx, lnl_R hy, l1, l2, Int.lt_irrefl]
      exact k w2 b2
theorem f41_s {a b : Val} (ha : okV a) (hb : okV b) (kk : ∀ w', Below w.heap.size w w' → Q (.bool (decide (ltV a b))) w') : f41 (.agg (encV a).toArray) (.agg (encV b).toArray) w Q := by
  unfold f41
  have b1 := b_psh w (.cells (Value.agg (encV a).toArray).cells 31)
  have blk1 := blk_psh_new (w := w) (o := .cells (Value.agg (encV a).toArray).cells 31)
  rw [bx_e]
  generalize psh w (.cells (Value.agg (encV a).toArray).cells 31) = w1 at *
  have b2 := b_psh w1 (.cells (Value.agg (encV b).toArray).cells 31)
  have blk2 := blk_psh_new (w := w1) (o := .cells (Value.agg (encV b).toArray).cells 31)
  rw [bx_e]
  have blk1 := stay b2 blk1
  generalize psh w1 (.cells (Value.agg (encV b).toArray).cells 31) = w2 at *
  have b12 := bt b1 b2
  refine ldn_box blk1 rfl ?_
  refine lit32_s ha fun w3 x hx b3 => ?_
  refine ldn_box (stay b3 blk2) rfl ?_
  refine lit32_s hb fun w4 y hy b4 => ?_
  try simp only [↓reduceIte, ↓LL, LM, Value.cells, Nat.reduceAdd, Option.some.injEq, exists_eq_left', decide_true, decide_false, if_true, if_false, reduceCtorEq, cond_true, cond_false]
  refine f53_s (rdR_b b4 hx) hy fun w5 b5 => ?_
  have k := kk w5 (bt (bt (bt b12 b3) b4) b5)
  have e : decide ((if ltV a b then -1 else if ltV b a then 1 else 0 : Int) < 0) = decide (ltV a b) := by
    by_cases h1 : ltV a b
    · simp [h1]
    · by_cases h2 : ltV b a <;> simp [h1, h2]
  try simp only [↓reduceIte, ↓LL, LM, Value.cells, Nat.reduceAdd, Option.some.injEq, exists_eq_left', decide_true, decide_false, if_true, if_false, reduceCtorEq, cond_true, cond_false]
  rw [e]
  exact k
end
end Go.Proofs.Ytlmiimojgledpaa

set_option maxRecDepth 20000
namespace Go.Proofs.Ytlmiimojgledpaa
open Sh RowKit Go.MapKept Srt
theorem build1 (x : SV) (w : World) : (Instr.buildSlice 22 1 #[(0, slV x)]).run Try.prog w = .ok (.slice (some ⟨w.heap.size, 0, none⟩) 1 1) (psh w (.cells #[slV x] 33)) := by
  kernel_rfl
section
variable {V W w w' : World} {Q : Value → World → Prop}
theorem rows_app {a a' : List SV} {b b' : List Row} (h : Rows V a b) (h' : Rows V a' b') : Rows V (a ++ a') (b ++ b') := by
  refine ⟨by rw [List.length_append, List.length_append, h.1, h'.1], fun i x r h1 h2 => ?_⟩
  rw [List.getElem?_append] at h1 h2
  split at h1
  · rename_i hi
    rw [if_pos (by rw [← h.1]; exact hi)] at h2
    exact h.2 i x r h1 h2
  · rename_i hi
    rw [if_neg (by rw [← h.1]; exact hi), ← h.1] at h2
    exact h'.2 _ x r h1 h2
theorem rows_take {a : List SV} {b : List Row} (h : Rows V a b) (k : Nat) : Rows V (a.take k) (b.take k) := by
  refine ⟨by rw [List.length_take, List.length_take, h.1], fun i x r h1 h2 => ?_⟩
  have hk : i < k := by
    rcases Nat.lt_or_ge i k with c | c
    · exact c
    · rw [List.getElem?_eq_none (by rw [List.length_take]; omega)] at h1; cases h1
  rw [List.getElem?_take_of_lt hk] at h1 h2
  exact h.2 i x r h1 h2
theorem rows_drop {a : List SV} {b : List Row} (h : Rows V a b) (k : Nat) : Rows V (a.drop k) (b.drop k) := by
  refine ⟨by rw [List.length_drop, List.length_drop, h.1], fun i x r h1 h2 => ?_⟩
  rw [List.getElem?_drop] at h1 h2
  exact h.2 _ x r h1 h2
theorem rows_one {x : SV} {r : Row} (h : rdR V (slV x) r) : Rows V [x] [r] := by
  refine ⟨rfl, fun i y s h1 h2 => ?_⟩
  cases i with
  | zero => cases h1; cases h2; exact h
  | succ i => simp at h1
/-- one among a list of headers, at its place: in either order -/
theorem ins_A {B : Nat} {u pv : Value} {sl : List SV} {x : SV} {k : Nat} {a45 a55 : Value} {K : Value → M} (h1 : rdS 1 (eR encSl) w a45 (sl.take k)) (h2 : rdS 1 (eR encSl) w a55 (sl.drop k)) (hl : sl.length ≤ 1000) (hB : B ≤ w.heap.size) (hld : ∀ w', Below w.heap.size w w' → Kld pv (slV x) w')
    (kk : ∀ w' u', Below w.heap.size w w' → ownE B 33 1 encSl w' u' (sl.take k ++ [x] ++ sl.drop k) → K u' w' Q) :
    sm Try.prog (Builtin.append_ #[22, 22] 22 #[(.slice none 0 0), a45]) (fun t46 => kp (Kld pv (slV x)) <| sm Try.prog (Instr.buildSlice 22 1 #[(0, slV x)]) fun t51 => sm Try.prog (Builtin.append_ #[22, 22] 22 #[t46, t51]) fun t52 => sm Try.prog (Builtin.append_ #[22, 22] 22 #[t52, a55]) K) w Q := by
  have lt := List.length_take (l := sl) (i := k)
  refine ap_E (B := w.heap.size) (l := []) (m := sl.take k) sl22 rfl (by decide) encSl_len encSl_one ownE_nil h1 (by simp; unfold maxLen; omega) (by simp; omega) (Nat.le_refl _) fun v2 w2 o2 g2 _ => ?_
  rw [List.nil_append] at o2
  have b2 := Below_nil g2
  rw [kp_e]
  refine ⟨hld w2 b2, ?_⟩
  refine ⟨_, _, build1 x w2, ?_⟩
  have b3 := b_psh w2 (.cells #[slV x] 33)
  have o3 := ownE_below o2 b3
  have r3 : rdS 1 (eR encSl) (psh w2 (.cells #[slV x] 33)) (.slice (some ⟨w2.heap.size, 0, none⟩) 1 1) [x] := rd_lit (enc := encSl) (x := x) rfl (blk_psh_new (w := w2) (o := .cells #[slV x] 33))
  generalize psh w2 (.cells #[slV x] 33) = w3 at *
  have b23 := bt b2 b3
  refine ap_E sl22 rfl (by decide) encSl_len encSl_one o3 r3 (by simp; unfold maxLen; omega) (by simp; omega) b23.size fun v4 w4 o4 g4 _ => ?_
  have b4 : Below w.heap.size w w4 := b23.grown g4 b23.size (fun k hk => (ownE_blk o3 k hk).1)
  refine ap_E sl22 rfl (by decide) encSl_len encSl_one o4 (rdS_below (fun _ _ _ _ _ h => h) b4 h2) (by simp; unfold maxLen; omega) (by simp; omega) b4.size fun v5 w5 o5 g5 _ => ?_
  exact kk w5 v5 (b4.grown g5 b4.size (fun k hk => (ownE_blk o4 k hk).1)) (ownE_weak o5 hB)
theorem ins_B {B : Nat} {u pv : Value} {sl : List SV} {x : SV} {k : Nat} {a45 a55 : Value} {K : Value → M} (h1 : rdS 1 (eR encSl) w a45 (sl.take k)) (h2 : rdS 1 (eR encSl) w a55 (sl.drop k)) (hl : sl.length ≤ 1000) (hB : B ≤ w.heap.size) (hld : ∀ w', Below w.heap.size w w' → Kld pv (slV x) w')
    (kk : ∀ w' u', Below w.heap.size w w' → ownE B 33 1 encSl w' u' (sl.take k ++ [x] ++ sl.drop k) → K u' w' Q) :
    sm Try.prog (Instr.buildSlice 22 1 #[(0, slV x)]) (fun t51 => sm Try.prog (Builtin.append_ #[22, 22] 22 #[(.slice none 0 0), a45]) fun t46 => kp (Kld pv (slV x)) <| sm Try.prog (Builtin.append_ #[22, 22] 22 #[t46, t51]) fun t52 => sm Try.prog (Builtin.append_ #[22, 22] 22 #[t52, a55]) K) w Q := by
  refine ⟨_, _, build1 x w, ?_⟩
  have b1 := b_psh w (.cells #[slV x] 33)
  have r1 : rdS 1 (eR encSl) (psh w (.cells #[slV x] 33)) (.slice (some ⟨w.heap.size, 0, none⟩) 1 1) [x] := rd_lit (enc := encSl) (x := x) rfl (blk_psh_new (w := w) (o := .cells #[slV x] 33))
  generalize psh w (.cells #[slV x] 33) = w1 at *
  refine ap_E (B := w1.heap.size) (l := []) (m := sl.take k) sl22 rfl (by decide) encSl_len encSl_one ownE_nil (rdS_below (fun _ _ _ _ _ h => h) b1 h1) (by simp; unfold maxLen; omega) (by simp; omega) (Nat.le_refl _) fun v2 w2 o2 g2 _ => ?_
  rw [List.nil_append] at o2
  have b12 := Below_nil g2
  have b2 := bt b1 b12
  rw [kp_e]
  refine ⟨hld w2 b2, ?_⟩
  refine ap_E sl22 rfl (by decide) encSl_len encSl_one o2 (rdS_below (fun _ _ _ _ _ h => h) b12 r1) (by simp; unfold maxLen; omega) (by simp; omega) b12.size fun v4 w4 o4 g4 _ => ?_
  have b4 : Below w1.heap.size w1 w4 := b12.grown g4 b12.size (fun k hk => (ownE_blk o2 k hk).1)
  refine ap_E sl22 rfl (by decide) encSl_len encSl_one o4 (rdS_below (fun _ _ _ _ _ h => h) (bt b1 b4) h2) (by simp; unfold maxLen; omega) (by simp; omega) b4.size fun v5 w5 o5 g5 _ => ?_
  exact kk w5 v5 (bt b1 (b4.grown g5 b4.size (fun k hk => (ownE_blk o4 k hk).1))) (ownE_weak o5 (Nat.le_trans hB b1.size))
/-- from behind to where it belongs -/
theorem f24_in {vl : Value} {l : List Row} {c : Int} {u : Value} {sl : List SV} {G : List (Row × Nat)} {i : Nat} (h : rdL V vl l) (hi : i < l.length) (hcol : ∀ r ∈ l, 0 ≤ c ∧ c < r.length) (hr : Rows V sl (G.map (·.1))) (hG : ∀ y ∈ G, y.1 ∈ l) (hl : G.length ≤ 1000) {j3 : Value → Value → Value → Value → Value → M} :
    ∀ (k m : Nat) (w : World), k < m → k ≤ G.length → Below V.heap.size V w → ownE V.heap.size 33 1 encSl w u sl → (∀ y ∈ G.drop k, ltV (colV c.toNat l[i]) (colV c.toNat y.1)) →
    (∀ w' k, Below V.heap.size V w' → ownE V.heap.size 33 1 encSl w' u sl → k ≤ G.length → (∀ y ∈ G.drop k, ltV (colV c.toNat l[i]) (colV c.toNat y.1)) → (∀ y, G[k - 1]? = some y → 0 < k → ¬ ltV (colV c.toNat l[i]) (colV c.toNat y.1)) →
      j3 vl (.int .i64 c) u (.int .i64 (i : Int)) (.int .i64 (k : Int)) w' Q) →
    itr (fun _ _ _ _ _ => bot) (f24_b4 j3) m vl (.int .i64 c) u (.int .i64 (i : Int)) (.int .i64 (k : Int)) w Q := by
  intro k
  induction k with
  | zero =>
    intro m w hm hk hb ho h2 kk
    obtain ⟨m, rfl⟩ : ∃ x, m = x + 1 := ⟨m - 1, by omega⟩
    show f24_b4 j3 _ _ _ _ _ _ w Q
    unfold f24_b4
    have bd : Below V.heap.size V (drw w) := hb.trans ⟨rfl, rfl, rfl, Nat.le_refl _, fun _ _ => rfl⟩
    have c0 : ¬ (0 : Int) < ((0 : Nat) : Int) := by decide
    try simp only [↓reduceIte, ↓LL, LM, Value.cells, Nat.reduceAdd, Option.some.injEq, exists_eq_left', decide_true, decide_false, if_true, if_false, reduceCtorEq, cond_true, cond_false, c0]
    exact kk (drw w) 0 bd (ownE_below ho ⟨rfl, rfl, rfl, Nat.le_refl _, fun _ _ => rfl⟩) (by omega) h2 (fun y _ h => by omega)
  | succ k ih =>
    intro m w hm hk hb ho h2 kk
    obtain ⟨m, rfl⟩ : ∃ x, m = x + 1 := ⟨m - 1, by omega⟩
    show f24_b4 j3 _ _ _ _ _ _ w Q
    unfold f24_b4
    have bd : Below V.heap.size V (drw w) := hb.trans ⟨rfl, rfl, rfl, Nat.le_refl _, fun _ _ => rfl⟩
    have od : ownE V.heap.size 33 1 encSl (drw w) u sl := ownE_below ho ⟨rfl, rfl, rfl, Nat.le_refl _, fun _ _ => rfl⟩
    have hkG : k < G.length := by omega
    have ro := own_rdL od hr bd
    obtain ⟨ada, rva, hra, hc1, hia1⟩ := row_at h hi
    have hkM : k < (G.map (·.1)).length := by simpa using hkG
    obtain ⟨adb, rvb, hrb, hc2, hia2⟩ := row_at ro hkM
    have hgk : (G.map (·.1))[k] = G[k].1 := by simp
    rw [hgk] at hrb
    have cla := hcol _ (List.getElem_mem hi)
    have clb := hcol _ (hG _ (List.getElem_mem hkG))
    obtain ⟨da, hda, hiaa⟩ := val_col hra cla
    obtain ⟨db, hdb, hiab⟩ := val_col hrb clb
    have oka := okc (c := c.toNat) hra (by omega)
    have okb := okc (c := c.toNat) hrb (by omega)
    have k1 := hc1 _ bd
    have k2 := hc2 _ (Below.refl _ _)
    have c0 : (0 : Int) < ((k + 1 : Nat) : Int) := by omega
    have e1 : IntKind.i64.wrap (((k + 1 : Nat) : Int) - 1) = (k : Int) := by rw [w64 (by omega) (by omega)]; omega
    try simp only [↓reduceIte, ↓LL, LM, Value.cells, Nat.reduceAdd, Option.some.injEq, exists_eq_left', decide_true, decide_false, if_true, if_false, reduceCtorEq, cond_true, cond_false, c0, hia1, k1, hiaa]
    refine ldn_at (hda _ bd) rfl ?_
    try simp only [↓reduceIte, ↓LL, LM, Value.cells, Nat.reduceAdd, Option.some.injEq, exists_eq_left', decide_true, decide_false, if_true, if_false, reduceCtorEq, cond_true, cond_false, e1, hia2, k2, hiab]
    refine ldn_at (hdb _ (Below.refl _ _)) rfl ?_
    try simp only [↓reduceIte, ↓LL, LM, Value.cells, Nat.reduceAdd, Option.some.injEq, exists_eq_left', decide_true, decide_false, if_true, if_false, reduceCtorEq, cond_true, cond_false]
    refine f41_s oka okb fun w1 b1 => ?_
    have b01 := bt bd b1
    have o1 := ownE_below od b1
    by_cases hlt : ltV (colV c.toNat l[i]) (colV c.toNat G[k].1)
    · try simp only [↓reduceIte, ↓LL, LM, Value.cells, Nat.reduceAdd, Option.some.injEq, exists_eq_left', decide_true, decide_false, if_true, if_false, reduceCtorEq, cond_true, cond_false, hlt, e1]
      refine ih m w1 (by omega) (by omega) b01 o1 (fun y hy => ?_) kk
      rw [List.drop_eq_getElem_cons hkG] at hy
      rcases List.mem_cons.1 hy with rfl | hy
      · exact hlt
      · exact h2 y hy
    · try simp only [↓reduceIte, ↓LL, LM, Value.cells, Nat.reduceAdd, Option.some.injEq, exists_eq_left', decide_true, decide_false, if_true, if_false, reduceCtorEq, cond_true, cond_false, hlt]
      refine kk w1 (k + 1) b01 o1 hk h2 (fun y hy _ => ?_)
      rw [Nat.add_sub_cancel, List.getElem?_eq_getElem hkG] at hy
      cases hy
      exact hlt
theorem f24_out {vl : Value} {l : List Row} {c : Int} (h : rdL V vl l) (hcol : ∀ r ∈ l, 0 ≤ c ∧ c < r.length) (hl : l.length ≤ 900) :
    ∀ (d m i : Nat) (w : World) (u : Value) (sl : List SV) (G : List (Row × Nat)), i + d = l.length → d < m → Below V.heap.size V w → ownE V.heap.size 33 1 encSl w u sl → Rows V sl (G.map (·.1)) → Sd (leC c.toNat) G → G.Perm (num 0 (l.take i)) →
    (∀ w' u', Below V.heap.size V w' → rdL w' u' (srt (leC c.toNat) l) → Q (.tuple #[u', .int .i64 0]) w') →
    itr (fun _ _ _ _ => bot) (f24_b2 f24_j1) m vl (.int .i64 c) u (.int .i64 (i : Int)) w Q := by
  intro d
  induction d with
  | zero =>
    intro m i w u sl G hi hm hb ho hr hs hp kk
    obtain ⟨m, rfl⟩ : ∃ x, m = x + 1 := ⟨m - 1, by omega⟩
    show f24_b2 f24_j1 _ _ _ _ _ w Q
    unfold f24_b2
    have cc : ¬ (i : Int) < (l.length : Nat) := by omega
    try simp only [↓reduceIte, ↓LL, LM, Value.cells, Nat.reduceAdd, Option.some.injEq, exists_eq_left', decide_true, decide_false, if_true, if_false, reduceCtorEq, cond_true, cond_false, lnl_L h, cc]
    unfold f24_j1
    try simp only [↓reduceIte, ↓LL, LM, Value.cells, Nat.reduceAdd, Option.some.injEq, exists_eq_left', decide_true, decide_false, if_true, if_false, reduceCtorEq, cond_true, cond_false]
    refine kk w u hb ?_
    rw [List.take_of_length_le (by omega)] at hp
    have e := sorted_is (ordC c.toNat) hp hs
    have := own_rdL ho hr hb
    rw [e] at this
    exact this
  | succ d ih =>
    intro m i w u sl G hi hm hb ho hr hs hp kk
    obtain ⟨m, rfl⟩ : ∃ x, m = x + 1 := ⟨m - 1, by omega⟩
    show f24_b2 f24_j1 _ _ _ _ _ w Q
    unfold f24_b2
    have hil : i < l.length := by omega
    have cc : (i : Int) < (l.length : Nat) := by omega
    have hGl : G.length = i := by rw [hp.length_eq, num_len, List.length_take]; omega
    have hG : ∀ y ∈ G, y.1 ∈ l := fun y hy => by
      have hy := hp.mem_iff.1 hy
      have : y.1 ∈ (num 0 (l.take i)).map (·.1) := List.mem_map.2 ⟨y, hy, rfl⟩
      rw [num_fst] at this
      exact List.mem_of_mem_take this
    have hids : ∀ y ∈ G, y.2 < i := fun y hy => by
      have := num_mem (hp.mem_iff.1 hy)
      rw [List.length_take] at this; omega
    have hsl : sl.length = G.length := by rw [hr.1, List.length_map]
    have h3 : IntKind.i64.wrap ((i : Int) + 1) = ((i + 1 : Nat) : Int) := by rw [w64 (by omega) (by omega)]; rfl
    have ro := own_rdL ho hr hb
    have lnu := lnl_L (w1 := w) ro
    have e0 : (((G.map (·.1)).length : Nat) : Int) = (G.length : Nat) := by simp
    try simp only [↓reduceIte, ↓LL, LM, Value.cells, Nat.reduceAdd, Option.some.injEq, exists_eq_left', decide_true, decide_false, if_true, if_false, reduceCtorEq, cond_true, cond_false, lnl_L h, cc, lnu, e0]
    refine ⟨_, f24_in h hil hcol hr hG (by omega) G.length (G.length + 1) w (by omega) (Nat.le_refl _) hb ho (by simp) fun w1 k b1 o1 hkG q1 q2 => ?_⟩
    unfold f24_j3
    have bd : Below V.heap.size V (drw w1) := b1.trans ⟨rfl, rfl, rfl, Nat.le_refl _, fun _ _ => rfl⟩
    have od : ownE V.heap.size 33 1 encSl (drw w1) u sl := ownE_below o1 ⟨rfl, rfl, rfl, Nat.le_refl _, fun _ _ => rfl⟩
    obtain ⟨ada, rva, hra, hc1, hia1⟩ := row_at h hil
    obtain ⟨x, rfl⟩ := slV_of hra
    have rdu := ownE_rd encSl_len (by decide) od
    -- the ghost list anew
    have hsd : Sd (leC c.toNat) (G.take k ++ (l[i], i) :: G.drop k) := by
      refine sd_ins (by rw [List.take_append_drop]; exact hs) (fun y hy => ?_) (fun y hy => slt_nle (ordC c.toNat) (leC_f.2 (q1 y hy)))
      have hk0 : 0 < k := by
        rcases Nat.eq_zero_or_pos k with h | h
        · rw [h] at hy; simp at hy
        · exact h
      have hk1 : k - 1 < G.length := by omega
      have gk : G[k - 1]? = some G[k - 1] := List.getElem?_eq_getElem hk1
      have : slt (leC c.toNat) G[k - 1] (l[i], i) := slt_le (leC_t.2 (q2 _ gk hk0)) (hids _ (List.getElem_mem hk1))
      have := sd_take hs (ordC c.toNat) gk this y (by rw [Nat.sub_add_cancel hk0]; exact hy)
      exact this
    have hpm : (G.take k ++ (l[i], i) :: G.drop k).Perm (num 0 (l.take (i + 1))) := by
      refine List.perm_middle.trans ?_
      rw [List.take_append_drop, List.take_succ_eq_append_getElem hil, num_app]
      have : num (0 + (l.take i).length) [l[i]] = [(l[i], i)] := by rw [List.length_take, Nat.min_eq_left (by omega), Nat.zero_add]; rfl
      rw [this]
      exact (hp.cons _).trans (List.perm_append_singleton _ _).symm
    have hrows : Rows V (sl.take k ++ [x] ++ sl.drop k) ((G.take k ++ (l[i], i) :: G.drop k).map (·.1)) := by
      have := rows_app (rows_app (rows_take hr k) (rows_one hra)) (rows_drop hr k)
      simpa [List.map_take, List.map_drop] using this
    have next := fun (w' : World) (u' : Value) (hb' : Below V.heap.size V w') (ho' : ownE V.heap.size 33 1 encSl w' u' (sl.take k ++ [x] ++ sl.drop k)) => ih m (i + 1) w' u' _ _ (by omega) (by omega) hb' ho' hrows hsd hpm kk
    try simp only [↓reduceIte, ↓LL, LM, Value.cells, Nat.reduceAdd, Option.some.injEq, exists_eq_left', decide_true, decide_false, if_true, if_false, reduceCtorEq, cond_true, cond_false]
    refine sll_S rdu (by omega) fun v45 r45 => ?_
    try simp only [↓reduceIte, ↓LL, LM, Value.cells, Nat.reduceAdd, Option.some.injEq, exists_eq_left', decide_true, decide_false, if_true, if_false, reduceCtorEq, cond_true, cond_false, hia1, hc1 _ bd]
    refine sll_drop rdu (by omega) fun v55 r55 _ _ => ?_
    have hld : ∀ w', Below (drw w1).heap.size (drw w1) w' → Kld (.pointer (some ada)) (slV x) w' := fun w' hb' => by rw [Kld_e]; exact hc1 _ (bt bd hb')
    constructor
    · refine ins_A (u := u) r45 r55 (by omega) bd.size hld fun w2 u2 b2 o2 => ?_
      try simp only [↓reduceIte, ↓LL, LM, Value.cells, Nat.reduceAdd, Option.some.injEq, exists_eq_left', decide_true, decide_false, if_true, if_false, reduceCtorEq, cond_true, cond_false]
      unfold f24_j5
      try simp only [↓reduceIte, ↓LL, LM, Value.cells, Nat.reduceAdd, Option.some.injEq, exists_eq_left', decide_true, decide_false, if_true, if_false, reduceCtorEq, cond_true, cond_false, h3]
      exact next w2 u2 (bt bd b2) o2
    · refine ins_B (u := u) r45 r55 (by omega) bd.size hld fun w2 u2 b2 o2 => ?_
      try simp only [↓reduceIte, ↓LL, LM, Value.cells, Nat.reduceAdd, Option.some.injEq, exists_eq_left', decide_true, decide_false, if_true, if_false, reduceCtorEq, cond_true, cond_false]
      unfold f24_j5
      try simp only [↓reduceIte, ↓LL, LM, Value.cells, Nat.reduceAdd, Option.some.injEq, exists_eq_left', decide_true, decide_false, if_true, if_false, reduceCtorEq, cond_true, cond_false, h3]
      exact next w2 u2 (bt bd b2) o2
theorem f24_s {vl : Value} {l : List Row} {c : Int} (h : rdL w vl l) (hl : l.length ≤ 900)
    (k7 : l.any (lacksB c) = true → Q (.tuple #[.slice none 0 0, .int .i64 7]) w)
    (k0 : l.any (lacksB c) = false → ∀ w' u, Below w.heap.size w w' → rdL w' u (srt (leC c.toNat) l) → Q (.tuple #[u, .int .i64 0]) w') : f24 vl (.int .i64 c) w Q := by
  unfold f24
  try simp only [↓reduceIte, ↓LL, LM, Value.cells, Nat.reduceAdd, Option.some.injEq, exists_eq_left', decide_true, decide_false, if_true, if_false, reduceCtorEq, cond_true, cond_false]
  refine f28_s h (by omega) ?_
  by_cases c1 : l.any (lacksB c) = true
  · try simp only [↓reduceIte, ↓LL, LM, Value.cells, Nat.reduceAdd, Option.some.injEq, exists_eq_left', decide_true, decide_false, if_true, if_false, reduceCtorEq, cond_true, cond_false, c1]
    exact k7 c1
  have c1f : l.any (lacksB c) = false := Bool.eq_false_iff.2 c1
  try simp only [↓reduceIte, ↓LL, LM, Value.cells, Nat.reduceAdd, Option.some.injEq, exists_eq_left', decide_true, decide_false, if_true, if_false, reduceCtorEq, cond_true, cond_false, c1f]
  exact ⟨_, f24_out (V := w) h (not_lacks c1f) hl l.length (l.length + 1) 0 w (.slice none 0 0) [] [] (by omega) (by omega) (Below.refl _ _) ownE_nil ⟨rfl, fun i x r h => by simp at h⟩ List.Pairwise.nil (by simp [num]) fun w' u hb hr => k0 c1f w' u hb hr⟩
end
end Go.Proofs.Ytlmiimojgledpaa

set_option maxRecDepth 20000
namespace Go.Proofs.Ytlmiimojgledpaa
open Sh RowKit Go.MapKept Srt
def cnt (r : Row) (l : List Row) : Nat := (l.filter fun s => decide (s = r)).length
theorem cnt_le (r : Row) (l : List Row) : cnt r l ≤ l.length := List.length_filter_le _ _
theorem cnt_take {r : Row} {l : List Row} {k : Nat} (h : k < l.length) : cnt r (l.take (k + 1)) = cnt r (l.take k) + (if l[k] = r then 1 else 0) := by
  unfold cnt
  rw [filt_len h]
  by_cases e : l[k] = r <;> simp [e]
theorem cnt_perm {r : Row} {l m : List Row} (h : l.Perm m) : cnt r l = cnt r m := (h.filter _).length_eq
section
variable {V W w w' : World} {Q : Value → World → Prop}
/-- how often -/
theorem f6_cnt {vl va : Value} {l a : List Row} {tc t7 t8 : Value} {i : Nat} (hl : rdL V vl l) (ha : rdL V va a) (hla : a.length = l.length) (hll : l.length ≤ 1000) (hsl : ∀ r ∈ l, r.length ≤ 9223372036854775806) (hsa : ∀ r ∈ a, r.length ≤ 9223372036854775806) (hi : i < a.length) {j4 : Value → Value → Value → Value → Value → Value → Value → M} :
    ∀ (d m k : Nat) (w : World), k + d = l.length → d < m → Below V.heap.size V w →
    (∀ w', Below V.heap.size V w' → j4 vl tc va t7 t8 (.int .i64 (i : Int)) (.int .i64 ((cnt a[i] l : Int) - cnt a[i] a)) w' Q) →
    itr (fun _ _ _ _ _ _ _ _ => bot) (f6_b5 j4) m vl tc va t7 t8 (.int .i64 (i : Int)) (.int .i64 ((cnt a[i] (l.take k) : Int) - cnt a[i] (a.take k))) (.int .i64 (k : Int)) w Q := by
  intro d
  induction d with
  | zero =>
    intro m k w hk hm hb kk
    obtain ⟨m, rfl⟩ : ∃ x, m = x + 1 := ⟨m - 1, by omega⟩
    show f6_b5 j4 _ _ _ _ _ _ _ _ _ w Q
    unfold f6_b5
    have cc : ¬ (k : Int) < (l.length : Nat) := by omega
    try simp only [↓reduceIte, ↓LL, LM, Value.cells, Nat.reduceAdd, Option.some.injEq, exists_eq_left', decide_true, decide_false, if_true, if_false, reduceCtorEq, cond_true, cond_false, lnl_L hl, cc]
    rw [List.take_of_length_le (by omega), List.take_of_length_le (by omega)]
    exact kk w hb
  | succ d ih =>
    intro m k w hk hm hb kk
    obtain ⟨m, rfl⟩ : ∃ x, m = x + 1 := ⟨m - 1, by omega⟩
    show f6_b5 j4 _ _ _ _ _ _ _ _ _ w Q
    unfold f6_b5
    have cc : (k : Int) < (l.length : Nat) := by omega
    have cca : (k : Int) < (a.length : Nat) := by omega
    have hkl : k < l.length := by omega
    have hka : k < a.length := by omega
    have bd : Below V.heap.size V (drw w) := hb.trans ⟨rfl, rfl, rfl, Nat.le_refl _, fun _ _ => rfl⟩
    obtain ⟨adl, rvl, hrl, hcl, hil⟩ := row_at hl hkl
    obtain ⟨adi, rvi, hri, hci, hii⟩ := row_at ha hi
    obtain ⟨ada, rva, hra, hca, hia⟩ := row_at ha hka
    have t1 := cnt_take (r := a[i]) hkl
    have t2 := cnt_take (r := a[i]) hka
    have u1 := cnt_le a[i] (l.take k)
    have u2 := cnt_le a[i] (a.take k)
    have u3 := cnt_le a[i] (l.take (k + 1))
    rw [List.length_take] at u1 u2 u3
    have h3 : IntKind.i64.wrap ((k : Int) + 1) = ((k + 1 : Nat) : Int) := by rw [w64 (by omega) (by omega)]; rfl
    have qc := hcl _ bd
    have qi := hci _ bd
    generalize hx1 : (cnt a[i] (l.take k) : Int) = x1 at *
    generalize hx2 : (cnt a[i] (a.take k) : Int) = x2 at *
    -- behind the first
    have fin : ∀ (w1 : World) (y : Int), Below V.heap.size V w1 → y = (cnt a[i] (l.take (k + 1)) : Int) - x2 → f6_j6 (itr (fun _ _ _ _ _ _ _ _ => bot) (f6_b5 j4) m) vl tc va t7 t8 (.int .i64 (i : Int)) (.int .i64 y) (.int .i64 (k : Int)) w1 Q := by
      intro w1 y b1 hy
      unfold f6_j6
      have bd1 : Below V.heap.size V (drw w1) := b1.trans ⟨rfl, rfl, rfl, Nat.le_refl _, fun _ _ => rfl⟩
      have qa := hca _ bd1
      have qi1 := hci _ bd1
      try simp only [↓reduceIte, ↓LL, LM, Value.cells, Nat.reduceAdd, Option.some.injEq, exists_eq_left', decide_true, decide_false, if_true, if_false, reduceCtorEq, cond_true, cond_false, lnl_L ha, cca, hia, qa, hii, qi1]
      refine f11_s (rdR_b bd1 hra) (rdR_b bd1 hri) (hsa _ (List.getElem_mem hka)) fun w2 b2 => ?_
      have b2 := bt bd1 b2
      by_cases e : a[k] = a[i]
      · rw [if_pos e] at t2
        have ew : IntKind.i64.wrap (y - 1) = (cnt a[i] (l.take (k + 1)) : Int) - (cnt a[i] (a.take (k + 1)) : Nat) := by rw [w64 (by omega) (by omega)]; omega
        try simp only [↓reduceIte, ↓LL, LM, Value.cells, Nat.reduceAdd, Option.some.injEq, exists_eq_left', decide_true, decide_false, if_true, if_false, reduceCtorEq, cond_true, cond_false, e, ew]
        unfold f6_j7
        try simp only [↓reduceIte, ↓LL, LM, Value.cells, Nat.reduceAdd, Option.some.injEq, exists_eq_left', decide_true, decide_false, if_true, if_false, reduceCtorEq, cond_true, cond_false, h3]
        exact ih m (k + 1) w2 (by omega) (by omega) b2 kk
      · rw [if_neg e] at t2
        have ew : y = (cnt a[i] (l.take (k + 1)) : Int) - (cnt a[i] (a.take (k + 1)) : Nat) := by omega
        try simp only [↓reduceIte, ↓LL, LM, Value.cells, Nat.reduceAdd, Option.some.injEq, exists_eq_left', decide_true, decide_false, if_true, if_false, reduceCtorEq, cond_true, cond_false, e]
        unfold f6_j7
        try simp only [↓reduceIte, ↓LL, LM, Value.cells, Nat.reduceAdd, Option.some.injEq, exists_eq_left', decide_true, decide_false, if_true, if_false, reduceCtorEq, cond_true, cond_false, h3]
        rw [ew]
        exact ih m (k + 1) w2 (by omega) (by omega) b2 kk
    try simp only [↓reduceIte, ↓LL, LM, Value.cells, Nat.reduceAdd, Option.some.injEq, exists_eq_left', decide_true, decide_false, if_true, if_false, reduceCtorEq, cond_true, cond_false, lnl_L hl, cc, hil, qc, hii, qi]
    refine f11_s (rdR_b bd hrl) (rdR_b bd hri) (hsl _ (List.getElem_mem hkl)) fun w1 b1 => ?_
    have b1 := bt bd b1
    by_cases e : l[k] = a[i]
    · rw [if_pos e] at t1
      have ew : IntKind.i64.wrap (x1 - x2 + 1) = (cnt a[i] (l.take (k + 1)) : Int) - x2 := by rw [w64 (by omega) (by omega)]; omega
      try simp only [↓reduceIte, ↓LL, LM, Value.cells, Nat.reduceAdd, Option.some.injEq, exists_eq_left', decide_true, decide_false, if_true, if_false, reduceCtorEq, cond_true, cond_false, e, ew]
      exact fin w1 _ b1 rfl
    · rw [if_neg e] at t1
      try simp only [↓reduceIte, ↓LL, LM, Value.cells, Nat.reduceAdd, Option.some.injEq, exists_eq_left', decide_true, decide_false, if_true, if_false, reduceCtorEq, cond_true, cond_false, e]
      exact fin w1 _ b1 (by omega)
theorem f6_loop {vl va vb : Value} {l a : List Row} {c : Int} (hl : rdL V vl l) (ha : rdL V va a) (hb : rdL V vb a) (hp : a.Perm l) (hll : l.length ≤ 1000) (hsl : ∀ r ∈ l, r.length ≤ 9223372036854775806) (hcol : ∀ r ∈ l, 0 ≤ c ∧ c < r.length) (hs : a.Pairwise (fun x y => leC c.toNat x y = true)) :
    ∀ (d m i : Nat) (w : World), i + d = a.length → d < m → Below V.heap.size V w →
    (∀ w', Below V.heap.size V w' → Q (.bool true) w') →
    itr (fun _ _ _ _ _ _ => bot) (f6_b2 f6_j1) m vl (.int .i64 c) va vb (.int .i64 0) (.int .i64 (i : Int)) w Q := by
  have hla : a.length = l.length := hp.length_eq
  have hsa : ∀ r ∈ a, r.length ≤ 9223372036854775806 := fun r hr => hsl r (hp.mem_iff.1 hr)
  have hca : ∀ r ∈ a, 0 ≤ c ∧ c < r.length := fun r hr => hcol r (hp.mem_iff.1 hr)
  intro d
  induction d with
  | zero =>
    intro m i w hi hm hb' kk
    obtain ⟨m, rfl⟩ : ∃ x, m = x + 1 := ⟨m - 1, by omega⟩
    show f6_b2 f6_j1 _ _ _ _ _ _ _ w Q
    unfold f6_b2
    have cc : ¬ (i : Int) < (a.length : Nat) := by omega
    have ela : ((a.length : Nat) : Int) = (l.length : Nat) := by omega
    try simp only [↓reduceIte, ↓LL, LM, Value.cells, Nat.reduceAdd, Option.some.injEq, exists_eq_left', decide_true, decide_false, if_true, if_false, reduceCtorEq, cond_true, cond_false, lnl_L ha, cc]
    unfold f6_j1
    try simp only [↓reduceIte, ↓LL, LM, Value.cells, Nat.reduceAdd, Option.some.injEq, exists_eq_left', decide_true, decide_false, if_true, if_false, reduceCtorEq, cond_true, cond_false, lnl_L ha, lnl_L hl, ela]
    refine f13_s (rdL_b hb' ha) (rdL_b hb' hb) (by omega) hsa fun w1 b1 => ?_
    try simp only [↓reduceIte, ↓LL, LM, Value.cells, Nat.reduceAdd, Option.some.injEq, exists_eq_left', decide_true, decide_false, if_true, if_false, reduceCtorEq, cond_true, cond_false]
    exact kk w1 (bt hb' b1)
  | succ d ih =>
    intro m i w hi hm hbw kk
    obtain ⟨m, rfl⟩ : ∃ x, m = x + 1 := ⟨m - 1, by omega⟩
    show f6_b2 f6_j1 _ _ _ _ _ _ _ w Q
    unfold f6_b2
    have cc : (i : Int) < (a.length : Nat) := by omega
    have hia : i < a.length := by omega
    have h3 : IntKind.i64.wrap ((i : Int) + 1) = ((i + 1 : Nat) : Int) := by rw [w64 (by omega) (by omega)]; rfl
    have bd : Below V.heap.size V (drw w) := hbw.trans ⟨rfl, rfl, rfl, Nat.le_refl _, fun _ _ => rfl⟩
    have z0 : ((cnt a[i] l : Int) - cnt a[i] a) = 0 := by rw [cnt_perm hp]; omega
    -- behind the look at the one ahead
    have fin : ∀ w1, Below V.heap.size V w1 → f6_j3 (itr (fun _ _ _ _ _ _ => bot) (f6_b2 f6_j1) m) vl (.int .i64 c) va vb (.int .i64 0) (.int .i64 (i : Int)) (.bool false) w1 Q := by
      intro w1 b1
      unfold f6_j3
      try simp only [↓reduceIte, ↓LL, LM, Value.cells, Nat.reduceAdd, Option.some.injEq, exists_eq_left', decide_true, decide_false, if_true, if_false, reduceCtorEq, cond_true, cond_false]
      have := f6_cnt (Q := Q) (tc := .int .i64 c) (t7 := vb) (t8 := .int .i64 0) (j4 := f6_j4 (itr (fun _ _ _ _ _ _ => bot) (f6_b2 f6_j1) m)) hl ha hla hll hsl hsa hia l.length (l.length + 1) 0 w1 (by omega) (by omega) b1 fun w2 b2 => ?_
      · have e0 : ((cnt a[i] (l.take 0) : Int) - cnt a[i] (a.take 0)) = 0 := by simp [cnt]
        rw [e0] at this
        exact ⟨_, this⟩
      · rw [z0]
        unfold f6_j4
        try simp only [↓reduceIte, ↓LL, LM, Value.cells, Nat.reduceAdd, Option.some.injEq, exists_eq_left', decide_true, decide_false, if_true, if_false, reduceCtorEq, cond_true, cond_false, ne_eq, h3]
        exact ih m (i + 1) w2 (by omega) (by omega) b2 kk
    by_cases hi0 : 0 < i
    · have ci : (0 : Int) < (i : Int) := by omega
      have e1 : IntKind.i64.wrap ((i : Int) - 1) = ((i - 1 : Nat) : Int) := by rw [w64 (by omega) (by omega)]; omega
      have hi1 : i - 1 < a.length := by omega
      obtain ⟨adp, rvp, hrp, hcp, hip⟩ := row_at ha hi1
      obtain ⟨adi, rvi, hri, hci, hii⟩ := row_at ha hia
      have clp := hca _ (List.getElem_mem hi1)
      have cli := hca _ (List.getElem_mem hia)
      obtain ⟨dp, hdp, hiap⟩ := val_col hrp clp
      obtain ⟨di, hdi, hiai⟩ := val_col hri cli
      have okp := okc (c := c.toNat) hrp (by omega)
      have oki := okc (c := c.toNat) hri (by omega)
      have qp := hcp _ bd
      have qi := hci _ bd
      have hle : ¬ 0 < cmpV (colV c.toNat a[i - 1]) (colV c.toNat a[i]) := by
        rw [cmpV_pos]
        have h := (List.pairwise_iff_getElem.1 hs) (i - 1) i hi1 hia (by omega)
        exact leC_t.1 h
      try simp only [↓reduceIte, ↓LL, LM, Value.cells, Nat.reduceAdd, Option.some.injEq, exists_eq_left', decide_true, decide_false, if_true, if_false, reduceCtorEq, cond_true, cond_false, lnl_L ha, cc, ci, e1, hip, qp, hiap]
      refine ldn_at (hdp _ bd) rfl ?_
      try simp only [↓reduceIte, ↓LL, LM, Value.cells, Nat.reduceAdd, Option.some.injEq, exists_eq_left', decide_true, decide_false, if_true, if_false, reduceCtorEq, cond_true, cond_false, hii, qi, hiai]
      refine ldn_at (hdi _ bd) rfl ?_
      constructor
      · try simp only [↓reduceIte, ↓LL, LM, Value.cells, Nat.reduceAdd, Option.some.injEq, exists_eq_left', decide_true, decide_false, if_true, if_false, reduceCtorEq, cond_true, cond_false]
        refine lit32_s okp fun w1 x hx b1 => ?_
        have b1' := bt bd b1
        rw [kp_e]
        refine ⟨fun _ => by rw [Kldn_e]; exact ⟨rfl, fun j u hj => hdi _ b1' j u (by simpa using hj)⟩, ?_⟩
        rw [kp_e]
        refine ⟨fun _ => by rw [Kld_e]; exact hci _ b1', ?_⟩
        try simp only [↓reduceIte, ↓LL, LM, Value.cells, Nat.reduceAdd, Option.some.injEq, exists_eq_left', decide_true, decide_false, if_true, if_false, reduceCtorEq, cond_true, cond_false]
        refine lit32_s oki fun w2 y hy b2 => ?_
        have b2' := bt b1' b2
        rw [kp_e]
        refine ⟨fun _ => by rw [Kldn_e]; exact ⟨rfl, fun j u hj => hdp _ b2' j u (by simpa using hj)⟩, ?_⟩
        rw [kp_e]
        refine ⟨fun _ => by rw [Kld_e]; exact hcp _ b2', ?_⟩
        try simp only [↓reduceIte, ↓LL, LM, Value.cells, Nat.reduceAdd, Option.some.injEq, exists_eq_left', decide_true, decide_false, if_true, if_false, reduceCtorEq, cond_true, cond_false]
        refine f19_s (rdR_b b2 hx) hy fun w3 b3 => ?_
        try simp only [↓reduceIte, ↓LL, LM, Value.cells, Nat.reduceAdd, Option.some.injEq, exists_eq_left', decide_true, decide_false, if_true, if_false, reduceCtorEq, cond_true, cond_false, hle]
        exact fin w3 (bt b2' b3)
      · try simp only [↓reduceIte, ↓LL, LM, Value.cells, Nat.reduceAdd, Option.some.injEq, exists_eq_left', decide_true, decide_false, if_true, if_false, reduceCtorEq, cond_true, cond_false]
        refine lit32_s oki fun w1 x hx b1 => ?_
        have b1' := bt bd b1
        rw [kp_e]
        refine ⟨fun _ => by rw [Kldn_e]; exact ⟨rfl, fun j u hj => hdp _ b1' j u (by simpa using hj)⟩, ?_⟩
        rw [kp_e]
        refine ⟨fun _ => by rw [Kld_e]; exact hcp _ b1', ?_⟩
        try simp only [↓reduceIte, ↓LL, LM, Value.cells, Nat.reduceAdd, Option.some.injEq, exists_eq_left', decide_true, decide_false, if_true, if_false, reduceCtorEq, cond_true, cond_false]
        refine lit32_s okp fun w2 y hy b2 => ?_
        have b2' := bt b1' b2
        rw [kp_e]
        refine ⟨fun _ => by rw [Kldn_e]; exact ⟨rfl, fun j u hj => hdi _ b2' j u (by simpa using hj)⟩, ?_⟩
        rw [kp_e]
        refine ⟨fun _ => by rw [Kld_e]; exact hci _ b2', ?_⟩
        try simp only [↓reduceIte, ↓LL, LM, Value.cells, Nat.reduceAdd, Option.some.injEq, exists_eq_left', decide_true, decide_false, if_true, if_false, reduceCtorEq, cond_true, cond_false]
        refine f19_s hy (rdR_b b2 hx) fun w3 b3 => ?_
        try simp only [↓reduceIte, ↓LL, LM, Value.cells, Nat.reduceAdd, Option.some.injEq, exists_eq_left', decide_true, decide_false, if_true, if_false, reduceCtorEq, cond_true, cond_false, hle]
        exact fin w3 (bt b2' b3)
    · have : i = 0 := by omega
      subst this
      have ci : ¬ (0 : Int) < ((0 : Nat) : Int) := by decide
      try simp only [↓reduceIte, ↓LL, LM, Value.cells, Nat.reduceAdd, Option.some.injEq, exists_eq_left', decide_true, decide_false, if_true, if_false, reduceCtorEq, cond_true, cond_false, lnl_L ha, cc, ci]
      refine ⟨?_, ?_⟩
      all_goals
        try simp only [↓reduceIte, ↓LL, LM, Value.cells, Nat.reduceAdd, Option.some.injEq, exists_eq_left', decide_true, decide_false, if_true, if_false, reduceCtorEq, cond_true, cond_false, gdB_ff, false_implies, true_and, implies_true]
        exact fin _ bd
theorem f6_s {vl : Value} {l : List Row} {c : Int} (h : rdL w vl l) (hN : ∀ s ∈ l, s.length * 32 ≤ 140737488355328) (kk : ∀ w', Below w.heap.size w w' → Q (.bool true) w') :
    f6 vl (.int .i64 c) w Q := by
  unfold f6
  try simp only [↓reduceIte, ↓LL, LM, Value.cells, Nat.reduceAdd, Option.some.injEq, exists_eq_left', decide_true, decide_false, if_true, if_false, reduceCtorEq, cond_true, cond_false]
  refine f8_s fun w2 c2 => ?_
  try simp only [↓reduceIte, ↓LL, LM, Value.cells, Nat.reduceAdd, Option.some.injEq, exists_eq_left', decide_true, decide_false, if_true, if_false, reduceCtorEq, cond_true, cond_false]
  refine f9_s (rdL_b c2 h) fun va' ha' => ?_
  have hla : (l.take 80).length ≤ 80 := by rw [List.length_take]; omega
  have hNa' : ∀ s ∈ l.take 80, s.length * 32 ≤ 140737488355328 := fun s hs => hN s (List.mem_of_mem_take hs)
  generalize l.take 80 = a' at *
  have g0 : ∀ a b : Value, (#[a, b] : Array Value)[0]? = some a := fun _ _ => rfl
  have g1 : ∀ a b : Value, (#[a, b] : Array Value)[1]? = some b := fun _ _ => rfl
  try simp only [↓reduceIte, ↓LL, LM, Value.cells, Nat.reduceAdd, Option.some.injEq, exists_eq_left', decide_true, decide_false, if_true, if_false, reduceCtorEq, cond_true, cond_false]
  refine f20_s ha' (by omega) hNa' (fun h7 w3 b3 => ?_) (fun h0 w3 u b3 ru => ?_)
  · have z7 : ¬ (7 : Int) = 0 := by decide
    have z0 : ((0 : Nat) : Int) = 0 := rfl
    try simp only [↓reduceIte, ↓LL, LM, Value.cells, Nat.reduceAdd, Option.some.injEq, exists_eq_left', decide_true, decide_false, if_true, if_false, reduceCtorEq, cond_true, cond_false, g0, g1, ne_eq, z7, z0]
    exact kk w3 (bt c2 b3)
  · try simp only [↓reduceIte, ↓LL, LM, Value.cells, Nat.reduceAdd, Option.some.injEq, exists_eq_left', decide_true, decide_false, if_true, if_false, reduceCtorEq, cond_true, cond_false, g0, g1, ne_eq]
    have hpm := srt_perm (le := leC c.toNat) a'
    have hlen := srt_len (le := leC c.toNat) a'
    have hcol := not_lacks h0
    have hcol2 : ∀ r ∈ srt (leC c.toNat) a', 0 ≤ c ∧ c < r.length := fun r hr => hcol r (hpm.mem_iff.1 hr)
    refine f20_s ru (by omega) (fun s hs => hNa' s (hpm.mem_iff.1 hs)) (fun h7 => ?_) (fun h0' w4 u4 b4 ru4 => ?_)
    · obtain ⟨r, hr, hl⟩ := List.any_eq_true.1 h7
      have := hcol2 r hr
      unfold lacksB at hl
      simp at hl; omega
    · rw [srt_srt (ordC c.toNat)] at ru4
      try simp only [↓reduceIte, ↓LL, LM, Value.cells, Nat.reduceAdd, Option.some.injEq, exists_eq_left', decide_true, decide_false, if_true, if_false, reduceCtorEq, cond_true, cond_false, g0, g1, ne_eq]
      exact ⟨_, f6_loop (V := w4) (rdL_b (bt b3 b4) ha') (rdL_b b4 ru) ru4 hpm (by omega) (fun r hr => by have := hNa' r hr; omega) hcol (srt_le (ordC c.toNat) a') (srt (leC c.toNat) a').length ((srt (leC c.toNat) a').length + 1) 0 w4 (by omega) (Nat.lt_succ_self _) (Below.refl _ _) fun w5 b5 => kk w5 (bt c2 (bt (bt b3 b4) b5))⟩
end
end Go.Proofs.Ytlmiimojgledpaa

namespace Go.Proofs.Ytlmiimojgledpaa
open Go.ChangeShapes Go.WideShapes Go.ChangeAt Go.RowKit
open Sh
def R6 : World → List Value → List Row × Int → Prop := fun W vs x => ∃ v, vs = [v, .int .i64 x.2] ∧ rdL W v x.1 ∧ (∀ r ∈ x.1, r.length * 32 ≤ 140737488355328)
def b6 : List Row × Int → Nat := fun x => 0
theorem oa6 : OpensA Try.prog [22, 3] (List Row × Int) R6 b6 := by
  refine OpensA.mono (oa_one op22 xsc22 (fun w cs a h => ⟨_, h.choose_spec.1⟩) (oa_one (op_int u3) xsc3 (fun w cs a h => ⟨_, h.1⟩) oa_nil)) ?_
  rintro W vs ⟨l, c, ⟨⟩⟩ ⟨v, r, rfl, ⟨v', hv, hr, hz⟩, v2, r2, rfl, h2, rfl⟩
  refine ⟨(l, c), ⟨v, by rw [one_cell h2.1], by rw [one_cell hv]; exact hr, hz⟩, Nat.zero_le _⟩
theorem law6 (W : World) (vs : List Value) (a : List Row × Int) (h : R6 W vs a) : Calls Try.prog 6 vs.toArray W (Rt fun v W' => v = .bool true ∧ Below W.heap.size W W') := by
  obtain ⟨v, rfl, h1, h2⟩ := h
  exact s6 _ _ _ _ (f6_s h1 h2 fun w' h => ⟨rfl, h⟩)
theorem own : ownKnob Try.prog.godebug = none := by kernel_rfl
set_option maxRecDepth 100000 in
theorem lifted6 (os : Os) (started : os.Started) (H : Type) (enc : TypeId × Value → H) :
    ReturnsInHanded {} Try.checked os 6 .any (Rows.relateSortSpec.pre6 enc Try.prog Try.f6 Rows.relateSortRow.domain false) (Rows.relateSortSpec.post enc Try.prog Try.f6 false true false false) := by
  refine law_from (C := Try.checked) (tb := 4) (R := R6) (b := b6) own started (by kernel_rfl) Try.func6
    (ChangeSpec.witness6 (enc := enc) (C := Try.checked) false ⟨#[], #[.slice none 0 0, .int .i64 0], []⟩ 8 (by kernel_rfl) (by kernel_rfl) (by kernel_rfl) (by kernel_rfl))
    rfl (by kernel_rfl) (by kernel_rfl) rfl Try.underlying4 (fun ds hd => ?_) ?_ law6
  · match ds, hd with
    | [d0, d1], _ => exact ⟨rfl, rfl, rfl⟩
  · show OpensA Try.prog Try.f6.params.toList _ R6 b6
    rw [Try.params6]; exact oa6
theorem relateSort_holds : Rows.RelateSortSaid :=
  OpenClaim.holds_of_wide 6 Try.f6 rfl rfl rfl rfl rfl rfl rfl ⟨rfl, rfl, rfl, rfl, rfl⟩ rfl rfl rfl rfl rfl (by kernel_rfl) Try.func6 (by kernel_rfl)
    (of_decide_eq_true (by kernel_rfl)) (by unfold Func.isWrapper; first | (rw [if_pos (by decide +kernel)]; kernel_rfl) | (rw [if_neg (by decide +kernel)]; exact ⟨rfl, rfl⟩))
    (fun os started H enc _ => lifted6 os started H enc)
#print axioms relateSort_holds
end Go.Proofs.Ytlmiimojgledpaa
