/- The call of RelateOne returns true for every input of bulk at most 1048576, and its arguments read behind it as they read before. -/
import Derived.Test.YtlmiimojgledpaaZ3
set_option linter.unusedVariables false
set_option linter.unusedSimpArgs false
set_option linter.unusedSectionVars false
set_option maxRecDepth 20000
namespace Go.Proofs.Ytlmiimojgledpaa
open Sh RowKit Go.MapKept Srt
def cutR (cols : List Int) (r : Row) : Row := cols.map fun c => colV c.toNat r
def lackC (cols : List Int) (r : Row) : Bool := cols.any fun c => lacksB c r
/-- rows made, apart from the one that is made now -/
def Dn (V w : World) (ys : List Value) (done : List Row) (cv : Value) : Prop := ys.length = done.length ∧ ∀ (j : Nat) (x : Value) (r : Row), ys[j]? = some x → done[j]? = some r → ownR V.heap.size w x r ∧ ∀ k, x.ownBlock = some k → cv.ownBlock ≠ some k
theorem ownR_blk {B : Nat} {w : World} {v : Value} {r : Row} (h : ownR B w v r) {k : Nat} (hk : v.ownBlock = some k) : B ≤ k ∧ k < w.heap.size ∧ ∃ cur, w.heap[k]? = some (.cells cur 31 (0, 0)) := ownE_blk h.1 k hk
theorem ownR_stay {B : Nat} {w w' : World} {v : Value} {r : Row} (h : ownR B w v r) (hb : ∀ k, v.ownBlock = some k → w'.heap[k]? = w.heap[k]?) : ownR B w' v r := ⟨ownE_stay h.1 hb, h.2⟩
section
variable {V W w w' : World} {Q : Value → World → Prop}
theorem f22_in {vl vc rv u : Value} {l : List Row} {cols : List Int} {i : Nat} {r : Row} {ys zs : List Value} {done : List Row} (hc : rdI .i64 V vc cols) (hr : rdR V rv r) (hcl : cols.length ≤ 1048576) (hyi : ys.length = i)
    {j3 : Value → Value → Value → Value → Value → M} : ∀ (d m k : Nat) (w : World) (cv : Value), k + d = cols.length → d < m → Below V.heap.size V w → ownV V.heap.size 33 w u (ys ++ cv :: zs) → Dn V w ys done cv → ownR V.heap.size w cv (cutR (cols.take k) r) → lackC (cols.take k) r = false →
    (lackC cols r = true → ∀ w', Below V.heap.size V w' → Q (.tuple #[.slice none 0 0, .int .i64 7]) w') →
    (lackC cols r = false → ∀ w' cv, Below V.heap.size V w' → ownV V.heap.size 33 w' u (ys ++ cv :: zs) → Dn V w' ys done cv → ownR V.heap.size w' cv (cutR cols r) → j3 vc u vl (.int .i64 (l.length : Nat)) (.int .i64 (i : Int)) w' Q) →
    itr (fun _ _ _ _ _ _ _ _ _ _ => bot) (f22_b4 j3) m vc u (.int .i64 (i : Int)) rv vl (.int .i64 (l.length : Nat)) (.int .i64 (i : Int)) vc (.int .i64 (cols.length : Nat)) (.int .i64 (k : Int)) w Q := by
  intro d
  induction d with
  | zero =>
    intro m k w cv hk hm hb ho hD hcv hla k7 kk
    obtain ⟨m, rfl⟩ : ∃ x, m = x + 1 := ⟨m - 1, by omega⟩
    show f22_b4 j3 _ _ _ _ _ _ _ _ _ _ _ w Q
    unfold f22_b4
    have cc : ¬ (k : Int) < (cols.length : Nat) := by omega
    rw [List.take_of_length_le (by omega)] at hcv hla
    try simp only [↓reduceIte, ↓LL, LM, Value.cells, Nat.reduceAdd, Option.some.injEq, exists_eq_left', decide_true, decide_false, if_true, if_false, reduceCtorEq, cond_true, cond_false, cc]
    exact kk hla w cv hb ho hD hcv
  | succ d ih =>
    intro m k w cv hk hm hb ho hD hcv hla k7 kk
    obtain ⟨m, rfl⟩ : ∃ x, m = x + 1 := ⟨m - 1, by omega⟩
    show f22_b4 j3 _ _ _ _ _ _ _ _ _ _ _ w Q
    unfold f22_b4
    have cc : (k : Int) < (cols.length : Nat) := by omega
    have hkc : k < cols.length := by omega
    have h3 : IntKind.i64.wrap ((k : Int) + 1) = ((k + 1 : Nat) : Int) := by rw [w64 (by omega) (by omega)]; rfl
    try simp only [↓reduceIte, ↓LL, LM, Value.cells, Nat.reduceAdd, Option.some.injEq, exists_eq_left', decide_true, decide_false, if_true, if_false, reduceCtorEq, cond_true, cond_false, cc]
    refine ia_ld (rdI_below hb hc) (by omega) (by omega) fun hh => ?_
    have ek : cols[((k : Nat) : Int).toNat] = cols[k] := by simp
    rw [ek]
    try simp only [↓reduceIte, ↓LL, LM, Value.cells, Nat.reduceAdd, Option.some.injEq, exists_eq_left', decide_true, decide_false, if_true, if_false, reduceCtorEq, cond_true, cond_false]
    refine f42_s (rdR_b hb hr) cols[k] ?_
    cases hlk : lacksB cols[k] r with
    | true =>
      try simp only [↓reduceIte, ↓LL, LM, Value.cells, Nat.reduceAdd, Option.some.injEq, exists_eq_left', decide_true, decide_false, if_true, if_false, reduceCtorEq, cond_true, cond_false]
      refine k7 ?_ w hb
      unfold lackC
      exact List.any_eq_true.2 ⟨_, List.getElem_mem hkc, hlk⟩
    | false =>
      have hcol : 0 ≤ cols[k] ∧ cols[k] < r.length := by
        unfold lacksB at hlk
        have := of_decide_eq_false hlk
        omega
      have hb := hb
      have bd : Below V.heap.size V (drw w) := hb.trans ⟨rfl, rfl, rfl, Nat.le_refl _, fun _ _ => rfl⟩
      have bw : Below w.heap.size w (drw w) := ⟨rfl, rfl, rfl, Nat.le_refl _, fun _ _ => rfl⟩
      have od := ownV_below ho bw
      have rdd : ownR V.heap.size (drw w) cv (cutR (cols.take k) r) := ownR_stay hcv (fun _ _ => rfl)
      have hix : i < (ys ++ cv :: zs).length := by simp; omega
      obtain ⟨gu, capu, hu, hub, huB, ⟨curu, hcu⟩, hcell⟩ := ownV_blk od (by simp)
      have hci := hcell i hix
      have hgi : (ys ++ cv :: zs)[i] = cv := by rw [List.getElem_append_right (by omega)]; simp [hyi]
      rw [hgi] at hci
      obtain ⟨da, hda, hiaa⟩ := val_col hr hcol
      have oka : okV (colV cols[k].toNat r) := okc hr (by omega)
      have hia : ∀ (K : Value → M) (w' : World) (Q : Value → World → Prop), ia 1 u (.int .i64 (i : Int)) K w' Q = K (.pointer (some ⟨gu, i, none⟩)) w' Q := fun K w' Q => by rw [hu]; exact ia_at hix
      try simp only [↓reduceIte, ↓LL, LM, Value.cells, Nat.reduceAdd, Option.some.injEq, exists_eq_left', decide_true, decide_false, if_true, if_false, reduceCtorEq, cond_true, cond_false, hia, hci, hiaa]
      refine ldn_at (hda _ bd) rfl ?_
      refine ⟨_, _, lit33_1 _ (drw w), ?_⟩
      have c1 := b_psh (drw w) (.cells (encV (colV cols[k].toNat r)).toArray 31)
      have rl := rd_lit1 (blk_psh_new (w := drw w) (o := .cells (encV (colV cols[k].toNat r)).toArray 31)) oka
      generalize psh (drw w) (.cells (encV (colV cols[k].toNat r)).toArray 31) = w1 at *
      have b1 := bt bd c1
      have o1 := ownV_below od c1
      have r1 : ownR V.heap.size w1 cv (cutR (cols.take k) r) := ownR_stay rdd (fun q hq => c1.block q (ownR_blk rdd hq).2.1)
      have kcell : w1.cell? ⟨gu, i, none⟩ = some cv := by
        have := cell_below c1 hci
        exact this
      show kp _ _ w1 Q
      rw [kp_e]
      refine ⟨by rw [Kld_e]; exact kcell, ?_⟩
      have hcut : (cutR (cols.take k) r).length ≤ k := by unfold cutR; rw [List.length_map, List.length_take]; omega
      refine ap_E (m := [colV cols[k].toNat r]) sl33 rfl (by decide) encV_len encV_one r1.1 (rd_eR rl) (by simp; unfold maxLen; omega) (by simp; omega) b1.size fun v2 w2 o2 g2 f2 => ?_
      have b12 : Below V.heap.size w1 w2 := (Below.refl _ _).grown g2 b1.size (fun q hq => (ownR_blk r1 hq).1)
      have b2 := b1.trans b12
      -- the row of heads stays
      have hgu1 : gu < w1.heap.size := (ownV_lt o1 gu hub).2.1
      have hne : cv.ownBlock ≠ some gu := fun e => by
        obtain ⟨_, _, cu, hcu1⟩ := ownR_blk r1 e
        obtain ⟨_, _, cu2, hcu2⟩ := ownV_lt o1 gu hub
        rw [hcu1] at hcu2; cases hcu2
      have o2u := ownV_stay o1 (w' := w2) (fun q hq => g2.block q (ownV_lt o1 q hq).2.1 (fun e => by rw [hub] at hq; cases hq; exact hne e.symm))
      have r2 : ownR V.heap.size w2 v2 (cutR (cols.take (k + 1)) r) := by
        refine ⟨?_, ?_⟩
        · have e : cutR (cols.take (k + 1)) r = cutR (cols.take k) r ++ [colV cols[k].toNat r] := by unfold cutR; rw [List.take_succ_eq_append_getElem hkc, List.map_append]; rfl
          rw [e]; exact o2
        · intro x hx
          unfold cutR at hx
          rw [List.take_succ_eq_append_getElem hkc, List.map_append] at hx
          rcases List.mem_append.1 hx with hx | hx
          · exact r1.2 x hx
          · rw [List.map_singleton, List.mem_singleton] at hx; rw [hx]; exact oka
      obtain ⟨pv, nv, cv', hv2⟩ := ownE_lenv r2
      try simp only [↓reduceIte, ↓LL, LM, Value.cells, Nat.reduceAdd, Option.some.injEq, exists_eq_left', decide_true, decide_false, if_true, if_false, reduceCtorEq, cond_true, cond_false]
      refine ia_stV o2u hix (by rw [hv2]; rfl) fun w3 g3 hg3 o3 u3 => ?_
      rw [hub] at hg3
      cases hg3
      have b3 : Below V.heap.size V w3 := b2.trans (u3.below huB)
      have eset : (ys ++ cv :: zs).set i v2 = ys ++ v2 :: zs := by rw [List.set_append_right _ _ (by omega), hyi, Nat.sub_self]; rfl
      rw [eset] at o3
      have r3 : ownR V.heap.size w3 v2 (cutR (cols.take (k + 1)) r) := ownR_stay r2 (fun q hq => u3.block q (fun e => by
        subst e
        obtain ⟨_, _, cu, hcu1⟩ := ownR_blk r2 hq
        obtain ⟨_, _, cu2, hcu2⟩ := ownV_lt o2u q hub
        rw [hcu1] at hcu2; cases hcu2))
      have D3 : Dn V w3 ys done v2 := by
        refine ⟨hD.1, fun j x s h1 h2 => ?_⟩
        obtain ⟨q1, q2⟩ := hD.2 j x s h1 h2
        have q1d : ownR V.heap.size (drw w) x s := ownR_stay q1 (fun _ _ => rfl)
        have q11 : ownR V.heap.size w1 x s := ownR_stay q1d (fun q hq => c1.block q (ownR_blk q1d hq).2.1)
        have q12 : ownR V.heap.size w2 x s := ownR_stay q11 (fun q hq => g2.block q (ownR_blk q11 hq).2.1 (fun e => q2 q hq e.symm))
        refine ⟨ownR_stay q12 (fun q hq => u3.block q (fun e => by
          subst e
          obtain ⟨_, _, cu, hcu1⟩ := ownR_blk q12 hq
          obtain ⟨_, _, cu2, hcu2⟩ := ownV_lt o2u q hub
          rw [hcu1] at hcu2; cases hcu2)), fun q hq e => ?_⟩
        rcases f2 with f2 | f2
        · rw [f2] at e; exact q2 q hq e
        · rw [f2] at e
          cases e
          have := (ownR_blk q11 hq).2.1
          omega
      have hla3 : lackC (cols.take (k + 1)) r = false := by
        unfold lackC at hla ⊢
        rw [List.take_succ_eq_append_getElem hkc, List.any_append, hla]
        simp [hlk]
      try simp only [↓reduceIte, ↓LL, LM, Value.cells, Nat.reduceAdd, Option.some.injEq, exists_eq_left', decide_true, decide_false, if_true, if_false, reduceCtorEq, cond_true, cond_false, h3]
      exact ih m (k + 1) w3 v2 (by omega) (by omega) b3 o3 D3 r3 hla3 k7 kk
theorem Dn_below {ys : List Value} {done : List Row} {cv : Value} (h : Dn V w ys done cv) (hb : Below w.heap.size w w') : Dn V w' ys done cv := by
  refine ⟨h.1, fun j x s h1 h2 => ?_⟩
  obtain ⟨q1, q2⟩ := h.2 j x s h1 h2
  exact ⟨ownR_stay q1 (fun q hq => hb.block q (ownR_blk q1 hq).2.1), q2⟩
theorem Dn_snoc {ys : List Value} {done : List Row} {cv : Value} {cur : Row} (h : Dn V w ys done cv) (hc : ownR V.heap.size w cv cur) : Dn V w (ys ++ [cv]) (done ++ [cur]) (.slice none 0 0) := by
  refine ⟨by simp [h.1], fun j x s h1 h2 => ?_⟩
  rw [List.getElem?_append] at h1 h2
  split at h1
  · rename_i hj
    rw [if_pos (by rw [← h.1]; exact hj)] at h2
    exact ⟨(h.2 j x s h1 h2).1, fun k _ e => by cases e⟩
  · rename_i hj
    rw [if_neg (by rw [← h.1]; exact hj)] at h2
    have h0 : j - ys.length = 0 := by
      rcases Nat.eq_zero_or_pos (j - ys.length) with c | c
      · exact c
      · rw [List.getElem?_eq_none (by simp; omega)] at h1; cases h1
    rw [h0] at h1
    rw [← h.1, h0] at h2
    cases h1; cases h2
    exact ⟨hc, fun k _ e => by cases e⟩
theorem Dn_rd {ys : List Value} {done : List Row} {cv u : Value} (ho : ownV V.heap.size 33 w u ys) (h : Dn V w ys done cv) (hb : Below V.heap.size V w) : rdL w u done := by
  have : OL V w u done := ⟨ys, ho, h.1, fun i x r h1 h2 => .inr (h.2 i x r h1 h2).1⟩
  exact this.rd hb
theorem f22_out {vl vc u : Value} {l : List Row} {cols : List Int} (h : rdL V vl l) (hc : rdI .i64 V vc cols) (hcl : cols.length ≤ 1048576) (hll : l.length ≤ 1000) :
    ∀ (d m i : Nat) (w : World) (ys : List Value), i + d = l.length → d < m → Below V.heap.size V w → ys.length = i → ownV V.heap.size 33 w u (ys ++ List.replicate (l.length - i) (.slice none 0 0)) → Dn V w ys ((l.take i).map (cutR cols)) (.slice none 0 0) → (l.take i).any (lackC cols) = false →
    (l.any (lackC cols) = true → ∀ w', Below V.heap.size V w' → Q (.tuple #[.slice none 0 0, .int .i64 7]) w') →
    (l.any (lackC cols) = false → ∀ w', Below V.heap.size V w' → rdL w' u (l.map (cutR cols)) → Q (.tuple #[u, .int .i64 0]) w') →
    itr (fun _ _ _ _ _ => bot) (f22_b2 f22_j1) m vc u vl (.int .i64 (l.length : Nat)) (.int .i64 (i : Int)) w Q := by
  intro d
  induction d with
  | zero =>
    intro m i w ys hi hm hb hy ho hD hla k7 k0
    obtain ⟨m, rfl⟩ : ∃ x, m = x + 1 := ⟨m - 1, by omega⟩
    show f22_b2 f22_j1 _ _ _ _ _ _ w Q
    unfold f22_b2
    have cc : ¬ (i : Int) < (l.length : Nat) := by omega
    rw [List.take_of_length_le (by omega)] at hD hla
    try simp only [↓reduceIte, ↓LL, LM, Value.cells, Nat.reduceAdd, Option.some.injEq, exists_eq_left', decide_true, decide_false, if_true, if_false, reduceCtorEq, cond_true, cond_false, cc]
    unfold f22_j1
    try simp only [↓reduceIte, ↓LL, LM, Value.cells, Nat.reduceAdd, Option.some.injEq, exists_eq_left', decide_true, decide_false, if_true, if_false, reduceCtorEq, cond_true, cond_false]
    rw [show l.length - i = 0 from by omega, List.replicate_zero, List.append_nil] at ho
    exact k0 hla w hb (Dn_rd ho hD hb)
  | succ d ih =>
    intro m i w ys hi hm hb hy ho hD hla k7 k0
    obtain ⟨m, rfl⟩ : ∃ x, m = x + 1 := ⟨m - 1, by omega⟩
    show f22_b2 f22_j1 _ _ _ _ _ _ w Q
    unfold f22_b2
    have cc : (i : Int) < (l.length : Nat) := by omega
    have hil : i < l.length := by omega
    obtain ⟨ad, rv, hr, hcc, hia⟩ := row_at h hil
    have h3 : IntKind.i64.wrap ((i : Int) + 1) = ((i + 1 : Nat) : Int) := by rw [w64 (by omega) (by omega)]; rfl
    have hrep : List.replicate (l.length - i) (Value.slice none 0 0) = .slice none 0 0 :: List.replicate (l.length - (i + 1)) (.slice none 0 0) := by
      rw [show l.length - i = (l.length - (i + 1)) + 1 from by omega, List.replicate_succ]
    rw [hrep] at ho
    obtain ⟨pc, cc', hcv⟩ : ∃ p c, vc = .slice p cols.length c := by obtain ⟨p, c, e, _⟩ := hc; exact ⟨p, c, e⟩
    have hcw := hcc w hb
    try simp only [↓reduceIte, ↓LL, LM, Value.cells, Nat.reduceAdd, Option.some.injEq, exists_eq_left', decide_true, decide_false, if_true, if_false, reduceCtorEq, cond_true, cond_false, cc, hia, hcw]
    refine lnl_rd hc ?_
    try simp only [↓reduceIte, ↓LL, LM, Value.cells, Nat.reduceAdd, Option.some.injEq, exists_eq_left', decide_true, decide_false, if_true, if_false, reduceCtorEq, cond_true, cond_false]
    refine ⟨_, f22_in (Q := Q) (l := l) hc hr hcl hy (j3 := f22_j3 (itr (fun _ _ _ _ _ => bot) (f22_b2 f22_j1) m)) cols.length (cols.length + 1) 0 w (.slice none 0 0) (by omega) (by omega) hb ho hD ⟨ownE_nil, by simp [cutR]⟩ (by simp [lackC]) (fun hl w1 b1 => k7 (List.any_eq_true.2 ⟨_, List.getElem_mem hil, hl⟩) w1 b1) fun hl w1 cv b1 o1 D1 r1 => ?_⟩
    unfold f22_j3
    try simp only [↓reduceIte, ↓LL, LM, Value.cells, Nat.reduceAdd, Option.some.injEq, exists_eq_left', decide_true, decide_false, if_true, if_false, reduceCtorEq, cond_true, cond_false, h3]
    refine ih m (i + 1) w1 (ys ++ [cv]) (by omega) (by omega) b1 (by simp [hy]) (by simpa using o1) ?_ ?_ k7 k0
    · rw [List.take_succ_eq_append_getElem hil, List.map_append]
      exact Dn_snoc D1 r1
    · rw [List.take_succ_eq_append_getElem hil, List.any_append, hla]
      simp [hl]
theorem f22_s {vl vc : Value} {l : List Row} {cols : List Int} (h : rdL w vl l) (hc : rdI .i64 w vc cols) (hcl : cols.length ≤ 1048576) (hll : l.length ≤ 1000)
    (k7 : l.any (lackC cols) = true → ∀ w', Below w.heap.size w w' → Q (.tuple #[.slice none 0 0, .int .i64 7]) w')
    (k0 : l.any (lackC cols) = false → ∀ w' u, Below w.heap.size w w' → rdL w' u (l.map (cutR cols)) → Q (.tuple #[u, .int .i64 0]) w') : f22 vl vc w Q := by
  unfold f22
  try simp only [↓reduceIte, ↓LL, LM, Value.cells, Nat.reduceAdd, Option.some.injEq, exists_eq_left', decide_true, decide_false, if_true, if_false, reduceCtorEq, cond_true, cond_false, lnl_L h]
  refine mkE (enc := encSl) (x := (none, 0, 0)) (B := w.heap.size) sl22 (c := .slice none 0 0) rfl (by decide) rfl (by omega) (by omega) (Nat.le_refl _) fun w1 v1 _ o1 b1 => ?_
  have o1' : ownV w.heap.size 33 w1 v1 (List.replicate l.length (.slice none 0 0)) := by
    have e : (List.replicate l.length ((none, 0, 0) : SV)).flatMap encSl = List.replicate l.length (.slice none 0 0) := by
      rw [List.flatMap_replicate]
      show (List.replicate l.length (List.replicate 1 (Value.slice none 0 0))).flatten = _
      rw [List.flatten_replicate_replicate, Nat.mul_one]
    unfold ownE at o1
    rw [e] at o1
    unfold ownV
    simpa using o1
  try simp only [↓reduceIte, ↓LL, LM, Value.cells, Nat.reduceAdd, Option.some.injEq, exists_eq_left', decide_true, decide_false, if_true, if_false, reduceCtorEq, cond_true, cond_false, lnl_L h]
  exact ⟨_, f22_out (V := w) h hc hcl hll l.length (l.length + 1) 0 w1 [] (by omega) (by omega) b1 rfl (by simpa using o1') ⟨rfl, fun j x r h1 => by simp at h1⟩ (by simp) k7 fun hl w2 b2 r2 => k0 hl w2 v1 b2 r2⟩
end
end Go.Proofs.Ytlmiimojgledpaa

set_option maxRecDepth 20000
set_option maxHeartbeats 4000000
namespace Go.Proofs.Ytlmiimojgledpaa
open Sh RowKit Go.MapKept Srt
section
variable {V W w w' : World} {Q : Value → World → Prop}
theorem f23_in {vl vc u : Value} {l : List Row} {cols : List Int} {i : Nat} {ys : List Value} {done : List Row} (h : rdL V vl l) (hc : rdI .i64 V vc cols) (hi : i < l.length) (hcl : cols.length ≤ 1048576)
    {j3 : Value → Value → Value → Value → Value → M} : ∀ (d m k : Nat) (w : World) (cv : Value), k + d = cols.length → d < m → Below V.heap.size V w → ownV V.heap.size 33 w u ys → Dn V w ys done cv → ownR V.heap.size w cv (cutR (cols.take k) l[i]) → lackC (cols.take k) l[i] = false →
    (lackC cols l[i] = true → ∀ w', Below V.heap.size V w' → Q (.tuple #[.slice none 0 0, .int .i64 7]) w') →
    (lackC cols l[i] = false → ∀ w' cv, Below V.heap.size V w' → ownV V.heap.size 33 w' u ys → Dn V w' ys done cv → ownR V.heap.size w' cv (cutR cols l[i]) → j3 vl vc u (.int .i64 (i : Int)) cv w' Q) →
    itr (fun _ _ _ _ _ _ => bot) (f23_b4 j3) m vl vc u (.int .i64 (i : Int)) cv (.int .i64 (k : Int)) w Q := by
  intro d
  induction d with
  | zero =>
    intro m k w cv hk hm hb ho hD hcv hla k7 kk
    obtain ⟨m, rfl⟩ : ∃ x, m = x + 1 := ⟨m - 1, by omega⟩
    show f23_b4 j3 _ _ _ _ _ _ _ w Q
    unfold f23_b4
    have cc : ¬ (k : Int) < (cols.length : Nat) := by omega
    rw [List.take_of_length_le (by omega)] at hcv hla
    refine lnl_rd hc ?_
    try simp only [↓reduceIte, ↓LL, LM, Value.cells, Nat.reduceAdd, Option.some.injEq, exists_eq_left', decide_true, decide_false, if_true, if_false, reduceCtorEq, cond_true, cond_false, cc]
    exact kk hla w cv hb ho hD hcv
  | succ d ih =>
    intro m k w cv hk hm hb ho hD hcv hla k7 kk
    obtain ⟨m, rfl⟩ : ∃ x, m = x + 1 := ⟨m - 1, by omega⟩
    show f23_b4 j3 _ _ _ _ _ _ _ w Q
    unfold f23_b4
    have cc : (k : Int) < (cols.length : Nat) := by omega
    have hkc : k < cols.length := by omega
    have h3 : IntKind.i64.wrap ((k : Int) + 1) = ((k + 1 : Nat) : Int) := by rw [w64 (by omega) (by omega)]; rfl
    have ek : ∀ hh : ((k : Nat) : Int).toNat < cols.length, cols[((k : Nat) : Int).toNat] = cols[k] := fun _ => by simp
    have bd : Below V.heap.size V (drw w) := hb.trans ⟨rfl, rfl, rfl, Nat.le_refl _, fun _ _ => rfl⟩
    have hcd := rdI_below bd hc
    obtain ⟨ad, rv, hr, hcc, hia⟩ := row_at h hi
    have qr := hcc _ bd
    refine lnl_rd hc ?_
    try simp only [↓reduceIte, ↓LL, LM, Value.cells, Nat.reduceAdd, Option.some.injEq, exists_eq_left', decide_true, decide_false, if_true, if_false, reduceCtorEq, cond_true, cond_false, cc]
    refine ia_ld hcd (by omega) (by omega) fun hh => ?_
    rw [ek]
    by_cases c0 : cols[k] < 0
    · try simp only [↓reduceIte, ↓LL, LM, Value.cells, Nat.reduceAdd, Option.some.injEq, exists_eq_left', decide_true, decide_false, if_true, if_false, reduceCtorEq, cond_true, cond_false, c0]
      refine k7 (List.any_eq_true.2 ⟨_, List.getElem_mem hkc, decide_eq_true (.inl c0)⟩) _ bd
    try simp only [↓reduceIte, ↓LL, LM, Value.cells, Nat.reduceAdd, Option.some.injEq, exists_eq_left', decide_true, decide_false, if_true, if_false, reduceCtorEq, cond_true, cond_false, c0]
    refine ia_ld hcd (by omega) (by omega) fun hh => ?_
    rw [ek]
    try simp only [↓reduceIte, ↓LL, LM, Value.cells, Nat.reduceAdd, Option.some.injEq, exists_eq_left', decide_true, decide_false, if_true, if_false, reduceCtorEq, cond_true, cond_false, hia, qr, lnl_R hr]
    by_cases c1 : ((l[i].length : Nat) : Int) ≤ cols[k]
    · try simp only [↓reduceIte, ↓LL, LM, Value.cells, Nat.reduceAdd, Option.some.injEq, exists_eq_left', decide_true, decide_false, if_true, if_false, reduceCtorEq, cond_true, cond_false, c1]
      refine k7 (List.any_eq_true.2 ⟨_, List.getElem_mem hkc, decide_eq_true (.inr c1)⟩) _ bd
    have hlk : lacksB cols[k] l[i] = false := decide_eq_false (by omega)
    have hcol : 0 ≤ cols[k] ∧ cols[k] < l[i].length := by omega
    obtain ⟨da, hda, hiaa⟩ := val_col hr hcol
    have oka : okV (colV cols[k].toNat l[i]) := okc hr (by omega)
    have bdd : Below V.heap.size V (drw (drw w)) := bd.trans ⟨rfl, rfl, rfl, Nat.le_refl _, fun _ _ => rfl⟩
    have bw : Below w.heap.size w (drw (drw w)) := ⟨rfl, rfl, rfl, Nat.le_refl _, fun _ _ => rfl⟩
    have hcdd := rdI_below bdd hc
    have qrd := hcc _ bdd
    have od := ownV_below ho bw
    have Dd := Dn_below hD bw
    have rdd : ownR V.heap.size (drw (drw w)) cv (cutR (cols.take k) l[i]) := ownR_stay hcv (fun _ _ => rfl)
    try simp only [↓reduceIte, ↓LL, LM, Value.cells, Nat.reduceAdd, Option.some.injEq, exists_eq_left', decide_true, decide_false, if_true, if_false, reduceCtorEq, cond_true, cond_false, c1, hia, qrd]
    generalize drw (drw w) = wd at *
    refine ia_ld hcdd (by omega) (by omega) fun hh => ?_
    rw [ek]
    try simp only [↓reduceIte, ↓LL, LM, Value.cells, Nat.reduceAdd, Option.some.injEq, exists_eq_left', decide_true, decide_false, if_true, if_false, reduceCtorEq, cond_true, cond_false, hiaa]
    refine ldn_at (hda _ bdd) rfl ?_
    refine ⟨_, _, lit33_1 _ wd, ?_⟩
    have c1 := b_psh wd (.cells (encV (colV cols[k].toNat l[i])).toArray 31)
    have rl := rd_lit1 (blk_psh_new (w := wd) (o := .cells (encV (colV cols[k].toNat l[i])).toArray 31)) oka
    generalize psh wd (.cells (encV (colV cols[k].toNat l[i])).toArray 31) = w1 at *
    have b1 := bt bdd c1
    have o1 := ownV_below od c1
    have D1 := Dn_below Dd c1
    have r1 : ownR V.heap.size w1 cv (cutR (cols.take k) l[i]) := ownR_stay rdd (fun q hq => c1.block q (ownR_blk rdd hq).2.1)
    have hcut : (cutR (cols.take k) l[i]).length ≤ k := by unfold cutR; rw [List.length_map, List.length_take]; omega
    refine ap_E (m := [colV cols[k].toNat l[i]]) sl33 rfl (by decide) encV_len encV_one r1.1 (rd_eR rl) (by simp; unfold maxLen; omega) (by simp; omega) b1.size fun v2 w2 o2 g2 f2 => ?_
    have b12 : Below V.heap.size w1 w2 := (Below.refl _ _).grown g2 b1.size (fun q hq => (ownR_blk r1 hq).1)
    have b2 := b1.trans b12
    have o2u := ownV_stay o1 (w' := w2) (fun q hq => g2.block q (ownV_lt o1 q hq).2.1 (fun e => by
      obtain ⟨_, _, cu, hcu1⟩ := ownR_blk r1 e.symm
      obtain ⟨_, _, cu2, hcu2⟩ := ownV_lt o1 q hq
      rw [hcu1] at hcu2; cases hcu2))
    have r2 : ownR V.heap.size w2 v2 (cutR (cols.take (k + 1)) l[i]) := by
      refine ⟨?_, ?_⟩
      · have e : cutR (cols.take (k + 1)) l[i] = cutR (cols.take k) l[i] ++ [colV cols[k].toNat l[i]] := by unfold cutR; rw [List.take_succ_eq_append_getElem hkc, List.map_append]; rfl
        rw [e]; exact o2
      · intro x hx
        unfold cutR at hx
        rw [List.take_succ_eq_append_getElem hkc, List.map_append] at hx
        rcases List.mem_append.1 hx with hx | hx
        · exact r1.2 x hx
        · rw [List.map_singleton, List.mem_singleton] at hx; rw [hx]; exact oka
    have D2 : Dn V w2 ys done v2 := by
      refine ⟨D1.1, fun j x s h1 h2 => ?_⟩
      obtain ⟨q1, q2⟩ := D1.2 j x s h1 h2
      refine ⟨ownR_stay q1 (fun q hq => g2.block q (ownR_blk q1 hq).2.1 (fun e => q2 q hq e.symm)), fun q hq e => ?_⟩
      rcases f2 with f2 | f2
      · rw [f2] at e; exact q2 q hq e
      · rw [f2] at e
        cases e
        have := (ownR_blk q1 hq).2.1
        omega
    have hla3 : lackC (cols.take (k + 1)) l[i] = false := by
      unfold lackC at hla ⊢
      rw [List.take_succ_eq_append_getElem hkc, List.any_append, hla]
      simp [hlk]
    try simp only [↓reduceIte, ↓LL, LM, Value.cells, Nat.reduceAdd, Option.some.injEq, exists_eq_left', decide_true, decide_false, if_true, if_false, reduceCtorEq, cond_true, cond_false, h3]
    exact ih m (k + 1) w2 v2 (by omega) (by omega) b2 o2u D2 r2 hla3 k7 kk
theorem f23_out {vl vc : Value} {l : List Row} {cols : List Int} (h : rdL V vl l) (hc : rdI .i64 V vc cols) (hcl : cols.length ≤ 1048576) (hll : l.length ≤ 1000) :
    ∀ (d m i : Nat) (w : World) (u : Value) (ys : List Value), i + d = l.length → d < m → Below V.heap.size V w → ys.length = i → ownV V.heap.size 33 w u ys → Dn V w ys ((l.take i).map (cutR cols)) (.slice none 0 0) → (l.take i).any (lackC cols) = false →
    (l.any (lackC cols) = true → ∀ w', Below V.heap.size V w' → Q (.tuple #[.slice none 0 0, .int .i64 7]) w') →
    (l.any (lackC cols) = false → ∀ w' u, Below V.heap.size V w' → rdL w' u (l.map (cutR cols)) → Q (.tuple #[u, .int .i64 0]) w') →
    itr (fun _ _ _ _ => bot) (f23_b2 f23_j1) m vl vc u (.int .i64 (i : Int)) w Q := by
  intro d
  induction d with
  | zero =>
    intro m i w u ys hi hm hb hy ho hD hla k7 k0
    obtain ⟨m, rfl⟩ : ∃ x, m = x + 1 := ⟨m - 1, by omega⟩
    show f23_b2 f23_j1 _ _ _ _ _ w Q
    unfold f23_b2
    have cc : ¬ (i : Int) < (l.length : Nat) := by omega
    rw [List.take_of_length_le (by omega)] at hD hla
    try simp only [↓reduceIte, ↓LL, LM, Value.cells, Nat.reduceAdd, Option.some.injEq, exists_eq_left', decide_true, decide_false, if_true, if_false, reduceCtorEq, cond_true, cond_false, lnl_L h, cc]
    unfold f23_j1
    try simp only [↓reduceIte, ↓LL, LM, Value.cells, Nat.reduceAdd, Option.some.injEq, exists_eq_left', decide_true, decide_false, if_true, if_false, reduceCtorEq, cond_true, cond_false]
    exact k0 hla w u hb (Dn_rd ho hD hb)
  | succ d ih =>
    intro m i w u ys hi hm hb hy ho hD hla k7 k0
    obtain ⟨m, rfl⟩ : ∃ x, m = x + 1 := ⟨m - 1, by omega⟩
    show f23_b2 f23_j1 _ _ _ _ _ w Q
    unfold f23_b2
    have cc : (i : Int) < (l.length : Nat) := by omega
    have hil : i < l.length := by omega
    have h3 : IntKind.i64.wrap ((i : Int) + 1) = ((i + 1 : Nat) : Int) := by rw [w64 (by omega) (by omega)]; rfl
    try simp only [↓reduceIte, ↓LL, LM, Value.cells, Nat.reduceAdd, Option.some.injEq, exists_eq_left', decide_true, decide_false, if_true, if_false, reduceCtorEq, cond_true, cond_false, lnl_L h, cc]
    refine ⟨_, f23_in (Q := Q) h hc hil hcl (j3 := f23_j3 (itr (fun _ _ _ _ => bot) (f23_b2 f23_j1) m)) cols.length (cols.length + 1) 0 w (.slice none 0 0) (by omega) (by omega) hb ho hD ⟨ownE_nil, by simp [cutR]⟩ (by simp [lackC]) (fun hl w1 b1 => k7 (List.any_eq_true.2 ⟨_, List.getElem_mem hil, hl⟩) w1 b1) fun hl w1 cv b1 o1 D1 r1 => ?_⟩
    unfold f23_j3
    have D2 := Dn_snoc D1 r1
    obtain ⟨pv, nv, cv', rfl⟩ := ownE_lenv r1
    refine ap_V (x := .slice pv nv cv') sl22 rfl rfl rfl o1 (by unfold maxLen; omega) (by omega) b1.size fun v' w2 o2 hf hsz hos hown => ?_
    have b2 : Below V.heap.size V w2 := b1.trans ⟨hos.1, hos.2.1, hos.2.2, hsz, fun k hk => hf k (Nat.lt_of_lt_of_le hk b1.size) (fun e => by have := (ownV_lt o1 k e).1; omega)⟩
    try simp only [↓reduceIte, ↓LL, LM, Value.cells, Nat.reduceAdd, Option.some.injEq, exists_eq_left', decide_true, decide_false, if_true, if_false, reduceCtorEq, cond_true, cond_false, h3]
    refine ih m (i + 1) w2 v' (ys ++ [.slice pv nv cv']) (by omega) (by omega) b2 (by simp [hy]) o2 ?_ ?_ k7 k0
    · rw [List.take_succ_eq_append_getElem hil, List.map_append]
      refine ⟨D2.1, fun j x s h1 h2 => ?_⟩
      obtain ⟨q1, q2⟩ := D2.2 j x s h1 h2
      refine ⟨ownR_stay q1 (fun q hq => hf q (ownR_blk q1 hq).2.1 (fun e => ?_)), q2⟩
      obtain ⟨_, _, cu, hcu1⟩ := ownR_blk q1 hq
      obtain ⟨_, _, cu2, hcu2⟩ := ownV_lt o1 q e
      rw [hcu1] at hcu2; cases hcu2
    · rw [List.take_succ_eq_append_getElem hil, List.any_append, hla]
      simp [hl]
theorem f23_s {vl vc : Value} {l : List Row} {cols : List Int} (h : rdL w vl l) (hc : rdI .i64 w vc cols) (hcl : cols.length ≤ 1048576) (hll : l.length ≤ 1000)
    (k7 : l.any (lackC cols) = true → ∀ w', Below w.heap.size w w' → Q (.tuple #[.slice none 0 0, .int .i64 7]) w')
    (k0 : l.any (lackC cols) = false → ∀ w' u, Below w.heap.size w w' → rdL w' u (l.map (cutR cols)) → Q (.tuple #[u, .int .i64 0]) w') : f23 vl vc w Q := by
  unfold f23
  try simp only [↓reduceIte, ↓LL, LM, Value.cells, Nat.reduceAdd, Option.some.injEq, exists_eq_left', decide_true, decide_false, if_true, if_false, reduceCtorEq, cond_true, cond_false]
  exact ⟨_, f23_out (V := w) h hc hcl hll l.length (l.length + 1) 0 w _ [] (by omega) (by omega) (Below.refl _ _) rfl ownV_nil ⟨rfl, fun j x r h1 => by simp at h1⟩ (by simp) k7 k0⟩
end
end Go.Proofs.Ytlmiimojgledpaa

set_option maxRecDepth 20000
set_option maxHeartbeats 4000000
namespace Go.Proofs.Ytlmiimojgledpaa
open Sh RowKit Go.MapKept Srt
def f21_2 (j3 : Value → Value → Value → Value → Value → Value → M) (t0_1 t1_1 t2_1 t3_1 t10 t11 t12 t40 : Value) : M :=
  gd t40 false (idv t3_1) fun t41 => gd t40 false (lnl t41) fun t42 => gd t40 false (gt .i64 t42 (.int .i64 0)) fun t43 => gd t40 false (idv t43) fun t44 =>
  gd t44 true (ldn 3 t12) fun t45 => gd t44 true (idv t3_1) fun t46 => gd t44 true (ia 3 t46 (.int .i64 0)) fun t47 => gd t44 true (ldn 3 t47) fun t48 =>
  gd t44 true (cl (f41 t45 t48)) fun t49 => gd t44 true (nt t49) fun t50 => gd t40 false (pk t44 t50 (.bool false)) fun t51 => pk t40 (.bool true) t51 fun t52 =>
  cnd t52 (
    j3 t0_1 t1_1 t2_1 t3_1 t10 t11
    ) (
    ia 1 t0_1 t11 fun t56 =>
    ld t56 fun t57 =>
    sm Try.prog (Instr.buildSlice 22 1 #[(0, t57)]) fun t58 =>
    sm Try.prog (Builtin.append_ #[22, 22] 22 #[t10, t58]) fun t59 =>
    j3 t0_1 t1_1 t2_1 t3_1 t59 t11
    )
theorem f21_eq (j1 : Value → M) (self2 : Value → Value → Value → Value → Value → Value → M) (t0_1 t1_1 t2_1 t3_1 t10 t11 : Value) : f21_b2 j1 self2 t0_1 t1_1 t2_1 t3_1 t10 t11 = (lnl t0_1 fun t19 =>
  lt .i64 t11 t19 fun t20 =>
  cnd t20 (
    jn (fun (j3 : Value → Value → Value → Value → Value → Value → M) =>
      ia 1 t0_1 t11 fun t25 =>
      ld t25 fun t26 =>
      ia 3 t26 t1_1 fun t28 =>
      ldn 3 t28 fun t29 =>
      al 31 #[(.int .i64 0), (.int .i64 0), (.string ⟨#[]⟩)] fun t12 =>
      stn 3 t12 t29 <|
      dr <|
      idv t2_1 fun t30 =>
      lnl t30 fun t31 =>
      gt .i64 t31 (.int .i64 0) fun t32 =>
      idv t32 fun t33 =>
      gd t33 true (ldn 3 t12) fun t34 =>
      gd t33 true (idv t2_1) fun t35 =>
      gd t33 true (ia 3 t35 (.int .i64 0)) fun t36 =>
      gd t33 true (ldn 3 t36) fun t37 =>
      gd t33 true (cl (f41 t34 t37)) fun t38 =>
      pk t33 t38 (.bool false) fun t39 =>
      idv t39 fun t40 => f21_2 j3 t0_1 t1_1 t2_1 t3_1 t10 t11 t12 t40) (f21_j3 self2)
    ) (
    j1 t10
    )) := rfl
section
variable {V W w w' : World} {Q : Value → World → Prop}
theorem loB_l {lo : List Val} {x v : Val} : loB (x :: lo) v = !decide (ltV v x) := by
  rw [loB_cons, Bool.eq_iff_iff, decide_eq_true_iff, Bool.not_eq_true', decide_eq_false_iff_not, ← cmpV_neg]; omega
theorem hiB_l {hi : List Val} {x v : Val} : hiB (x :: hi) v = decide (ltV v x) := by
  rw [hiB_cons, Bool.eq_iff_iff, decide_eq_true_iff, decide_eq_true_iff, cmpV_neg]
/-- the upper bound -/
theorem f21_2s {vl lov hiv u tc : Value} {hi : Row} {v : Val} {g i : Nat} {j3 : Value → Value → Value → Value → Value → Value → M} (hhi : rdR V hiv hi) (okv : okV v) (hbw : Below V.heap.size V w) (hg : w.heap[g]? = some (.cells (encV v).toArray 31 (0, 0))) (b : Bool)
    (k1 : (b || !hiB hi v) = true → ∀ w', Below w.heap.size w w' → j3 vl tc lov hiv u (.int .i64 (i : Int)) w' Q)
    (k0 : (b || !hiB hi v) = false → ∀ w', Below w.heap.size w w' → (ia 1 vl (.int .i64 (i : Int)) fun t56 => ld t56 fun t57 => sm Try.prog (Instr.buildSlice 22 1 #[(0, t57)]) fun t58 => sm Try.prog (Builtin.append_ #[22, 22] 22 #[u, t58]) fun t59 => j3 vl tc lov hiv t59 (.int .i64 (i : Int))) w' Q) :
    f21_2 j3 vl tc lov hiv u (.int .i64 (i : Int)) (.pointer (some ⟨g, 0, none⟩)) (.bool b) w Q := by
  unfold f21_2
  cases b with
  | true =>
    try simp only [↓reduceIte, ↓LL, LM, Value.cells, Nat.reduceAdd, Option.some.injEq, exists_eq_left', decide_true, decide_false, if_true, if_false, reduceCtorEq, cond_true, cond_false]
    exact k1 rfl w (Below.refl _ _)
  | false =>
    cases hi with
    | nil =>
      have l0 : (([] : Row).length : Int) = 0 := rfl
      have c0 : ¬ (0 : Int) < 0 := by decide
      try simp only [↓reduceIte, ↓LL, LM, Value.cells, Nat.reduceAdd, Option.some.injEq, exists_eq_left', decide_true, decide_false, if_true, if_false, reduceCtorEq, cond_true, cond_false, lnl_R hhi, l0, c0]
      exact k0 (by rw [hiB_nil]; rfl) w (Below.refl _ _)
    | cons x hi =>
      have l0 : (0 : Int) < (((x :: hi : Row).length : Nat) : Int) := by simp; try omega
      obtain ⟨adh, hokh, hch, hiah⟩ := val_at hhi (i := 0) (by simp)
      have ih : ∀ (K : Value → M) (w' : World), ia 3 hiv (.int .i64 0) K w' Q = K (.pointer (some adh)) w' Q := fun K w' => hiah .i64 K w' Q
      try simp only [↓reduceIte, ↓LL, LM, Value.cells, Nat.reduceAdd, Option.some.injEq, exists_eq_left', decide_true, decide_false, if_true, if_false, reduceCtorEq, cond_true, cond_false, lnl_R hhi, l0]
      refine ldn_box hg rfl ?_
      try simp only [↓reduceIte, ↓LL, LM, Value.cells, Nat.reduceAdd, Option.some.injEq, exists_eq_left', decide_true, decide_false, if_true, if_false, reduceCtorEq, cond_true, cond_false, ih]
      refine ldn_at (hch _ hbw) rfl ?_
      try simp only [↓reduceIte, ↓LL, LM, Value.cells, Nat.reduceAdd, Option.some.injEq, exists_eq_left', decide_true, decide_false, if_true, if_false, reduceCtorEq, cond_true, cond_false]
      refine f41_s okv hokh fun w1 b1 => ?_
      try simp only [↓reduceIte, ↓LL, LM, Value.cells, Nat.reduceAdd, Option.some.injEq, exists_eq_left', decide_true, decide_false, if_true, if_false, reduceCtorEq, cond_true, cond_false, List.getElem_cons_zero]
      rw [hiB_l] at k1 k0
      by_cases h : ltV v x
      · try simp only [↓reduceIte, ↓LL, LM, Value.cells, Nat.reduceAdd, Option.some.injEq, exists_eq_left', decide_true, decide_false, if_true, if_false, reduceCtorEq, cond_true, cond_false, h]
        exact k0 (by simp [h]) w1 b1
      · try simp only [↓reduceIte, ↓LL, LM, Value.cells, Nat.reduceAdd, Option.some.injEq, exists_eq_left', decide_true, decide_false, if_true, if_false, reduceCtorEq, cond_true, cond_false, h]
        exact k1 (by simp [h]) w1 b1
theorem f21_loop {vl lov hiv : Value} {l : List Row} {lo hi : Row} {c : Int} (h : rdL V vl l) (hlo : rdR V lov lo) (hhi : rdR V hiv hi) (hcol : ∀ r ∈ l, 0 ≤ c ∧ c < r.length) (hl : l.length ≤ 1000) :
    ∀ (d m i : Nat) (w : World) (u : Value), i + d = l.length → d < m → Below V.heap.size V w → OL V w u ((l.take i).filter (whB lo hi c.toNat)) →
    (∀ w' u', Below V.heap.size V w' → OL V w' u' (l.filter (whB lo hi c.toNat)) → Q (.tuple #[u', .int .i64 0]) w') →
    itr (fun _ _ _ _ _ _ => bot) (f21_b2 f21_j1) m vl (.int .i64 c) lov hiv u (.int .i64 (i : Int)) w Q := by
  intro d
  induction d with
  | zero =>
    intro m i w u hi' hm hb ho kk
    obtain ⟨m, rfl⟩ : ∃ x, m = x + 1 := ⟨m - 1, by omega⟩
    show f21_b2 f21_j1 _ _ _ _ _ _ _ w Q
    unfold f21_b2
    have cc : ¬ (i : Int) < (l.length : Nat) := by omega
    try simp only [↓reduceIte, ↓LL, LM, Value.cells, Nat.reduceAdd, Option.some.injEq, exists_eq_left', decide_true, decide_false, if_true, if_false, reduceCtorEq, cond_true, cond_false, lnl_L h, cc]
    unfold f21_j1
    try simp only [↓reduceIte, ↓LL, LM, Value.cells, Nat.reduceAdd, Option.some.injEq, exists_eq_left', decide_true, decide_false, if_true, if_false, reduceCtorEq, cond_true, cond_false]
    rw [List.take_of_length_le (by omega)] at ho
    exact kk w u hb ho
  | succ d ih =>
    intro m i w u hi' hm hb ho kk
    obtain ⟨m, rfl⟩ : ∃ x, m = x + 1 := ⟨m - 1, by omega⟩
    show f21_b2 f21_j1 _ _ _ _ _ _ _ w Q
    rw [f21_eq]
    have cc : (i : Int) < (l.length : Nat) := by omega
    have hil : i < l.length := by omega
    obtain ⟨ad, rv, hr, hcc, hia⟩ := row_at h hil
    have hcl := hcol _ (List.getElem_mem hil)
    obtain ⟨da, hda, hiaa⟩ := val_col hr hcl
    have okv : okV (colV c.toNat l[i]) := okc hr (by omega)
    have h3 : IntKind.i64.wrap ((i : Int) + 1) = ((i + 1 : Nat) : Int) := by rw [w64 (by omega) (by omega)]; rfl
    have hfl : ((l.take i).filter (whB lo hi c.toNat)).length ≤ i := Nat.le_trans (List.length_filter_le _ _) (by rw [List.length_take]; omega)
    have hft : (l.take (i + 1)).filter (whB lo hi c.toNat) = (l.take i).filter (whB lo hi c.toNat) ++ (if whB lo hi c.toNat l[i] = true then [l[i]] else []) := by
      rw [List.take_succ_eq_append_getElem hil, List.filter_append]
      congr 1
      rw [List.filter_cons, List.filter_nil]
    have qr := hcc w hb
    try simp only [↓reduceIte, ↓LL, LM, Value.cells, Nat.reduceAdd, Option.some.injEq, exists_eq_left', decide_true, decide_false, if_true, if_false, reduceCtorEq, cond_true, cond_false, lnl_L h, cc, hia, qr, hiaa]
    refine ldn_at (hda _ hb) rfl ?_
    try simp only [↓reduceIte, ↓LL, LM, Value.cells, Nat.reduceAdd, Option.some.injEq, exists_eq_left', decide_true, decide_false, if_true, if_false, reduceCtorEq, cond_true, cond_false]
    have b1 := b_psh w (.cells #[.int .i64 0, .int .i64 0, .string ⟨#[]⟩] 31)
    refine stn_box blk_psh_new rfl rfl (by simpa using encV_one (colV c.toNat l[i])) fun w2 h2 hu2 => ?_
    have b2 : Below w.heap.size w w2 := b1.trans (hu2.below (Nat.le_refl _))
    have bd : Below w.heap.size w (drw w2) := b2.trans ⟨rfl, rfl, rfl, Nat.le_refl _, fun _ _ => rfl⟩
    have bvd := bt hb bd
    have od := ho.keep bd hb.size
    have hgd : (drw w2).heap[w.heap.size]? = some (.cells (encV (colV c.toNat l[i])).toArray 31 (0, 0)) := h2
    rw [dr_q]
    generalize drw w2 = wd at *
    -- behind both bounds
    have skip : whB lo hi c.toNat l[i] = false → ∀ w', Below wd.heap.size wd w' → f21_j3 (itr (fun _ _ _ _ _ _ => bot) (f21_b2 f21_j1) m) vl (.int .i64 c) lov hiv u (.int .i64 (i : Int)) w' Q := by
      intro hw w' b'
      unfold f21_j3
      try simp only [↓reduceIte, ↓LL, LM, Value.cells, Nat.reduceAdd, Option.some.injEq, exists_eq_left', decide_true, decide_false, if_true, if_false, reduceCtorEq, cond_true, cond_false, h3]
      rw [hw, if_neg (by simp), List.append_nil] at hft
      have o' := od.keep b' bvd.size
      rw [← hft] at o'
      exact ih m (i + 1) w' u (by omega) (by omega) (bt bvd b') o' kk
    have take : whB lo hi c.toNat l[i] = true → ∀ w', Below wd.heap.size wd w' → (ia 1 vl (.int .i64 (i : Int)) fun t56 => ld t56 fun t57 => sm Try.prog (Instr.buildSlice 22 1 #[(0, t57)]) fun t58 => sm Try.prog (Builtin.append_ #[22, 22] 22 #[u, t58]) fun t59 => f21_j3 (itr (fun _ _ _ _ _ _ => bot) (f21_b2 f21_j1) m) vl (.int .i64 c) lov hiv t59 (.int .i64 (i : Int))) w' Q := by
      intro hw w' b'
      have b'' := bt bvd b'
      have q := hcc w' b''
      rw [hw, if_pos rfl] at hft
      have o' := od.keep b' bvd.size
      obtain ⟨x, rfl⟩ := slV_of hr
      try simp only [↓reduceIte, ↓LL, LM, Value.cells, Nat.reduceAdd, Option.some.injEq, exists_eq_left', decide_true, decide_false, if_true, if_false, reduceCtorEq, cond_true, cond_false, hia, q]
      refine ap_L o' (r := l[i]) (.inl hr) ⟨_, _, _, rfl⟩ b'' (by omega) fun u' w3 o3 k3 => ?_
      unfold f21_j3
      try simp only [↓reduceIte, ↓LL, LM, Value.cells, Nat.reduceAdd, Option.some.injEq, exists_eq_left', decide_true, decide_false, if_true, if_false, reduceCtorEq, cond_true, cond_false, h3]
      rw [← hft] at o3
      exact ih m (i + 1) w3 u' (by omega) (by omega) (b''.trans k3.b) o3 kk
    have e : ∀ b, (b || !hiB hi (colV c.toNat l[i])) = !(!b && hiB hi (colV c.toNat l[i])) := by intro b; cases b <;> cases hiB hi (colV c.toNat l[i]) <;> rfl
    cases lo with
    | nil =>
      have l0 : (([] : Row).length : Int) = 0 := rfl
      have c0 : ¬ (0 : Int) < 0 := by decide
      try simp only [↓reduceIte, ↓LL, LM, Value.cells, Nat.reduceAdd, Option.some.injEq, exists_eq_left', decide_true, decide_false, if_true, if_false, reduceCtorEq, cond_true, cond_false, lnl_R hlo, l0, c0]
      refine f21_2s hhi okv bvd hgd false (fun hh w' b' => skip ?_ w' b') (fun hh w' b' => take ?_ w' b')
      · rw [e] at hh; unfold whB; rw [loB_nil]; simpa using hh
      · rw [e] at hh; unfold whB; rw [loB_nil]; simpa using hh
    | cons x lo' =>
      have l0 : (0 : Int) < (((x :: lo' : Row).length : Nat) : Int) := by simp; try omega
      obtain ⟨adl, hokl, hcl', hial⟩ := val_at hlo (i := 0) (by simp)
      have il : ∀ (K : Value → M) (w' : World), ia 3 lov (.int .i64 0) K w' Q = K (.pointer (some adl)) w' Q := fun K w' => hial .i64 K w' Q
      try simp only [↓reduceIte, ↓LL, LM, Value.cells, Nat.reduceAdd, Option.some.injEq, exists_eq_left', decide_true, decide_false, if_true, if_false, reduceCtorEq, cond_true, cond_false, lnl_R hlo, l0]
      refine ldn_box hgd rfl ?_
      try simp only [↓reduceIte, ↓LL, LM, Value.cells, Nat.reduceAdd, Option.some.injEq, exists_eq_left', decide_true, decide_false, if_true, if_false, reduceCtorEq, cond_true, cond_false, il]
      refine ldn_at (hcl' _ bvd) rfl ?_
      try simp only [↓reduceIte, ↓LL, LM, Value.cells, Nat.reduceAdd, Option.some.injEq, exists_eq_left', decide_true, decide_false, if_true, if_false, reduceCtorEq, cond_true, cond_false]
      refine f41_s okv hokl fun w3 b3 => ?_
      try simp only [↓reduceIte, ↓LL, LM, Value.cells, Nat.reduceAdd, Option.some.injEq, exists_eq_left', decide_true, decide_false, if_true, if_false, reduceCtorEq, cond_true, cond_false, List.getElem_cons_zero]
      refine f21_2s hhi okv (bt bvd b3) (stay b3 hgd) (decide (ltV (colV c.toNat l[i]) x)) (fun hh w' b' => skip ?_ w' (bt b3 b')) (fun hh w' b' => take ?_ w' (bt b3 b'))
      · rw [e, Bool.not_eq_true'] at hh; unfold whB; rw [loB_l]; exact hh
      · rw [e, Bool.not_eq_false'] at hh; unfold whB; rw [loB_l]; exact hh
theorem f21_s {vl lov hiv : Value} {l : List Row} {lo hi : Row} {c : Int} (h : rdL w vl l) (hlo : rdR w lov lo) (hhi : rdR w hiv hi) (hl : l.length ≤ 1000)
    (k7 : l.any (lacksB c) = true → Q (.tuple #[.slice none 0 0, .int .i64 7]) w)
    (k0 : l.any (lacksB c) = false → ∀ w' u, Below w.heap.size w w' → rdL w' u (l.filter (whB lo hi c.toNat)) → Q (.tuple #[u, .int .i64 0]) w') : f21 vl (.int .i64 c) lov hiv w Q := by
  unfold f21
  try simp only [↓reduceIte, ↓LL, LM, Value.cells, Nat.reduceAdd, Option.some.injEq, exists_eq_left', decide_true, decide_false, if_true, if_false, reduceCtorEq, cond_true, cond_false]
  refine f28_s h (by omega) ?_
  by_cases c1 : l.any (lacksB c) = true
  · try simp only [↓reduceIte, ↓LL, LM, Value.cells, Nat.reduceAdd, Option.some.injEq, exists_eq_left', decide_true, decide_false, if_true, if_false, reduceCtorEq, cond_true, cond_false, c1]
    exact k7 c1
  have c1f : l.any (lacksB c) = false := Bool.eq_false_iff.2 c1
  try simp only [↓reduceIte, ↓LL, LM, Value.cells, Nat.reduceAdd, Option.some.injEq, exists_eq_left', decide_true, decide_false, if_true, if_false, reduceCtorEq, cond_true, cond_false, c1f]
  exact ⟨_, f21_loop (V := w) h hlo hhi (not_lacks c1f) hl l.length (l.length + 1) 0 w (.slice none 0 0) (by omega) (by omega) (Below.refl _ _) OL_nil fun w' u hb hr => k0 c1f w' u hb (hr.rd hb)⟩
end
end Go.Proofs.Ytlmiimojgledpaa

set_option maxRecDepth 20000
set_option maxHeartbeats 4000000
namespace Go.Proofs.Ytlmiimojgledpaa
open Sh RowKit Go.MapKept Srt
def eB (b : Bool) : Int := if b = true then 7 else 0
def rB' (b : Bool) (l : List Row) : List Row := if b = true then [] else l
section
variable {V W w w' : World} {Q : Value → World → Prop}
theorem nilL : rdL w (.slice none 0 0) [] := .inl ⟨rfl, rfl⟩
theorem f18_u {v lov hiv : Value} {l : List Row} {lo hi : Row} {c : Int} (h : rdL w v l) (hlo : rdR w lov lo) (hhi : rdR w hiv hi) (hl : l.length ≤ 100000) (hsz : ∀ r ∈ l, r.length * 32 ≤ 140737488355328)
    (kk : ∀ w' u, Below w.heap.size w w' → rdL w' u (rB' (l.any (lacksB c)) (l.filter (whB lo hi c.toNat))) → Q (.tuple #[u, .int .i64 (eB (l.any (lacksB c)))]) w') : f18 v (.int .i64 c) lov hiv w Q :=
  f18_s h hlo hhi hl hsz (fun h7 w' b => by have := kk w' _ b (by rw [h7]; exact nilL); rw [h7] at this; exact this) (fun h0 w' u b r => by have := kk w' u b (by rw [h0]; exact r); rw [h0] at this; exact this)
theorem f21_u {v lov hiv : Value} {l : List Row} {lo hi : Row} {c : Int} (h : rdL w v l) (hlo : rdR w lov lo) (hhi : rdR w hiv hi) (hl : l.length ≤ 1000)
    (kk : ∀ w' u, Below w.heap.size w w' → rdL w' u (rB' (l.any (lacksB c)) (l.filter (whB lo hi c.toNat))) → Q (.tuple #[u, .int .i64 (eB (l.any (lacksB c)))]) w') : f21 v (.int .i64 c) lov hiv w Q :=
  f21_s h hlo hhi hl (fun h7 => by have := kk w _ (Below.refl _ _) (by rw [h7]; exact nilL); rw [h7] at this; exact this) (fun h0 w' u b r => by have := kk w' u b (by rw [h0]; exact r); rw [h0] at this; exact this)
theorem f22_u {vl vc : Value} {l : List Row} {cols : List Int} (h : rdL w vl l) (hc : rdI .i64 w vc cols) (hcl : cols.length ≤ 1048576) (hll : l.length ≤ 1000)
    (kk : ∀ w' u, Below w.heap.size w w' → rdL w' u (rB' (l.any (lackC cols)) (l.map (cutR cols))) → Q (.tuple #[u, .int .i64 (eB (l.any (lackC cols)))]) w') : f22 vl vc w Q :=
  f22_s h hc hcl hll (fun h7 w' b => by have := kk w' _ b (by rw [h7]; exact nilL); rw [h7] at this; exact this) (fun h0 w' u b r => by have := kk w' u b (by rw [h0]; exact r); rw [h0] at this; exact this)
theorem f23_u {vl vc : Value} {l : List Row} {cols : List Int} (h : rdL w vl l) (hc : rdI .i64 w vc cols) (hcl : cols.length ≤ 1048576) (hll : l.length ≤ 1000)
    (kk : ∀ w' u, Below w.heap.size w w' → rdL w' u (rB' (l.any (lackC cols)) (l.map (cutR cols))) → Q (.tuple #[u, .int .i64 (eB (l.any (lackC cols)))]) w') : f23 vl vc w Q :=
  f23_s h hc hcl hll (fun h7 w' b => by have := kk w' _ b (by rw [h7]; exact nilL); rw [h7] at this; exact this) (fun h0 w' u b r => by have := kk w' u b (by rw [h0]; exact r); rw [h0] at this; exact this)
theorem f20_u {v : Value} {l : List Row} {c : Int} (h : rdL w v l) (hl : l.length ≤ 100000) (hsz : ∀ r ∈ l, r.length * 32 ≤ 140737488355328)
    (kk : ∀ w' u, Below w.heap.size w w' → rdL w' u (rB' (l.any (lacksB c)) (srt (leC c.toNat) l)) → Q (.tuple #[u, .int .i64 (eB (l.any (lacksB c)))]) w') : f20 v (.int .i64 c) w Q :=
  f20_s h hl hsz (fun h7 w' b => by have := kk w' _ b (by rw [h7]; exact nilL); rw [h7] at this; exact this) (fun h0 w' u b r => by have := kk w' u b (by rw [h0]; exact r); rw [h0] at this; exact this)
theorem f24_u {v : Value} {l : List Row} {c : Int} (h : rdL w v l) (hl : l.length ≤ 900)
    (kk : ∀ w' u, Below w.heap.size w w' → rdL w' u (rB' (l.any (lacksB c)) (srt (leC c.toNat) l)) → Q (.tuple #[u, .int .i64 (eB (l.any (lacksB c)))]) w') : f24 v (.int .i64 c) w Q :=
  f24_s h hl (fun h7 => by have := kk w _ (Below.refl _ _) (by rw [h7]; exact nilL); rw [h7] at this; exact this) (fun h0 w' u b r => by have := kk w' u b (by rw [h0]; exact r); rw [h0] at this; exact this)
theorem rB_mem {b : Bool} {l : List Row} {r : Row} (h : r ∈ rB' b l) : r ∈ l := by
  unfold rB' at h
  split at h
  · cases h
  · exact h
theorem rB_len {b : Bool} {l : List Row} : (rB' b l).length ≤ l.length := by unfold rB'; split <;> simp
theorem f7_j1s {vl vc lov hiv : Value} {l : List Row} {cols : List Int} {lo hi : Row} {c : Int} {g : Nat} (h : rdL w vl l) (hc : rdI .i64 w vc cols) (hcl : cols.length ≤ 1048576) (hlo : rdR w lov lo) (hhi : rdR w hiv hi) (hl : l.length ≤ 80) (hN : ∀ r ∈ l, r.length ≤ 1048576)
    (hg : w.heap[g]? = some (.cells #[lov, hiv] 44 (0, 0))) (kk : ∀ w', Below w.heap.size w w' → Q (.bool true) w') : f7_j1 vl vc (.pointer (some ⟨g, 0, none⟩)) (.int .i64 c) w Q := by
  unfold f7_j1
  have hsz : ∀ r ∈ l, r.length * 32 ≤ 140737488355328 := fun r hr => by have := hN r hr; omega
  have hat : ∀ w', Below w.heap.size w w' → w'.cell? ⟨g, 0, none⟩ = some lov ∧ w'.cell? ⟨g, 1, none⟩ = some hiv := by
    intro w' hb'
    have := stay hb' hg
    constructor <;> (rw [cell_of_blk this]; rfl)
  obtain ⟨q1, q2⟩ := hat w (Below.refl _ _)
  have g0 : ∀ x y : Value, (#[x, y] : Array Value)[0]? = some x := fun _ _ => rfl
  have g1 : ∀ x y : Value, (#[x, y] : Array Value)[1]? = some y := fun _ _ => rfl
  try simp only [↓reduceIte, ↓LL, LM, Value.cells, Nat.reduceAdd, Option.some.injEq, exists_eq_left', decide_true, decide_false, if_true, if_false, reduceCtorEq, cond_true, cond_false, iaa0, iaa1, q1, q2]
  refine f18_u h hlo hhi (by omega) hsz fun w1 u1 c1 r1 => ?_
  obtain ⟨q3, q4⟩ := hat w1 c1
  try simp only [↓reduceIte, ↓LL, LM, Value.cells, Nat.reduceAdd, Option.some.injEq, exists_eq_left', decide_true, decide_false, if_true, if_false, reduceCtorEq, cond_true, cond_false, g0, g1, iaa0, iaa1, q3, q4]
  refine f21_u (rdL_b c1 h) (rdR_b c1 hlo) (rdR_b c1 hhi) (by omega) fun w2 u2 c2 r2 => ?_
  have b2 := bt c1 c2
  have r1 := rdL_b c2 r1
  try simp only [↓reduceIte, ↓LL, LM, Value.cells, Nat.reduceAdd, Option.some.injEq, exists_eq_left', decide_true, decide_false, if_true, if_false, reduceCtorEq, cond_true, cond_false, g0, g1]
  refine f22_u (rdL_b b2 h) (rdI_below b2 hc) hcl (by omega) fun w3 u3 c3 r3 => ?_
  have b3 := bt b2 c3
  have r1 := rdL_b c3 r1
  have r2 := rdL_b c3 r2
  try simp only [↓reduceIte, ↓LL, LM, Value.cells, Nat.reduceAdd, Option.some.injEq, exists_eq_left', decide_true, decide_false, if_true, if_false, reduceCtorEq, cond_true, cond_false, g0, g1]
  refine f23_u (rdL_b b3 h) (rdI_below b3 hc) hcl (by omega) fun w4 u4 c4 r4 => ?_
  have b4 := bt b3 c4
  have r1 := rdL_b c4 r1
  have r2 := rdL_b c4 r2
  have r3 := rdL_b c4 r3
  try simp only [↓reduceIte, ↓LL, LM, Value.cells, Nat.reduceAdd, Option.some.injEq, exists_eq_left', decide_true, decide_false, if_true, if_false, reduceCtorEq, cond_true, cond_false, g0, g1]
  refine f20_u (rdL_b b4 h) (by omega) hsz fun w5 u5 c5 r5 => ?_
  have b5 := bt b4 c5
  have r1 := rdL_b c5 r1
  have r2 := rdL_b c5 r2
  have r3 := rdL_b c5 r3
  have r4 := rdL_b c5 r4
  try simp only [↓reduceIte, ↓LL, LM, Value.cells, Nat.reduceAdd, Option.some.injEq, exists_eq_left', decide_true, decide_false, if_true, if_false, reduceCtorEq, cond_true, cond_false, g0, g1]
  refine f24_u (rdL_b b5 h) (by omega) fun w6 u6 c6 r6 => ?_
  have b6 := bt b5 c6
  have r1 := rdL_b c6 r1
  have r2 := rdL_b c6 r2
  have r3 := rdL_b c6 r3
  have r4 := rdL_b c6 r4
  have r5 := rdL_b c6 r5
  try simp only [↓reduceIte, ↓LL, LM, Value.cells, Nat.reduceAdd, Option.some.injEq, exists_eq_left', decide_true, decide_false, if_true, if_false, reduceCtorEq, cond_true, cond_false, g0, g1]
  have n1 : (rB' (l.any (lacksB c)) (l.filter (whB lo hi c.toNat))).length ≤ 80 := Nat.le_trans rB_len (Nat.le_trans (List.length_filter_le _ _) hl)
  have n2 : (rB' (l.any (lackC cols)) (l.map (cutR cols))).length ≤ 80 := Nat.le_trans rB_len (by rw [List.length_map]; exact hl)
  have n3 : (rB' (l.any (lacksB c)) (srt (leC c.toNat) l)).length ≤ 80 := Nat.le_trans rB_len (by rw [srt_len]; exact hl)
  refine f13_s r1 r2 (by omega) (fun r hr => by have := hN r (List.mem_filter.1 (rB_mem hr)).1; omega) fun w7 c7 => ?_
  try simp only [↓reduceIte, ↓LL, LM, Value.cells, Nat.reduceAdd, Option.some.injEq, exists_eq_left', decide_true, decide_false, if_true, if_false, reduceCtorEq, cond_true, cond_false]
  refine f13_s (rdL_b c7 r3) (rdL_b c7 r4) (by omega) (fun r hr => by
    obtain ⟨s, _, rfl⟩ := List.mem_map.1 (rB_mem hr)
    unfold cutR; rw [List.length_map]; omega) fun w8 c8 => ?_
  have c78 := bt c7 c8
  try simp only [↓reduceIte, ↓LL, LM, Value.cells, Nat.reduceAdd, Option.some.injEq, exists_eq_left', decide_true, decide_false, if_true, if_false, reduceCtorEq, cond_true, cond_false]
  refine f13_s (rdL_b c78 r5) (rdL_b c78 r6) (by omega) (fun r hr => by have := hN r ((srt_perm l).mem_iff.1 (rB_mem hr)); omega) fun w9 c9 => ?_
  try simp only [↓reduceIte, ↓LL, LM, Value.cells, Nat.reduceAdd, Option.some.injEq, exists_eq_left', decide_true, decide_false, if_true, if_false, reduceCtorEq, cond_true, cond_false]
  exact kk w9 (bt b6 (bt c78 c9))
theorem f7_s {vl vc lov hiv : Value} {l : List Row} {cols : List Int} {lo hi : Row} (h : rdL w vl l) (hc : rdI .i64 w vc cols) (hcl : cols.length ≤ 1048576) (hlo : rdR w lov lo) (hhi : rdR w hiv hi) (hN : ∀ r ∈ l, r.length ≤ 1048576)
    (kk : ∀ w', Below w.heap.size w w' → Q (.bool true) w') : f7 vl vc (.agg #[lov, hiv]) w Q := by
  unfold f7
  have b1 := b_psh w (.cells (Value.agg #[lov, hiv]).cells 44)
  have blk := blk_psh_new (w := w) (o := .cells (Value.agg #[lov, hiv]).cells 44)
  rw [bx_e]
  generalize psh w (.cells (Value.agg #[lov, hiv]).cells 44) = w1 at *
  try simp only [↓reduceIte, ↓LL, LM, Value.cells, Nat.reduceAdd, Option.some.injEq, exists_eq_left', decide_true, decide_false, if_true, if_false, reduceCtorEq, cond_true, cond_false]
  refine f8_s fun w2 c2 => ?_
  have b2 := bt b1 c2
  have blk2 := stay c2 blk
  try simp only [↓reduceIte, ↓LL, LM, Value.cells, Nat.reduceAdd, Option.some.injEq, exists_eq_left', decide_true, decide_false, if_true, if_false, reduceCtorEq, cond_true, cond_false]
  refine f9_s (rdL_b b2 h) fun va' ha' => ?_
  have hla : (l.take 80).length ≤ 80 := by rw [List.length_take]; omega
  have hNa' : ∀ s ∈ l.take 80, s.length ≤ 1048576 := fun s hs => hN s (List.mem_of_mem_take hs)
  generalize l.take 80 = a' at *
  have hc2 := rdI_below b2 hc
  try simp only [↓reduceIte, ↓LL, LM, Value.cells, Nat.reduceAdd, Option.some.injEq, exists_eq_left', decide_true, decide_false, if_true, if_false, reduceCtorEq, cond_true, cond_false]
  refine lnl_rd hc2 ?_
  by_cases c0 : 0 < cols.length
  · have c0' : (0 : Int) < ((cols.length : Nat) : Int) := by omega
    try simp only [↓reduceIte, ↓LL, LM, Value.cells, Nat.reduceAdd, Option.some.injEq, exists_eq_left', decide_true, decide_false, if_true, if_false, reduceCtorEq, cond_true, cond_false, c0']
    refine ia_ld (j := .i64) (i := 0) hc2 (by omega) (by omega) fun hh => ?_
    exact f7_j1s ha' hc2 hcl (rdR_b b2 hlo) (rdR_b b2 hhi) hla hNa' blk2 fun w3 b3 => kk w3 (bt b2 b3)
  · have c0' : ¬ (0 : Int) < ((cols.length : Nat) : Int) := by omega
    try simp only [↓reduceIte, ↓LL, LM, Value.cells, Nat.reduceAdd, Option.some.injEq, exists_eq_left', decide_true, decide_false, if_true, if_false, reduceCtorEq, cond_true, cond_false, c0']
    exact f7_j1s ha' hc2 hcl (rdR_b b2 hlo) (rdR_b b2 hhi) hla hNa' blk2 fun w3 b3 => kk w3 (bt b2 b3)
end
end Go.Proofs.Ytlmiimojgledpaa

namespace Go.Proofs.Ytlmiimojgledpaa
open Go.ChangeShapes Go.WideShapes Go.ChangeAt Go.RowKit
open Sh
theorem u43 : Try.prog.underlying 43 = some (.slice 3) := by kernel_rfl
theorem u32 : Try.prog.underlying 32 = some (.slice 31) := by kernel_rfl
theorem u44 : Try.prog.underlying 44 = some (.array 2 32) := by kernel_rfl
theorem xsc43 : isSc Try.prog 43 = true := by kernel_rfl
theorem xag44 : isAg Try.prog 44 2 = true := by kernel_rfl
theorem rdI_of {k : IntKind} {w : World} {v : Value} {l : List Int} (h : rdS 1 (iR k) w v l) : rdI k w v l := by
  rcases h with ⟨rfl, rfl⟩ | ⟨a, c, rfl, _, h⟩
  · exact ⟨none, 0, rfl, fun i hi => by simp at hi⟩
  · refine ⟨some a, c, rfl, fun i hi => ⟨a, rfl, ?_⟩⟩
    obtain ⟨es, h1, h2, h3⟩ := h i hi
    have h3 : es = [.int k l[i]] := h3.1
    have := h2 0 (.int k l[i]) (by rw [h3]; rfl)
    rw [add_zero', Nat.mul_one] at this
    exact this
theorem op43 : Opens Try.prog 43 (List Int) (fun w cs l => ∃ v, cs = [v] ∧ rdI .i64 w v l) (fun l => l.length) := by
  refine Opens.mono (op_slice u43 (n := 1) (by kernel_rfl) (op_int u3)) ?_
  rintro w cs l ⟨v, rfl, h, hs⟩
  refine ⟨l, ⟨v, rfl, rdI_of h⟩, ?_⟩
  have : ∀ l : List Int, (l.map fun _ => 1).sum = l.length := fun l => by
    induction l with
    | nil => rfl
    | cons x l ih => rw [List.map_cons, List.sum_cons, ih, List.length_cons]; omega
  rw [this]; omega
theorem op32 : Opens Try.prog 32 Row (fun w cs r => ∃ v, cs = [v] ∧ rdR w v r) (fun _ => 0) := by
  refine Opens.mono (op_slice u32 (n := 3) (by kernel_rfl) op31) ?_
  rintro w cs l ⟨v, rfl, h, hs⟩
  exact ⟨l, ⟨v, rfl, h⟩, Nat.zero_le _⟩
theorem op44 : Opens Try.prog 44 (Row × Row) (fun w cs x => ∃ v u, cs = [v, u] ∧ rdR w v x.1 ∧ rdR w u x.2) (fun _ => 0) := by
  refine Opens.mono (op_arr u44 (k := 2) (n := 1) (by kernel_rfl) (by kernel_rfl) op32) ?_
  rintro w cs l ⟨hl, hm, h⟩
  obtain ⟨c0, c1, rfl⟩ := len2 hl
  match l, hm with
  | [a, b], _ =>
    obtain ⟨v, e0, h0⟩ := h 0 (by simp)
    obtain ⟨u, e1, h1⟩ := h 1 (by simp)
    simp at e0 e1
    exact ⟨(a, b), ⟨v, u, by rw [e0, e1], h0, h1⟩, Nat.zero_le _⟩
def R7 : World → List Value → List Row × List Int × (Row × Row) → Prop := fun W vs x => ∃ v u a b, vs = [v, u, .agg #[a, b]] ∧ rdL W v x.1 ∧ rdI .i64 W u x.2.1 ∧ rdR W a x.2.2.1 ∧ rdR W b x.2.2.2
def b7 : List Row × List Int × (Row × Row) → Nat := fun x => (x.1.map rB).sum + x.2.1.length
theorem oa7 : OpensA Try.prog [22, 43, 44] (List Row × List Int × (Row × Row)) R7 b7 := by
  refine OpensA.mono (oa_one op22 xsc22 (fun w cs a h => ⟨_, h.choose_spec.1⟩) (oa_one op43 xsc43 (fun w cs a h => ⟨_, h.choose_spec.1⟩) (oa_agg op44 xag44 oa_nil))) ?_
  rintro W vs ⟨l, c, x, ⟨⟩⟩ ⟨v, r, rfl, ⟨v', hv, hr, hz⟩, v2, r2, rfl, ⟨v2', hv2, hr2⟩, cs, r3, rfl, ⟨va, vb, hcs, ha, hb⟩, rfl⟩
  refine ⟨(l, c, x), ⟨v, v2, va, vb, by rw [agg_of hcs], by rw [one_cell hv]; exact hr, by rw [one_cell hv2]; exact hr2, ha, hb⟩, ?_⟩
  unfold b7
  simp only
  omega
theorem law7 (W : World) (vs : List Value) (a : List Row × List Int × (Row × Row)) (h : R7 W vs a) (hb : b7 a ≤ 1048576) : Calls Try.prog 7 vs.toArray W (Rt fun v W' => v = .bool true ∧ Below W.heap.size W W') := by
  obtain ⟨v, u, x, y, rfl, h1, h2, h3, h4⟩ := h
  have hb : (a.1.map rB).sum + a.2.1.length ≤ 1048576 := hb
  exact s7 _ _ _ _ _ (f7_s h1 h2 (by omega) h3 h4 (fun s hs => by have := sum_mem hs; omega) fun w' h => ⟨rfl, h⟩)
theorem own : ownKnob Try.prog.godebug = none := by kernel_rfl
set_option maxRecDepth 100000 in
theorem lifted7 (os : Os) (started : os.Started) (H : Type) (enc : TypeId × Value → H) (F : Stop.Interp) :
    ReturnsInHanded {} Try.checked os 7 .any ((Rows.OpenSpec.upto Rows.relateOneSpec).pre6 enc Try.prog Try.f7 Rows.relateOneUptoRow.domain false) (((Rows.OpenSpec.upto Rows.relateOneSpec).at F).post enc Try.prog Try.f7 false true false false) := by
  refine law_from_upto (C := Try.checked) (s := Rows.relateOneSpec) (tb := 4) (R := R7) (b := b7) own started (by kernel_rfl) Try.func7
    (OpenSpec.witness (enc := enc) (C := Try.checked) (s := Rows.OpenSpec.upto Rows.relateOneSpec) (k := Rows.uptoSmall) rfl false ⟨#[], #[.slice none 0 0, .slice none 0 0, .agg #[.slice none 0 0, .slice none 0 0]], []⟩ 8 (by kernel_rfl) (by kernel_rfl) (by kernel_rfl)
      (x := ([.nil, .nil, .agg [.nil, .nil]], [], [])) (by kernel_rfl) rfl (by kernel_rfl))
    rfl (by kernel_rfl) (by kernel_rfl) rfl Try.underlying4 (fun ds hd => ?_) ?_ law7
  · match ds, hd with
    | [d0, d1, d2], _ => exact ⟨rfl, rfl, rfl⟩
  · show OpensA Try.prog Try.f7.params.toList _ R7 b7
    rw [Try.params7]; exact oa7
theorem relateOne_holds : Rows.RelateOneUptoSaid :=
  OpenClaim.holds_of_cond 7 Try.f7 rfl rfl rfl rfl rfl rfl rfl ⟨rfl, rfl, rfl, rfl, rfl⟩ rfl rfl rfl rfl rfl (by kernel_rfl) Try.func7 (by kernel_rfl)
    (of_decide_eq_true (by kernel_rfl)) (by unfold Func.isWrapper; first | (rw [if_pos (by decide +kernel)]; kernel_rfl) | (rw [if_neg (by decide +kernel)]; exact ⟨rfl, rfl⟩))
    (fun os started H enc _ F => lifted7 os started H enc F)
#print axioms relateOne_holds
end Go.Proofs.Ytlmiimojgledpaa
