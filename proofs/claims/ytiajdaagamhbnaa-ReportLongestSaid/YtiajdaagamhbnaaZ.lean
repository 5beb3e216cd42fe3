/- The call of ReportLongest returns true for every input, and its arguments read behind it as they read before. -/
import Derived.Test.YtiajdaagamhbnaaZ1
import Derived.SizedLaws
import Derived.Carry
import Derived.ProofKit
import Derived.JoinedCond
import Derived.Deep.CondSized
import Derived.OpenShut
set_option linter.unusedVariables false
set_option linter.unusedSimpArgs false
set_option linter.unusedSectionVars false
set_option maxRecDepth 20000
set_option maxHeartbeats 4000000
namespace Go.Proofs.Ytiajdaagamhbnaa
open Sh RowKit Go.MapKept Srt
/-! runs merged -/
section
variable {β : Type} {e : TypeId} {enc : β → List Value} {le : β → β → Bool} {Mm : β → Prop} {rest : List Value} {g c N : Nat} {V w : World} {cf : Value} {Q : Value → World → Prop}
theorem sd_take59 {l : List (β × Nat)} {k : Nat} {y x : β × Nat} (h : Sd le l) (O : Ord le) (hk : l[k]? = some y) (hyx : slt le y x) : ∀ u ∈ l.take (k + 1), slt le u x := by
  obtain ⟨hkl, rfl⟩ := get_of hk
  intro u hu
  rw [List.take_succ_eq_append_getElem hkl] at hu
  rcases List.mem_append.1 hu with hu | hu
  · have h' := h
    rw [← List.take_append_drop k l, List.drop_eq_getElem_cons hkl] at h'
    exact slt_trans O ((sd_app.1 h').2.2 u hu _ List.mem_cons_self) hyx
  · rw [List.mem_singleton] at hu; subst hu; exact hyx
theorem sd_drop59 {l : List (β × Nat)} {k : Nat} {y x : β × Nat} (h : Sd le l) (O : Ord le) (hk : l[k]? = some y) (hxy : slt le x y) : ∀ u ∈ l.drop k, slt le x u := by
  obtain ⟨hkl, rfl⟩ := get_of hk
  intro u hu
  rw [List.drop_eq_getElem_cons hkl] at hu
  rcases List.mem_cons.1 hu with rfl | hu
  · exact hxy
  · have h' := h
    rw [← List.take_append_drop k l, List.drop_eq_getElem_cons hkl] at h'
    exact slt_trans O hxy ((List.pairwise_cons.1 (sd_app.1 h').2.1).1 u hu)
/-- where one belongs in the run behind it -/
theorem f59_find1 (hn14 : ∀ x, (enc x).length = 14) (h1c : ∀ x, ∀ v ∈ enc x, v.oneCell' = true) (O : Ord le) (hcmp : CmpOf Try.prog V g cf (fun x => .agg (enc x).toArray) le Mm) (hbd : N ≤ 281474976710656) {P B R : List (β × Nat)} {x : β × Nat} (hN : (P ++ x :: (B ++ R)).length = N) (hs : Sd le B) (hp : ∀ y ∈ B, x.2 < y.2) {j1 : Value → Value → Value → M} : ∀ (d m i j : Nat) (w : World), i ≤ j → j ≤ B.length → j - i ≤ d → d < m →
    BkAt e enc Mm rest g w (P ++ x :: (B ++ R)) → Chg g V w → (∀ y ∈ B.take i, slt le y x) → (∀ y ∈ B.drop j, slt le x y) →
    (∀ w' k, BkAt e enc Mm rest g w' (P ++ x :: (B ++ R)) → Chg g V w' → k ≤ B.length → (∀ y ∈ B.take k, slt le y x) → (∀ y ∈ B.drop k, slt le x y) → j1 (.slice (some ⟨g, 0, none⟩) N c) (.int .i64 (P.length : Nat)) (.int .i64 ((P.length + 1 + k : Nat) : Int)) w' Q) →
    itr (fun _ _ _ _ _ => bot) (f59_b2 j1) m (.slice (some ⟨g, 0, none⟩) N c) (.int .i64 (P.length : Nat)) cf (.int .i64 ((P.length + 1 + i : Nat) : Int)) (.int .i64 ((P.length + 1 + j : Nat) : Int)) w Q := by
  intro d
  induction d with
  | zero =>
    intro m i j w hij hj hd hm hB hC h1 h2 kk
    obtain ⟨m, rfl⟩ : ∃ x, m = x + 1 := ⟨m - 1, by omega⟩
    show f59_b2 j1 _ _ _ _ _ _ w Q
    unfold f59_b2
    have : j = i := by omega
    subst this
    have cc : ¬ ((P.length + 1 + j : Nat) : Int) < ((P.length + 1 + j : Nat) : Int) := by omega
    try simp only [↓reduceIte, ↓LL, LM, Value.cells, Nat.reduceAdd, Option.some.injEq, exists_eq_left', decide_true, decide_false, if_true, if_false, reduceCtorEq, cond_true, cond_false, cc]
    exact kk w j hB hC hj h1 h2
  | succ d ih =>
    intro m i j w hij hj hd hm hB hC h1 h2 kk
    obtain ⟨m, rfl⟩ : ∃ x, m = x + 1 := ⟨m - 1, by omega⟩
    show f59_b2 j1 _ _ _ _ _ _ w Q
    unfold f59_b2
    by_cases hlt : i < j
    · have cc : ((P.length + 1 + i : Nat) : Int) < ((P.length + 1 + j : Nat) : Int) := by omega
      have hN' := hN
      simp only [List.length_append, List.length_cons] at hN'
      obtain ⟨h, hh⟩ : ∃ h, (P.length + 1 + i + (P.length + 1 + j)) / 2 = P.length + 1 + h := ⟨(P.length + 1 + i + (P.length + 1 + j)) / 2 - (P.length + 1), by omega⟩
      have hih : i ≤ h := by omega
      have hhj : h < j := by omega
      have e1 : IntKind.i64.wrap (((P.length + 1 + i : Nat) : Int) + ((P.length + 1 + j : Nat) : Int)) = ((P.length + 1 + i + (P.length + 1 + j) : Nat) : Int) := by rw [w64 (by omega) (by omega)]; omega
      have e2 : IntKind.u64.wrap ((P.length + 1 + i + (P.length + 1 + j) : Nat) : Int) = ((P.length + 1 + i + (P.length + 1 + j) : Nat) : Int) := wu64 (by omega) (by omega)
      have e3 : IntKind.i64.wrap ((P.length + 1 + h : Nat) : Int) = ((P.length + 1 + h : Nat) : Int) := w64 (by omega) (by omega)
      have e4 : IntKind.i64.wrap (((P.length + 1 + h : Nat) : Int) + 1) = ((P.length + 1 + (h + 1) : Nat) : Int) := by rw [w64 (by omega) (by omega)]; rfl
      have hhB : h < B.length := by omega
      have gB : B[h]? = some B[h] := List.getElem?_eq_getElem hhB
      have g1 : (P ++ x :: (B ++ R))[P.length]? = some x := by rw [List.getElem?_append_right (Nat.le_refl _), Nat.sub_self]; rfl
      have g2 : (P ++ x :: (B ++ R))[P.length + 1 + h]? = some B[h] := by
        rw [List.getElem?_append_right (by omega), show P.length + 1 + h - P.length = h + 1 from by omega, List.getElem?_cons_succ, List.getElem?_append_left hhB]; exact gB
      try simp only [↓reduceIte, ↓LL, LM, Value.cells, Nat.reduceAdd, Option.some.injEq, exists_eq_left', decide_true, decide_false, if_true, if_false, reduceCtorEq, cond_true, cond_false, cc, e1, e2]
      rw [shr1, hh]
      have hB := hB.drw
      have hC := hC.drw
      try simp only [↓reduceIte, ↓LL, LM, Value.cells, Nat.reduceAdd, Option.some.injEq, exists_eq_left', decide_true, decide_false, if_true, if_false, reduceCtorEq, cond_true, cond_false, e3]
      first | refine rdN hB hN hn14 h1c g2 ?_ | refine rdNg hB hN hn14 h1c g2 ?_
      try simp only [↓reduceIte, ↓LL, LM, Value.cells, Nat.reduceAdd, Option.some.injEq, exists_eq_left', decide_true, decide_false, if_true, if_false, reduceCtorEq, cond_true, cond_false]
      first | refine rdN hB hN hn14 h1c g1 ?_ | refine rdNg hB hN hn14 h1c g1 ?_
      try simp only [↓reduceIte, ↓LL, LM, Value.cells, Nat.reduceAdd, Option.some.injEq, exists_eq_left', decide_true, decide_false, if_true, if_false, reduceCtorEq, cond_true, cond_false]
      refine hcmp B[h].1 x.1 _ _ _ hC (hB.mem _ (List.mem_of_getElem? g2)) (hB.mem _ (List.mem_of_getElem? g1)) fun w1 z b1 hz => ?_
      have hB := hB.below b1
      have hC := hC.trans (Chg.of_below b1)
      cases hle : le x.1 B[h].1 with
      | false =>
        have hz0 : z < 0 := hz.2 hle
        try simp only [↓reduceIte, ↓LL, LM, Value.cells, Nat.reduceAdd, Option.some.injEq, exists_eq_left', decide_true, decide_false, if_true, if_false, reduceCtorEq, cond_true, cond_false, hz0, e4]
        exact ih m (h + 1) j w1 (by omega) hj (by omega) (by omega) hB hC (sd_take59 hs O gB (slt_nle O hle)) h2 kk
      | true =>
        have hz0 : ¬ z < 0 := fun h => by rw [hz.1 h] at hle; cases hle
        try simp only [↓reduceIte, ↓LL, LM, Value.cells, Nat.reduceAdd, Option.some.injEq, exists_eq_left', decide_true, decide_false, if_true, if_false, reduceCtorEq, cond_true, cond_false, hz0, e4]
        exact ih m i h w1 (by omega) (by omega) (by omega) (by omega) hB hC h1 (sd_drop59 hs O gB (slt_le hle (hp _ (List.getElem_mem hhB)))) kk
    · have : j = i := by omega
      subst this
      have cc : ¬ ((P.length + 1 + j : Nat) : Int) < ((P.length + 1 + j : Nat) : Int) := by omega
      try simp only [↓reduceIte, ↓LL, LM, Value.cells, Nat.reduceAdd, Option.some.injEq, exists_eq_left', decide_true, decide_false, if_true, if_false, reduceCtorEq, cond_true, cond_false, cc]
      exact kk w j hB hC hj h1 h2
/-- it goes there -/
theorem f59_up (hn14 : ∀ x, (enc x).length = 14) (h1c : ∀ x, ∀ v ∈ enc x, v.oneCell' = true) (hbd : N ≤ 281474976710656) {P B R : List (β × Nat)} {x : β × Nat} (hN : (P ++ x :: (B ++ R)).length = N) {k : Nat} (hk : k ≤ B.length) : ∀ (d m s : Nat) (w : World), s + d = k → d < m →
    BkAt e enc Mm rest g w (P ++ B.take s ++ x :: (B.drop s ++ R)) → Chg g V w → (∀ w', BkAt e enc Mm rest g w' (P ++ B.take k ++ x :: (B.drop k ++ R)) → Chg g V w' → Q (.tuple #[]) w') →
    itr (fun _ _ _ => bot) f59_b3 m (.slice (some ⟨g, 0, none⟩) N c) (.int .i64 ((P.length + 1 + k : Nat) : Int)) (.int .i64 ((P.length + s : Nat) : Int)) w Q := by
  intro d
  induction d with
  | zero =>
    intro m s w hs hm hB hC kk
    obtain ⟨m, rfl⟩ : ∃ x, m = x + 1 := ⟨m - 1, by omega⟩
    show f59_b3 _ _ _ _ w Q
    unfold f59_b3
    simp only [List.length_append, List.length_cons] at hN
    have : s = k := by omega
    subst this
    have e1 : IntKind.i64.wrap (((P.length + 1 + s : Nat) : Int) - 1) = ((P.length + s : Nat) : Int) := by rw [w64 (by omega) (by omega)]; omega
    have cc : ¬ ((P.length + s : Nat) : Int) < ((P.length + s : Nat) : Int) := by omega
    try simp only [↓reduceIte, ↓LL, LM, Value.cells, Nat.reduceAdd, Option.some.injEq, exists_eq_left', decide_true, decide_false, if_true, if_false, reduceCtorEq, cond_true, cond_false, e1, cc]
    exact kk w hB hC
  | succ d ih =>
    intro m s w hs hm hB hC kk
    obtain ⟨m, rfl⟩ : ∃ x, m = x + 1 := ⟨m - 1, by omega⟩
    show f59_b3 _ _ _ _ w Q
    unfold f59_b3
    have hN' := hN
    simp only [List.length_append, List.length_cons] at hN'
    have hsB : s < B.length := by omega
    have e1 : IntKind.i64.wrap (((P.length + 1 + k : Nat) : Int) - 1) = ((P.length + k : Nat) : Int) := by rw [w64 (by omega) (by omega)]; omega
    have e2 : IntKind.i64.wrap (((P.length + s : Nat) : Int) + 1) = ((P.length + (s + 1) : Nat) : Int) := by rw [w64 (by omega) (by omega)]; rfl
    have cc : ((P.length + s : Nat) : Int) < ((P.length + k : Nat) : Int) := by omega
    have hL : P ++ B.take s ++ x :: (B.drop s ++ R) = (P ++ B.take s) ++ x :: ([] ++ B[s] :: (B.drop (s + 1) ++ R)) := by
      rw [List.drop_eq_getElem_cons hsB]; simp only [List.append_assoc, List.cons_append, List.nil_append]
    have hlen : (P ++ B.take s ++ x :: (B.drop s ++ R)).length = N := by simp; omega
    obtain ⟨g1, g2, k1, k2, x1, x2⟩ := line_get (i := P.length + s) (j := P.length + (s + 1)) hL (by simp; omega) (by simp; omega)
    have hB := hB.drw
    have hC := hC.drw
    try simp only [↓reduceIte, ↓LL, LM, Value.cells, Nat.reduceAdd, Option.some.injEq, exists_eq_left', decide_true, decide_false, if_true, if_false, reduceCtorEq, cond_true, cond_false, cc, e1, e2]
    first | refine rdN hB hlen hn14 h1c g2 ?_ | refine rdNg hB hlen hn14 h1c g2 ?_
    try simp only [↓reduceIte, ↓LL, LM, Value.cells, Nat.reduceAdd, Option.some.injEq, exists_eq_left', decide_true, decide_false, if_true, if_false, reduceCtorEq, cond_true, cond_false, cc, e1, e2]
    first | refine rdN hB hlen hn14 h1c g1 ?_ | refine rdNg hB hlen hn14 h1c g1 ?_
    try simp only [↓reduceIte, ↓LL, LM, Value.cells, Nat.reduceAdd, Option.some.injEq, exists_eq_left', decide_true, decide_false, if_true, if_false, reduceCtorEq, cond_true, cond_false, cc, e1, e2]
    refine stN hB hlen hn14 h1c k1 (hB.mem _ (List.mem_of_getElem? g2)) fun w1 b1 u1 => ?_
    try simp only [↓reduceIte, ↓LL, LM, Value.cells, Nat.reduceAdd, Option.some.injEq, exists_eq_left', decide_true, decide_false, if_true, if_false, reduceCtorEq, cond_true, cond_false, cc, e1, e2]
    refine stN b1 (by rw [List.length_set]; exact hlen) hn14 h1c (by rw [List.length_set]; exact k2) (hB.mem _ (List.mem_of_getElem? g1)) fun w2 b2 u2 => ?_
    rw [x1] at b2
    try simp only [↓reduceIte, ↓LL, LM, Value.cells, Nat.reduceAdd, Option.some.injEq, exists_eq_left', decide_true, decide_false, if_true, if_false, reduceCtorEq, cond_true, cond_false, cc, e1, e2]
    refine ih m (s + 1) w2 (by omega) (by omega) ?_ (u2c hC u1 u2) kk
    rw [List.take_succ_eq_append_getElem hsB]
    simp only [List.append_assoc, List.cons_append, List.nil_append] at b2 ⊢
    exact b2
/-- where one belongs in the run ahead of it -/
theorem f59_find2 (hn14 : ∀ x, (enc x).length = 14) (h1c : ∀ x, ∀ v ∈ enc x, v.oneCell' = true) (O : Ord le) (hcmp : CmpOf Try.prog V g cf (fun x => .agg (enc x).toArray) le Mm) (hbd : N ≤ 281474976710656) {P A R : List (β × Nat)} {y : β × Nat} (hN : (P ++ A ++ y :: R).length = N) (hs : Sd le A) (hp : ∀ x ∈ A, x.2 < y.2) {j1 : Value → Value → Value → M} : ∀ (d m i j : Nat) (w : World), i ≤ j → j ≤ A.length → j - i ≤ d → d < m →
    BkAt e enc Mm rest g w (P ++ A ++ y :: R) → Chg g V w → (∀ x ∈ A.take i, slt le x y) → (∀ x ∈ A.drop j, slt le y x) →
    (∀ w' k, BkAt e enc Mm rest g w' (P ++ A ++ y :: R) → Chg g V w' → k ≤ A.length → (∀ x ∈ A.take k, slt le x y) → (∀ x ∈ A.drop k, slt le y x) → j1 (.slice (some ⟨g, 0, none⟩) N c) (.int .i64 ((P.length + A.length : Nat) : Int)) (.int .i64 ((P.length + k : Nat) : Int)) w' Q) →
    itr (fun _ _ _ _ _ => bot) (f59_b5 j1) m (.slice (some ⟨g, 0, none⟩) N c) (.int .i64 ((P.length + A.length : Nat) : Int)) cf (.int .i64 ((P.length + i : Nat) : Int)) (.int .i64 ((P.length + j : Nat) : Int)) w Q := by
  intro d
  induction d with
  | zero =>
    intro m i j w hij hj hd hm hB hC h1 h2 kk
    obtain ⟨m, rfl⟩ : ∃ x, m = x + 1 := ⟨m - 1, by omega⟩
    show f59_b5 j1 _ _ _ _ _ _ w Q
    unfold f59_b5
    have : j = i := by omega
    subst this
    have cc : ¬ ((P.length + j : Nat) : Int) < ((P.length + j : Nat) : Int) := by omega
    try simp only [↓reduceIte, ↓LL, LM, Value.cells, Nat.reduceAdd, Option.some.injEq, exists_eq_left', decide_true, decide_false, if_true, if_false, reduceCtorEq, cond_true, cond_false, cc]
    exact kk w j hB hC hj h1 h2
  | succ d ih =>
    intro m i j w hij hj hd hm hB hC h1 h2 kk
    obtain ⟨m, rfl⟩ : ∃ x, m = x + 1 := ⟨m - 1, by omega⟩
    show f59_b5 j1 _ _ _ _ _ _ w Q
    unfold f59_b5
    by_cases hlt : i < j
    · have cc : ((P.length + i : Nat) : Int) < ((P.length + j : Nat) : Int) := by omega
      have hN' := hN
      simp only [List.length_append, List.length_cons] at hN'
      obtain ⟨h, hh⟩ : ∃ h, (P.length + i + (P.length + j)) / 2 = P.length + h := ⟨(P.length + i + (P.length + j)) / 2 - (P.length), by omega⟩
      have hih : i ≤ h := by omega
      have hhj : h < j := by omega
      have e1 : IntKind.i64.wrap (((P.length + i : Nat) : Int) + ((P.length + j : Nat) : Int)) = ((P.length + i + (P.length + j) : Nat) : Int) := by rw [w64 (by omega) (by omega)]; omega
      have e2 : IntKind.u64.wrap ((P.length + i + (P.length + j) : Nat) : Int) = ((P.length + i + (P.length + j) : Nat) : Int) := wu64 (by omega) (by omega)
      have e3 : IntKind.i64.wrap ((P.length + h : Nat) : Int) = ((P.length + h : Nat) : Int) := w64 (by omega) (by omega)
      have e4 : IntKind.i64.wrap (((P.length + h : Nat) : Int) + 1) = ((P.length + (h + 1) : Nat) : Int) := by rw [w64 (by omega) (by omega)]; rfl
      have hhA : h < A.length := by omega
      have gA : A[h]? = some A[h] := List.getElem?_eq_getElem hhA
      have g1 : (P ++ A ++ y :: R)[P.length + A.length]? = some y := by rw [List.getElem?_append_right (by simp), show P.length + A.length - (P ++ A).length = 0 from by simp]; rfl
      have g2 : (P ++ A ++ y :: R)[P.length + h]? = some A[h] := by
        rw [List.getElem?_append_left (by simp; omega), List.getElem?_append_right (by omega), show P.length + h - P.length = h from by omega]; exact gA
      try simp only [↓reduceIte, ↓LL, LM, Value.cells, Nat.reduceAdd, Option.some.injEq, exists_eq_left', decide_true, decide_false, if_true, if_false, reduceCtorEq, cond_true, cond_false, cc, e1, e2]
      rw [shr1, hh]
      have hB := hB.drw
      have hC := hC.drw
      try simp only [↓reduceIte, ↓LL, LM, Value.cells, Nat.reduceAdd, Option.some.injEq, exists_eq_left', decide_true, decide_false, if_true, if_false, reduceCtorEq, cond_true, cond_false, e3]
      first | refine rdN hB hN hn14 h1c g1 ?_ | refine rdNg hB hN hn14 h1c g1 ?_
      try simp only [↓reduceIte, ↓LL, LM, Value.cells, Nat.reduceAdd, Option.some.injEq, exists_eq_left', decide_true, decide_false, if_true, if_false, reduceCtorEq, cond_true, cond_false]
      first | refine rdN hB hN hn14 h1c g2 ?_ | refine rdNg hB hN hn14 h1c g2 ?_
      try simp only [↓reduceIte, ↓LL, LM, Value.cells, Nat.reduceAdd, Option.some.injEq, exists_eq_left', decide_true, decide_false, if_true, if_false, reduceCtorEq, cond_true, cond_false]
      refine hcmp y.1 A[h].1 _ _ _ hC (hB.mem _ (List.mem_of_getElem? g1)) (hB.mem _ (List.mem_of_getElem? g2)) fun w1 z b1 hz => ?_
      have hB := hB.below b1
      have hC := hC.trans (Chg.of_below b1)
      cases hle : le A[h].1 y.1 with
      | false =>
        have hz0 : z < 0 := hz.2 hle
        try simp only [↓reduceIte, ↓LL, LM, Value.cells, Nat.reduceAdd, Option.some.injEq, exists_eq_left', decide_true, decide_false, if_true, if_false, reduceCtorEq, cond_true, cond_false, hz0, e4]
        exact ih m i h w1 (by omega) (by omega) (by omega) (by omega) hB hC h1 (sd_drop59 hs O gA (slt_nle O hle)) kk
      | true =>
        have hz0 : ¬ z < 0 := fun h => by rw [hz.1 h] at hle; cases hle
        try simp only [↓reduceIte, ↓LL, LM, Value.cells, Nat.reduceAdd, Option.some.injEq, exists_eq_left', decide_true, decide_false, if_true, if_false, reduceCtorEq, cond_true, cond_false, hz0, e4]
        exact ih m (h + 1) j w1 (by omega) (by omega) (by omega) (by omega) hB hC (sd_take59 hs O gA (slt_le hle (hp _ (List.getElem_mem hhA)))) h2 kk
    · have : j = i := by omega
      subst this
      have cc : ¬ ((P.length + j : Nat) : Int) < ((P.length + j : Nat) : Int) := by omega
      try simp only [↓reduceIte, ↓LL, LM, Value.cells, Nat.reduceAdd, Option.some.injEq, exists_eq_left', decide_true, decide_false, if_true, if_false, reduceCtorEq, cond_true, cond_false, cc]
      exact kk w j hB hC hj h1 h2
/-- it goes there -/
theorem f59_down (hn14 : ∀ x, (enc x).length = 14) (h1c : ∀ x, ∀ v ∈ enc x, v.oneCell' = true) (hbd : N ≤ 281474976710656) {P A R : List (β × Nat)} {y : β × Nat} (hN : (P ++ A ++ y :: R).length = N) {k : Nat} (hk : k ≤ A.length) : ∀ (d m s : Nat) (w : World), s = k + d → s ≤ A.length → d < m →
    BkAt e enc Mm rest g w (P ++ A.take s ++ y :: (A.drop s ++ R)) → Chg g V w → (∀ w', BkAt e enc Mm rest g w' (P ++ A.take k ++ y :: (A.drop k ++ R)) → Chg g V w' → Q (.tuple #[]) w') →
    itr (fun _ _ _ => bot) f59_b6 m (.slice (some ⟨g, 0, none⟩) N c) (.int .i64 ((P.length + k : Nat) : Int)) (.int .i64 ((P.length + s : Nat) : Int)) w Q := by
  intro d
  induction d with
  | zero =>
    intro m s w hs hsl hm hB hC kk
    obtain ⟨m, rfl⟩ : ∃ x, m = x + 1 := ⟨m - 1, by omega⟩
    show f59_b6 _ _ _ _ w Q
    unfold f59_b6
    have : s = k := by omega
    subst this
    have cc : ¬ ((P.length + s : Nat) : Int) < ((P.length + s : Nat) : Int) := by omega
    try simp only [↓reduceIte, ↓LL, LM, Value.cells, Nat.reduceAdd, Option.some.injEq, exists_eq_left', decide_true, decide_false, if_true, if_false, reduceCtorEq, cond_true, cond_false, cc]
    exact kk w hB hC
  | succ d ih =>
    intro m s w hs hsl hm hB hC kk
    obtain ⟨m, rfl⟩ : ∃ x, m = x + 1 := ⟨m - 1, by omega⟩
    show f59_b6 _ _ _ _ w Q
    unfold f59_b6
    have hN' := hN
    simp only [List.length_append, List.length_cons] at hN'
    obtain ⟨s, rfl⟩ : ∃ s', s = s' + 1 := ⟨s - 1, by omega⟩
    have hsA : s < A.length := by omega
    have e2 : IntKind.i64.wrap (((P.length + (s + 1) : Nat) : Int) - 1) = ((P.length + s : Nat) : Int) := by rw [w64 (by omega) (by omega)]; omega
    have cc : ((P.length + k : Nat) : Int) < ((P.length + (s + 1) : Nat) : Int) := by omega
    have hL : P ++ A.take (s + 1) ++ y :: (A.drop (s + 1) ++ R) = (P ++ A.take s) ++ A[s] :: ([] ++ y :: (A.drop (s + 1) ++ R)) := by
      rw [List.take_succ_eq_append_getElem hsA]; simp only [List.append_assoc, List.cons_append, List.nil_append]
    have hlen : (P ++ A.take (s + 1) ++ y :: (A.drop (s + 1) ++ R)).length = N := by simp; omega
    obtain ⟨g1, g2, k1, k2, x1, x2⟩ := line_get (i := P.length + s) (j := P.length + (s + 1)) hL (by simp; omega) (by simp; omega)
    have hB := hB.drw
    have hC := hC.drw
    try simp only [↓reduceIte, ↓LL, LM, Value.cells, Nat.reduceAdd, Option.some.injEq, exists_eq_left', decide_true, decide_false, if_true, if_false, reduceCtorEq, cond_true, cond_false, cc, e2]
    first | refine rdN hB hlen hn14 h1c g1 ?_ | refine rdNg hB hlen hn14 h1c g1 ?_
    try simp only [↓reduceIte, ↓LL, LM, Value.cells, Nat.reduceAdd, Option.some.injEq, exists_eq_left', decide_true, decide_false, if_true, if_false, reduceCtorEq, cond_true, cond_false, cc, e2]
    first | refine rdN hB hlen hn14 h1c g2 ?_ | refine rdNg hB hlen hn14 h1c g2 ?_
    try simp only [↓reduceIte, ↓LL, LM, Value.cells, Nat.reduceAdd, Option.some.injEq, exists_eq_left', decide_true, decide_false, if_true, if_false, reduceCtorEq, cond_true, cond_false, cc, e2]
    refine stN hB hlen hn14 h1c k2 (hB.mem _ (List.mem_of_getElem? g1)) fun w1 b1 u1 => ?_
    try simp only [↓reduceIte, ↓LL, LM, Value.cells, Nat.reduceAdd, Option.some.injEq, exists_eq_left', decide_true, decide_false, if_true, if_false, reduceCtorEq, cond_true, cond_false, cc, e2]
    refine stN b1 (by rw [List.length_set]; exact hlen) hn14 h1c (by rw [List.length_set]; exact k1) (hB.mem _ (List.mem_of_getElem? g2)) fun w2 b2 u2 => ?_
    rw [x2] at b2
    try simp only [↓reduceIte, ↓LL, LM, Value.cells, Nat.reduceAdd, Option.some.injEq, exists_eq_left', decide_true, decide_false, if_true, if_false, reduceCtorEq, cond_true, cond_false, cc, e2]
    refine ih m s w2 (by omega) (by omega) (by omega) ?_ (u2c hC u1 u2) kk
    rw [List.drop_eq_getElem_cons hsA]
    simp only [List.append_assoc, List.cons_append, List.nil_append] at b2 ⊢
    exact b2
end
/-! runs merged: both of several -/
section
variable {β : Type} {e : TypeId} {enc : β → List Value} {le : β → β → Bool} {Mm : β → Prop} {rest : List Value} {g c N : Nat} {V w : World} {cf : Value} {Q : Value → World → Prop}
theorem f59_half (hn14 : ∀ x, (enc x).length = 14) (h1c : ∀ x, ∀ v ∈ enc x, v.oneCell' = true) (O : Ord le) (hcmp : CmpOf Try.prog V g cf (fun x => .agg (enc x).toArray) le Mm) (hbd : N ≤ 281474976710656) {P A B R : List (β × Nat)} {D : Nat} {ta tm tb td : Value} (hN : (P ++ A ++ B ++ R).length = N) {j8 : Value → Value → Value → Value → Value → Value → Value → Value → M} : ∀ (d m k r : Nat) (w : World), k ≤ r → r ≤ A.length → r ≤ D → D ≤ k + B.length → r - k ≤ d → d < m → Pl A B →
    BkAt e enc Mm rest g w (P ++ A ++ B ++ R) → Chg g V w → (0 < k → ∀ x y, A[k - 1]? = some x → B[D - k]? = some y → slt le x y) → (r < D → ∀ x y, B[D - 1 - r]? = some y → A[r]? = some x → slt le y x) →
    (∀ w' k, BkAt e enc Mm rest g w' (P ++ A ++ B ++ R) → Chg g V w' → k ≤ A.length → k ≤ D → D ≤ k + B.length → (0 < k → ∀ x y, A[k - 1]? = some x → B[D - k]? = some y → slt le x y) → (k < D → ∀ x y, B[D - 1 - k]? = some y → A[k]? = some x → slt le y x) →
      j8 (.slice (some ⟨g, 0, none⟩) N c) ta tm tb cf td (.int .i64 ((P.length + D + (P.length + A.length) : Nat) : Int)) (.int .i64 ((P.length + k : Nat) : Int)) w' Q) →
    itr (fun _ _ _ _ _ _ _ _ _ _ => bot) (f59_b9 j8) m (.slice (some ⟨g, 0, none⟩) N c) ta tm tb cf td (.int .i64 ((P.length + D + (P.length + A.length) : Nat) : Int)) (.int .i64 ((P.length + k : Nat) : Int)) (.int .i64 ((P.length + r : Nat) : Int)) (.int .i64 ((P.length + D + (P.length + A.length) - 1 : Nat) : Int)) w Q := by
  intro d
  induction d with
  | zero =>
    intro m k r w hkr hrA hrD hDk hd hm hp hB hC h1 h2 kk
    obtain ⟨m, rfl⟩ : ∃ x, m = x + 1 := ⟨m - 1, by omega⟩
    show f59_b9 j8 _ _ _ _ _ _ _ _ _ _ _ w Q
    unfold f59_b9
    have : r = k := by omega
    subst this
    have cc : ¬ ((P.length + r : Nat) : Int) < ((P.length + r : Nat) : Int) := by omega
    try simp only [↓reduceIte, ↓LL, LM, Value.cells, Nat.reduceAdd, Option.some.injEq, exists_eq_left', decide_true, decide_false, if_true, if_false, reduceCtorEq, cond_true, cond_false, cc]
    exact kk w r hB hC hrA hrD hDk h1 h2
  | succ d ih =>
    intro m k r w hkr hrA hrD hDk hd hm hp hB hC h1 h2 kk
    obtain ⟨m, rfl⟩ : ∃ x, m = x + 1 := ⟨m - 1, by omega⟩
    show f59_b9 j8 _ _ _ _ _ _ _ _ _ _ _ w Q
    unfold f59_b9
    by_cases hlt : k < r
    · have cc : ((P.length + k : Nat) : Int) < ((P.length + r : Nat) : Int) := by omega
      have hN' := hN
      simp only [List.length_append] at hN'
      obtain ⟨h, hh⟩ : ∃ h, (P.length + k + (P.length + r)) / 2 = P.length + h := ⟨(P.length + k + (P.length + r)) / 2 - (P.length), by omega⟩
      have hkh : k ≤ h := by omega
      have hhr : h < r := by omega
      have hhA : h < A.length := by omega
      have hhB : D - 1 - h < B.length := by omega
      have e1 : IntKind.i64.wrap (((P.length + k : Nat) : Int) + ((P.length + r : Nat) : Int)) = ((P.length + k + (P.length + r) : Nat) : Int) := by rw [w64 (by omega) (by omega)]; omega
      have e2 : IntKind.u64.wrap ((P.length + k + (P.length + r) : Nat) : Int) = ((P.length + k + (P.length + r) : Nat) : Int) := wu64 (by omega) (by omega)
      have e3 : IntKind.i64.wrap ((P.length + h : Nat) : Int) = ((P.length + h : Nat) : Int) := w64 (by omega) (by omega)
      have e4 : IntKind.i64.wrap (((P.length + h : Nat) : Int) + 1) = ((P.length + (h + 1) : Nat) : Int) := by rw [w64 (by omega) (by omega)]; rfl
      have e5 : IntKind.i64.wrap (((P.length + D + (P.length + A.length) - 1 : Nat) : Int) - ((P.length + h : Nat) : Int)) = ((P.length + A.length + (D - 1 - h) : Nat) : Int) := by rw [w64 (by omega) (by omega)]; omega
      have gA : A[h]? = some A[h] := List.getElem?_eq_getElem hhA
      have gB : B[D - 1 - h]? = some B[D - 1 - h] := List.getElem?_eq_getElem hhB
      have g1 : (P ++ A ++ B ++ R)[P.length + h]? = some A[h] := by
        rw [List.append_assoc, List.append_assoc, List.getElem?_append_right (by omega), show P.length + h - P.length = h from by omega, List.getElem?_append_left hhA]; exact gA
      have g2 : (P ++ A ++ B ++ R)[P.length + A.length + (D - 1 - h)]? = some B[D - 1 - h] := by
        rw [List.append_assoc, List.getElem?_append_right (by simp), show P.length + A.length + (D - 1 - h) - (P ++ A).length = D - 1 - h from by simp, List.getElem?_append_left hhB]; exact gB
      try simp only [↓reduceIte, ↓LL, LM, Value.cells, Nat.reduceAdd, Option.some.injEq, exists_eq_left', decide_true, decide_false, if_true, if_false, reduceCtorEq, cond_true, cond_false, cc, e1, e2]
      rw [shr1, hh]
      have hB := hB.drw
      have hC := hC.drw
      try simp only [↓reduceIte, ↓LL, LM, Value.cells, Nat.reduceAdd, Option.some.injEq, exists_eq_left', decide_true, decide_false, if_true, if_false, reduceCtorEq, cond_true, cond_false, e3, e5]
      first | refine rdN hB hN hn14 h1c g2 ?_ | refine rdNg hB hN hn14 h1c g2 ?_
      try simp only [↓reduceIte, ↓LL, LM, Value.cells, Nat.reduceAdd, Option.some.injEq, exists_eq_left', decide_true, decide_false, if_true, if_false, reduceCtorEq, cond_true, cond_false]
      first | refine rdN hB hN hn14 h1c g1 ?_ | refine rdNg hB hN hn14 h1c g1 ?_
      try simp only [↓reduceIte, ↓LL, LM, Value.cells, Nat.reduceAdd, Option.some.injEq, exists_eq_left', decide_true, decide_false, if_true, if_false, reduceCtorEq, cond_true, cond_false]
      refine hcmp B[D - 1 - h].1 A[h].1 _ _ _ hC (hB.mem _ (List.mem_of_getElem? g2)) (hB.mem _ (List.mem_of_getElem? g1)) fun w1 z b1 hz => ?_
      have hB := hB.below b1
      have hC := hC.trans (Chg.of_below b1)
      cases hle : le A[h].1 B[D - 1 - h].1 with
      | false =>
        have hz0 : z < 0 := hz.2 hle
        try simp only [↓reduceIte, ↓LL, LM, Value.cells, Nat.reduceAdd, Option.some.injEq, exists_eq_left', decide_true, decide_false, if_true, if_false, reduceCtorEq, cond_true, cond_false, hz0, e4]
        refine ih m k h w1 hkh (by omega) (by omega) hDk (by omega) (by omega) hp hB hC h1 (fun _ x y hy hx => ?_) kk
        rw [gA] at hx; rw [gB] at hy; cases hx; cases hy
        exact slt_nle O hle
      | true =>
        have hz0 : ¬ z < 0 := fun h => by rw [hz.1 h] at hle; cases hle
        try simp only [↓reduceIte, ↓LL, LM, Value.cells, Nat.reduceAdd, Option.some.injEq, exists_eq_left', decide_true, decide_false, if_true, if_false, reduceCtorEq, cond_true, cond_false, hz0, e4]
        refine ih m (h + 1) r w1 (by omega) (by omega) (by omega) (by omega) (by omega) (by omega) hp hB hC (fun _ x y hx hy => ?_) h2 kk
        rw [Nat.add_sub_cancel, gA] at hx
        rw [show D - (h + 1) = D - 1 - h from by omega, gB] at hy
        cases hx; cases hy
        exact slt_le hle (hp _ (List.getElem_mem hhA) _ (List.getElem_mem hhB))
    · have : r = k := by omega
      subst this
      have cc : ¬ ((P.length + r : Nat) : Int) < ((P.length + r : Nat) : Int) := by omega
      try simp only [↓reduceIte, ↓LL, LM, Value.cells, Nat.reduceAdd, Option.some.injEq, exists_eq_left', decide_true, decide_false, if_true, if_false, reduceCtorEq, cond_true, cond_false, cc]
      exact kk w r hB hC hrA hrD hDk h1 h2
/-- two runs merged -/
theorem f59_s (hn14 : ∀ x, (enc x).length = 14) (h1c : ∀ x, ∀ v ∈ enc x, v.oneCell' = true) (O : Ord le) (hcmp : CmpOf Try.prog V g cf (fun x => .agg (enc x).toArray) le Mm) (hbd : N ≤ 281474976710656) : ∀ (n : Nat) (P A B R : List (β × Nat)) (a mm b : Nat) (w : World) (Q : Value → World → Prop), A.length + B.length ≤ n → 0 < A.length → 0 < B.length → (P ++ A ++ B ++ R).length = N → a = P.length → mm = P.length + A.length → b = P.length + A.length + B.length →
    BkAt e enc Mm rest g w (P ++ A ++ B ++ R) → Chg g V w → Sd le A → Sd le B → Pl A B →
    (∀ w' S, BkAt e enc Mm rest g w' (P ++ S ++ R) → Chg g V w' → S.Perm (A ++ B) → Sd le S → Q (.tuple #[]) w') →
    f59 (.slice (some ⟨g, 0, none⟩) N c) (.int .i64 (a : Int)) (.int .i64 (mm : Int)) (.int .i64 (b : Int)) cf w Q := by
  intro n
  induction n with
  | zero => intro P A B R a mm b w Q hn hA hB; omega
  | succ n ih =>
    intro P A B R a mm b w Q hn hA hB hN ha hm hb hK hC sA sB hp kk
    have hN' := hN
    simp only [List.length_append] at hN'
    unfold f59
    have e1 : IntKind.i64.wrap ((mm : Int) - (a : Int)) = ((A.length : Nat) : Int) := by rw [w64 (by omega) (by omega)]; omega
    have e2 : IntKind.i64.wrap ((b : Int) - (mm : Int)) = ((B.length : Nat) : Int) := by rw [w64 (by omega) (by omega)]; omega
    by_cases hA1 : A.length = 1
    · obtain ⟨x, rfl⟩ : ∃ x, A = [x] := List.length_eq_one_iff.1 hA1
      have cA : ((([x] : List (β × Nat)).length : Nat) : Int) = 1 := rfl
      try simp only [↓reduceIte, ↓LL, LM, Value.cells, Nat.reduceAdd, Option.some.injEq, exists_eq_left', decide_true, decide_false, if_true, if_false, reduceCtorEq, cond_true, cond_false, e1, cA]
      have hK' : BkAt e enc Mm rest g w (P ++ x :: (B ++ R)) := by simpa using hK
      have hNx : (P ++ x :: (B ++ R)).length = N := by rw [← hN]; simp
      have em : (mm : Int) = ((P.length + 1 + 0 : Nat) : Int) := by rw [hm]; simp
      have eb : (b : Int) = ((P.length + 1 + B.length : Nat) : Int) := by rw [hb]; simp
      have ea : (a : Int) = ((P.length : Nat) : Int) := by rw [ha]
      rw [em, eb, ea]
      refine ⟨_, f59_find1 hn14 h1c O hcmp hbd hNx sB (fun y hy => hp x (by simp) y hy) B.length (B.length + 1) 0 B.length w (by omega) (by omega) (by omega) (by omega) hK' hC (by simp) (by simp) fun w1 k b1 c1 hk q1 q2 => ?_⟩
      unfold f59_j1
      refine ⟨_, f59_up hn14 h1c hbd hNx hk k (k + 1) 0 w1 (by omega) (by omega) (by simpa using b1) c1 fun w2 b2 c2 => ?_⟩
      refine kk w2 (B.take k ++ x :: B.drop k) (by simpa using b2) c2 ?_ (sd_ins (by rw [List.take_append_drop]; exact sB) q1 q2)
      refine List.perm_middle.trans ?_
      rw [List.take_append_drop]
      exact List.Perm.refl _
    · have cA : ¬ ((A.length : Nat) : Int) = 1 := by omega
      by_cases hB1 : B.length = 1
      · obtain ⟨y, rfl⟩ : ∃ y, B = [y] := List.length_eq_one_iff.1 hB1
        have cB : ((([y] : List (β × Nat)).length : Nat) : Int) = 1 := rfl
        try simp only [↓reduceIte, ↓LL, LM, Value.cells, Nat.reduceAdd, Option.some.injEq, exists_eq_left', decide_true, decide_false, if_true, if_false, reduceCtorEq, cond_true, cond_false, e1, e2, cA, cB]
        have hK' : BkAt e enc Mm rest g w (P ++ A ++ y :: R) := by simpa using hK
        have hNx : (P ++ A ++ y :: R).length = N := by rw [← hN]; simp
        have em : (mm : Int) = ((P.length + A.length : Nat) : Int) := by rw [hm]
        have ea : (a : Int) = ((P.length + 0 : Nat) : Int) := by rw [ha]; simp
        rw [em, ea]
        refine ⟨_, f59_find2 hn14 h1c O hcmp hbd hNx sA (fun x hx => hp x hx y (by simp)) A.length (A.length + 1) 0 A.length w (by omega) (by omega) (by omega) (by omega) hK' hC (by simp) (by simp) fun w1 k b1 c1 hk q1 q2 => ?_⟩
        unfold f59_j4
        refine ⟨_, f59_down hn14 h1c hbd hNx hk (A.length - k) (A.length - k + 1) A.length w1 (by omega) (by omega) (by omega) (by simpa using b1) c1 fun w2 b2 c2 => ?_⟩
        refine kk w2 (A.take k ++ y :: A.drop k) (by simpa using b2) c2 ?_ (sd_ins (by rw [List.take_append_drop]; exact sA) q1 q2)
        refine List.perm_middle.trans ?_
        rw [List.take_append_drop]
        exact (List.perm_append_singleton _ _).symm
      · have cB : ¬ ((B.length : Nat) : Int) = 1 := by omega
        obtain ⟨D, hD⟩ : ∃ D, (a + b) / 2 = P.length + D := ⟨(a + b) / 2 - P.length, by omega⟩
        have e3 : IntKind.i64.wrap ((a : Int) + (b : Int)) = ((a + b : Nat) : Int) := by rw [w64 (by omega) (by omega)]; omega
        have e4 : IntKind.u64.wrap ((a + b : Nat) : Int) = ((a + b : Nat) : Int) := wu64 (by omega) (by omega)
        have e5 : IntKind.i64.wrap ((P.length + D : Nat) : Int) = ((P.length + D : Nat) : Int) := w64 (by omega) (by omega)
        have e6 : IntKind.i64.wrap (((P.length + D : Nat) : Int) + (mm : Int)) = ((P.length + D + (P.length + A.length) : Nat) : Int) := by rw [w64 (by omega) (by omega)]; omega
        have e7 : IntKind.i64.wrap (((P.length + D + (P.length + A.length) : Nat) : Int) - 1) = ((P.length + D + (P.length + A.length) - 1 : Nat) : Int) := by rw [w64 (by omega) (by omega)]; omega
        try simp only [↓reduceIte, ↓LL, LM, Value.cells, Nat.reduceAdd, Option.some.injEq, exists_eq_left', decide_true, decide_false, if_true, if_false, reduceCtorEq, cond_true, cond_false, e1, e2, cA, cB, e3, e4]
        rw [shr1, hD]
        try simp only [↓reduceIte, ↓LL, LM, Value.cells, Nat.reduceAdd, Option.some.injEq, exists_eq_left', decide_true, decide_false, if_true, if_false, reduceCtorEq, cond_true, cond_false, e5, e6]
        -- behind the search
        have fin : ∀ (w1 : World) (k : Nat), BkAt e enc Mm rest g w1 (P ++ A ++ B ++ R) → Chg g V w1 → k ≤ A.length → k ≤ D → D ≤ k + B.length → (0 < k → ∀ x y, A[k - 1]? = some x → B[D - k]? = some y → slt le x y) → (k < D → ∀ x y, B[D - 1 - k]? = some y → A[k]? = some x → slt le y x) →
            f59_j8 (.slice (some ⟨g, 0, none⟩) N c) (.int .i64 (a : Int)) (.int .i64 (mm : Int)) (.int .i64 (b : Int)) cf (.int .i64 ((P.length + D : Nat) : Int)) (.int .i64 ((P.length + D + (P.length + A.length) : Nat) : Int)) (.int .i64 ((P.length + k : Nat) : Int)) w1 Q := by
          intro w1 k b1 c1 hkA hkD hDk q1 q2
          unfold f59_j8
          obtain ⟨A1, A2, hA12, hl1⟩ : ∃ A1 A2, A = A1 ++ A2 ∧ A1.length = k := ⟨A.take k, A.drop k, (List.take_append_drop _ _).symm, by rw [List.length_take]; omega⟩
          obtain ⟨B1, B2, hB12, hl2⟩ : ∃ B1 B2, B = B1 ++ B2 ∧ B1.length = D - k := ⟨B.take (D - k), B.drop (D - k), (List.take_append_drop _ _).symm, by rw [List.length_take]; omega⟩
          have la : A.length = A1.length + A2.length := by rw [hA12, List.length_append]
          have lb : B.length = B1.length + B2.length := by rw [hB12, List.length_append]
          have sA' := sA
          rw [hA12] at sA'
          have sB' := sB
          rw [hB12] at sB'
          have sa := sd_app.1 sA'
          have sb := sd_app.1 sB'
          have f1 : Bf le A1 B2 := bf_last O sa.1 sb.2.1 fun x y hx hy => by
            have hk0 : 0 < k := by
              rcases Nat.eq_zero_or_pos k with h | h
              · rw [List.length_eq_zero_iff.1 (hl1.trans h)] at hx; cases hx
              · exact h
            refine q1 hk0 x y ?_ ?_
            · rw [hA12, List.getElem?_append_left (by omega), ← hx, List.getLast?_eq_getElem?, hl1]
            · rw [hB12, List.getElem?_append_right (by omega), hl2, Nat.sub_self, ← hy, List.head?_eq_getElem?]
          have f2 : Bf le B1 A2 := bf_last O sb.1 sa.2.1 fun y x hy hx => by
            have hk0 : k < D := by
              rcases Nat.lt_or_ge k D with h | h
              · exact h
              · rw [List.length_eq_zero_iff.1 (hl2.trans (by omega))] at hy; cases hy
            refine q2 hk0 x y ?_ ?_
            · rw [hB12, List.getElem?_append_left (by omega), ← hy, List.getLast?_eq_getElem?, hl2]; congr 1; omega
            · rw [hA12, List.getElem?_append_right (by omega), hl1, Nat.sub_self, ← hx, List.head?_eq_getElem?]
          have p1 : Pl A1 B1 := fun x hx y hy => hp x (by rw [hA12]; exact List.mem_append_left _ hx) y (by rw [hB12]; exact List.mem_append_left _ hy)
          have p2 : Pl A2 B2 := fun x hx y hy => hp x (by rw [hA12]; exact List.mem_append_right _ hx) y (by rw [hB12]; exact List.mem_append_right _ hy)
          have e8 : IntKind.i64.wrap (((P.length + D + (P.length + A.length) : Nat) : Int) - ((P.length + k : Nat) : Int)) = ((P.length + A.length + (D - k) : Nat) : Int) := by rw [w64 (by omega) (by omega)]; omega
          -- behind both halves
          have fin2 : ∀ (w2 : World) (S1 : List (β × Nat)), BkAt e enc Mm rest g w2 (P ++ S1 ++ A2 ++ B2 ++ R) → Chg g V w2 → S1.Perm (A1 ++ B1) → Sd le S1 →
              f59_j11 (.slice (some ⟨g, 0, none⟩) N c) (.int .i64 (b : Int)) cf (.int .i64 ((P.length + D : Nat) : Int)) (.int .i64 ((P.length + A.length + (D - k) : Nat) : Int)) w2 Q := by
            intro w2 S1 b2 c2 pS1 sS1
            have lS1 : S1.length = D := by rw [pS1.length_eq, List.length_append]; omega
            unfold f59_j11
            by_cases z1 : 0 < A2.length
            · have c1' : ((P.length + D : Nat) : Int) < ((P.length + A.length + (D - k) : Nat) : Int) := by omega
              by_cases z2 : 0 < B2.length
              · have c2' : ((P.length + A.length + (D - k) : Nat) : Int) < (b : Int) := by omega
                try simp only [↓reduceIte, ↓LL, LM, Value.cells, Nat.reduceAdd, Option.some.injEq, exists_eq_left', decide_true, decide_false, if_true, if_false, reduceCtorEq, cond_true, cond_false, c1', c2']
                refine s59 _ _ _ _ _ w2 _ ?_
                refine ih (P ++ S1) A2 B2 R _ _ _ w2 _ (by omega) z1 z2 (by rw [← hN, hA12, hB12]; simp; omega) (by simp; omega) (by simp; omega) (by simp; omega) (by simpa using b2) c2 sa.2.1 sb.2.1 p2 fun w3 S2 b3 c3 pS2 sS2 => ?_
                try simp only [↓reduceIte, ↓LL, LM, Value.cells, Nat.reduceAdd, Option.some.injEq, exists_eq_left', decide_true, decide_false, if_true, if_false, reduceCtorEq, cond_true, cond_false]
                obtain ⟨t1, t2⟩ := merge_halves O sA' sB' f1 f2 pS1 pS2 sS1 sS2
                exact kk w3 (S1 ++ S2) (by simpa using b3) c3 (by rw [hA12, hB12]; exact t2) t1
              · have c2' : ¬ ((P.length + A.length + (D - k) : Nat) : Int) < (b : Int) := by omega
                try simp only [↓reduceIte, ↓LL, LM, Value.cells, Nat.reduceAdd, Option.some.injEq, exists_eq_left', decide_true, decide_false, if_true, if_false, reduceCtorEq, cond_true, cond_false, c1', c2']
                have hB2 : B2 = [] := List.length_eq_zero_iff.1 (by omega)
                obtain ⟨t1, t2⟩ := merge_halves O sA' sB' f1 f2 pS1 (S2 := A2) (by rw [hB2, List.append_nil]) sS1 sa.2.1
                exact kk w2 (S1 ++ A2) (by rw [hB2] at b2; simpa using b2) c2 (by rw [hA12, hB12]; exact t2) t1
            · have c1' : ¬ ((P.length + D : Nat) : Int) < ((P.length + A.length + (D - k) : Nat) : Int) := by omega
              try simp only [↓reduceIte, ↓LL, LM, Value.cells, Nat.reduceAdd, Option.some.injEq, exists_eq_left', decide_true, decide_false, if_true, if_false, reduceCtorEq, cond_true, cond_false, c1']
              have hA2 : A2 = [] := List.length_eq_zero_iff.1 (by omega)
              obtain ⟨t1, t2⟩ := merge_halves O sA' sB' f1 f2 pS1 (S2 := B2) (by rw [hA2, List.nil_append]) sS1 sb.2.1
              exact kk w2 (S1 ++ B2) (by rw [hA2] at b2; simpa using b2) c2 (by rw [hA12, hB12]; exact t2) t1
          -- behind the rotation
          have fin1 : ∀ (w2 : World), BkAt e enc Mm rest g w2 (P ++ A1 ++ B1 ++ A2 ++ B2 ++ R) → Chg g V w2 →
              f59_j10 (.slice (some ⟨g, 0, none⟩) N c) (.int .i64 (a : Int)) (.int .i64 (b : Int)) cf (.int .i64 ((P.length + D : Nat) : Int)) (.int .i64 ((P.length + k : Nat) : Int)) (.int .i64 ((P.length + A.length + (D - k) : Nat) : Int)) w2 Q := by
            intro w2 b2 c2
            unfold f59_j10
            by_cases z1 : 0 < A1.length
            · have c1' : (a : Int) < ((P.length + k : Nat) : Int) := by omega
              by_cases z2 : 0 < B1.length
              · have c2' : ((P.length + k : Nat) : Int) < ((P.length + D : Nat) : Int) := by omega
                try simp only [↓reduceIte, ↓LL, LM, Value.cells, Nat.reduceAdd, Option.some.injEq, exists_eq_left', decide_true, decide_false, if_true, if_false, reduceCtorEq, cond_true, cond_false, c1', c2']
                refine s59 _ _ _ _ _ w2 _ ?_
                refine ih P A1 B1 (A2 ++ B2 ++ R) _ _ _ w2 _ (by omega) z1 z2 (by rw [← hN, hA12, hB12]; simp; omega) ha (by omega) (by omega) (by simpa using b2) c2 sa.1 sb.1 p1 fun w3 S1 b3 c3 pS1 sS1 => ?_
                try simp only [↓reduceIte, ↓LL, LM, Value.cells, Nat.reduceAdd, Option.some.injEq, exists_eq_left', decide_true, decide_false, if_true, if_false, reduceCtorEq, cond_true, cond_false]
                exact fin2 w3 S1 (by simpa using b3) c3 pS1 sS1
              · have c2' : ¬ ((P.length + k : Nat) : Int) < ((P.length + D : Nat) : Int) := by omega
                try simp only [↓reduceIte, ↓LL, LM, Value.cells, Nat.reduceAdd, Option.some.injEq, exists_eq_left', decide_true, decide_false, if_true, if_false, reduceCtorEq, cond_true, cond_false, c1', c2']
                have hB1 : B1 = [] := List.length_eq_zero_iff.1 (by omega)
                exact fin2 w2 A1 (by rw [hB1] at b2; simpa using b2) c2 (by rw [hB1, List.append_nil]) sa.1
            · have c1' : ¬ (a : Int) < ((P.length + k : Nat) : Int) := by omega
              try simp only [↓reduceIte, ↓LL, LM, Value.cells, Nat.reduceAdd, Option.some.injEq, exists_eq_left', decide_true, decide_false, if_true, if_false, reduceCtorEq, cond_true, cond_false, c1']
              have hA1 : A1 = [] := List.length_eq_zero_iff.1 (by omega)
              exact fin2 w2 B1 (by rw [hA1] at b2; simpa using b2) c2 (by rw [hA1, List.nil_append]) sb.1
          have b1' : BkAt e enc Mm rest g w1 ((P ++ A1) ++ A2 ++ B1 ++ (B2 ++ R)) := by rw [hA12, hB12] at b1; simpa using b1
          by_cases z1 : 0 < A2.length
          · have c1' : ((P.length + k : Nat) : Int) < (mm : Int) := by omega
            by_cases z2 : 0 < B1.length
            · have c2' : (mm : Int) < ((P.length + A.length + (D - k) : Nat) : Int) := by omega
              try simp only [↓reduceIte, ↓LL, LM, Value.cells, Nat.reduceAdd, Option.some.injEq, exists_eq_left', decide_true, decide_false, if_true, if_false, reduceCtorEq, cond_true, cond_false, e8, c1', c2']
              refine f73_s hn14 h1c z1 z2 (by rw [← hN, hA12, hB12]; simp) hbd b1' c1 (by simp; omega) (by simp; omega) (by simp; omega) fun w2 b2 c2 => ?_
              try simp only [↓reduceIte, ↓LL, LM, Value.cells, Nat.reduceAdd, Option.some.injEq, exists_eq_left', decide_true, decide_false, if_true, if_false, reduceCtorEq, cond_true, cond_false]
              exact fin1 w2 (by simpa using b2) c2
            · have c2' : ¬ (mm : Int) < ((P.length + A.length + (D - k) : Nat) : Int) := by omega
              try simp only [↓reduceIte, ↓LL, LM, Value.cells, Nat.reduceAdd, Option.some.injEq, exists_eq_left', decide_true, decide_false, if_true, if_false, reduceCtorEq, cond_true, cond_false, e8, c1', c2']
              have hB1 : B1 = [] := List.length_eq_zero_iff.1 (by omega)
              exact fin1 w1 (by rw [hB1] at b1' ⊢; simpa using b1') c1
          · have c1' : ¬ ((P.length + k : Nat) : Int) < (mm : Int) := by omega
            try simp only [↓reduceIte, ↓LL, LM, Value.cells, Nat.reduceAdd, Option.some.injEq, exists_eq_left', decide_true, decide_false, if_true, if_false, reduceCtorEq, cond_true, cond_false, e8, c1']
            have hA2 : A2 = [] := List.length_eq_zero_iff.1 (by omega)
            exact fin1 w1 (by rw [hA2] at b1' ⊢; simpa using b1') c1
        by_cases hgt : P.length + D < mm
        · have c3 : ((P.length + D : Nat) : Int) < (mm : Int) := by omega
          have e9 : IntKind.i64.wrap (((P.length + D + (P.length + A.length) : Nat) : Int) - (b : Int)) = ((P.length + (D - B.length) : Nat) : Int) := by rw [w64 (by omega) (by omega)]; omega
          try simp only [↓reduceIte, ↓LL, LM, Value.cells, Nat.reduceAdd, Option.some.injEq, exists_eq_left', decide_true, decide_false, if_true, if_false, reduceCtorEq, cond_true, cond_false, c3, e9]
          unfold f59_j7
          try simp only [↓reduceIte, ↓LL, LM, Value.cells, Nat.reduceAdd, Option.some.injEq, exists_eq_left', decide_true, decide_false, if_true, if_false, reduceCtorEq, cond_true, cond_false, e7]
          refine ⟨_, f59_half hn14 h1c O hcmp hbd hN D (D + 1) (D - B.length) D w (by omega) (by omega) (by omega) (by omega) (by omega) (by omega) hp hK hC (fun h0 x y hx hy => ?_) (fun h => by omega) fun w1 k b1 c1 q1 q2 q3 q4 q5 => fin w1 k b1 c1 q1 q2 q3 q4 q5⟩
          rw [show D - (D - B.length) = B.length from by omega, List.getElem?_eq_none (Nat.le_refl _)] at hy
          cases hy
        · have c3 : ¬ ((P.length + D : Nat) : Int) < (mm : Int) := by omega
          try simp only [↓reduceIte, ↓LL, LM, Value.cells, Nat.reduceAdd, Option.some.injEq, exists_eq_left', decide_true, decide_false, if_true, if_false, reduceCtorEq, cond_true, cond_false, c3]
          unfold f59_j7
          try simp only [↓reduceIte, ↓LL, LM, Value.cells, Nat.reduceAdd, Option.some.injEq, exists_eq_left', decide_true, decide_false, if_true, if_false, reduceCtorEq, cond_true, cond_false, e7]
          have := f59_half (Q := Q) (c := c) (ta := .int .i64 (a : Int)) (tm := .int .i64 (mm : Int)) (tb := .int .i64 (b : Int)) (td := .int .i64 ((P.length + D : Nat) : Int)) (D := D) (j8 := f59_j8) hn14 h1c O hcmp hbd hN A.length (A.length + 1) 0 A.length w (by omega) (by omega) (by omega) (by omega) (by omega) (by omega) hp hK hC (fun h0 => by omega) (fun h x y hx hy => by rw [List.getElem?_eq_none (Nat.le_refl _)] at hy; cases hy) fun w1 k b1 c1 q1 q2 q3 q4 q5 => fin w1 k b1 c1 q1 q2 q3 q4 q5
          have ea : (a : Int) = ((P.length + 0 : Nat) : Int) := by rw [ha]; simp
          have em : (mm : Int) = ((P.length + A.length : Nat) : Int) := by rw [hm]
          rw [← ea, ← em] at this
          exact ⟨_, this⟩
end
end Go.Proofs.Ytiajdaagamhbnaa

set_option maxRecDepth 20000
set_option maxHeartbeats 4000000
namespace Go.Proofs.Ytiajdaagamhbnaa
open Sh RowKit Go.MapKept Srt
/-! the whole -/
section
variable {β : Type} {e : TypeId} {enc : β → List Value} {le : β → β → Bool} {Mm : β → Prop} {rest : List Value} {g c N : Nat} {V w : World} {cf : Value} {Q : Value → World → Prop}
theorem f50_runs (hn14 : ∀ x, (enc x).length = 14) (h1c : ∀ x, ∀ v ∈ enc x, v.oneCell' = true) (O : Ord le) (hcmp : CmpOf Try.prog V g cf (fun x => .agg (enc x).toArray) le Mm) (hbd : N ≤ 281474976710656) {L0 : List (β × Nat)} (hinc : L0.Pairwise (fun x y => x.2 < y.2)) (hN : L0.length = N) {j1 : Value → Value → Value → Value → Value → M} : ∀ (d m : Nat) (D : List (β × Nat)) (w : World), L0.length < D.length + d → d < m → D.length ≤ L0.length →
    D.Perm (L0.take D.length) → Pre le 20 D → BkAt e enc Mm rest g w (D ++ L0.drop D.length) → Chg g V w →
    (∀ w' D, BkAt e enc Mm rest g w' (D ++ L0.drop D.length) → Chg g V w' → D.Perm (L0.take D.length) → Pre le 20 D → D.length ≤ L0.length → L0.length < D.length + 20 → j1 (.slice (some ⟨g, 0, none⟩) N c) (.int .i64 (N : Int)) cf (.int .i64 20) (.int .i64 (D.length : Nat)) w' Q) →
    itr (fun _ _ _ _ _ _ => bot) (f50_b2 j1) m (.slice (some ⟨g, 0, none⟩) N c) (.int .i64 (N : Int)) cf (.int .i64 20) (.int .i64 (D.length : Nat)) (.int .i64 ((D.length + 20 : Nat) : Int)) w Q := by
  intro d
  induction d with
  | zero => intro m D w hdd hm hl; omega
  | succ d ih =>
    intro m D w hdd hm hl hp hpre hB hC kk
    obtain ⟨m, rfl⟩ : ∃ x, m = x + 1 := ⟨m - 1, by omega⟩
    show f50_b2 j1 _ _ _ _ _ _ _ w Q
    unfold f50_b2
    by_cases hle : D.length + 20 ≤ N
    · have cc : ((D.length + 20 : Nat) : Int) ≤ (N : Int) := by omega
      have e1 : IntKind.i64.wrap (((D.length + 20 : Nat) : Int) + 20) = ((D.length + 20 + 20 : Nat) : Int) := by rw [w64 (by omega) (by omega)]; rfl
      try simp only [↓reduceIte, ↓LL, LM, Value.cells, Nat.reduceAdd, Option.some.injEq, exists_eq_left', decide_true, decide_false, if_true, if_false, reduceCtorEq, cond_true, cond_false, cc, e1]
      have hsp : L0.drop D.length = (L0.drop D.length).take 20 ++ L0.drop (D.length + 20) := by
        rw [← List.drop_drop]; exact (List.take_append_drop _ _).symm
      have hl20 : ((L0.drop D.length).take 20).length = 20 := by rw [List.length_take, List.length_drop]; omega
      have hinc2 : ((L0.drop D.length).take 20).Pairwise (fun x y => x.2 < y.2) := (hinc.sublist (List.drop_sublist _ _)).sublist (List.take_sublist _ _)
      rw [hsp, ← List.append_assoc] at hB
      have hpl : Pl (L0.take D.length) ((L0.drop D.length).take 20) := fun x hx y hy => by
        have h := hinc
        rw [← List.take_append_drop D.length L0, List.pairwise_append] at h
        exact h.2.2 x hx y (List.mem_of_mem_take hy)
      refine f58_s hn14 h1c O hcmp hbd hinc2 (by rw [← hN]; simp; omega) hB hC rfl (by omega) fun w1 S b1 c1 pS sS => ?_
      have lS : S.length = 20 := by rw [pS.length_eq]; exact hl20
      have lDS : (D ++ S).length = D.length + 20 := by rw [List.length_append, lS]
      try simp only [↓reduceIte, ↓LL, LM, Value.cells, Nat.reduceAdd, Option.some.injEq, exists_eq_left', decide_true, decide_false, if_true, if_false, reduceCtorEq, cond_true, cond_false, e1]
      have := ih m (D ++ S) w1 (by omega) (by omega) (by omega) ?_ (pre_snoc hpre sS lS (pl_perm hpl hp pS)) (by rw [lDS]; exact b1) c1 kk
      · rw [lDS] at this
        exact this
      · rw [lDS, List.take_add]
        exact hp.append pS
    · have cc : ¬ ((D.length + 20 : Nat) : Int) ≤ (N : Int) := by omega
      try simp only [↓reduceIte, ↓LL, LM, Value.cells, Nat.reduceAdd, Option.some.injEq, exists_eq_left', decide_true, decide_false, if_true, if_false, reduceCtorEq, cond_true, cond_false, cc]
      exact kk w D hB hC hp hpre hl (by omega)
theorem f50_pass (hn14 : ∀ x, (enc x).length = 14) (h1c : ∀ x, ∀ v ∈ enc x, v.oneCell' = true) (O : Ord le) (hcmp : CmpOf Try.prog V g cf (fun x => .agg (enc x).toArray) le Mm) (hbd : N ≤ 281474976710656) {L0 : List (β × Nat)} (hN : L0.length = N) {bs : Nat} (hbs : 0 < bs ∧ bs < N) {j4 : Value → Value → Value → Value → Value → M} : ∀ (d m : Nat) (D T : List (β × Nat)) (w : World), L0.length < D.length + d → d < m →
    (D ++ T).Perm L0 → Pre le (2 * bs) D → Rn le bs T → Pl D T → BkAt e enc Mm rest g w (D ++ T) → Chg g V w →
    (∀ w' D T, BkAt e enc Mm rest g w' (D ++ T) → Chg g V w' → (D ++ T).Perm L0 → Pre le (2 * bs) D → Rn le bs T → Pl D T → T.length < 2 * bs → j4 (.slice (some ⟨g, 0, none⟩) N c) (.int .i64 (N : Int)) cf (.int .i64 (bs : Int)) (.int .i64 (D.length : Nat)) w' Q) →
    itr (fun _ _ _ _ _ _ => bot) (f50_b5 j4) m (.slice (some ⟨g, 0, none⟩) N c) (.int .i64 (N : Int)) cf (.int .i64 (bs : Int)) (.int .i64 (D.length : Nat)) (.int .i64 ((D.length + 2 * bs : Nat) : Int)) w Q := by
  intro d
  induction d with
  | zero =>
    intro m D T w hdd hm hp
    have := hp.length_eq
    rw [List.length_append] at this
    omega
  | succ d ih =>
    intro m D T w hdd hm hp hpre hrn hpl hB hC kk
    obtain ⟨m, rfl⟩ : ∃ x, m = x + 1 := ⟨m - 1, by omega⟩
    show f50_b5 j4 _ _ _ _ _ _ _ w Q
    unfold f50_b5
    have hlen := hp.length_eq
    rw [List.length_append] at hlen
    by_cases hle : D.length + 2 * bs ≤ N
    · have cc : ((D.length + 2 * bs : Nat) : Int) ≤ (N : Int) := by omega
      have e1 : IntKind.i64.wrap (((D.length : Nat) : Int) + (bs : Int)) = ((D.length + bs : Nat) : Int) := by rw [w64 (by omega) (by omega)]; rfl
      have e2 : IntKind.i64.wrap ((2 : Int) * (bs : Int)) = ((2 * bs : Nat) : Int) := by rw [w64 (by omega) (by omega)]; omega
      have e3 : IntKind.i64.wrap (((D.length + 2 * bs : Nat) : Int) + ((2 * bs : Nat) : Int)) = ((D.length + 2 * bs + 2 * bs : Nat) : Int) := by rw [w64 (by omega) (by omega)]; rfl
      try simp only [↓reduceIte, ↓LL, LM, Value.cells, Nat.reduceAdd, Option.some.injEq, exists_eq_left', decide_true, decide_false, if_true, if_false, reduceCtorEq, cond_true, cond_false, cc, e1]
      obtain ⟨B1, T1, rfl, s1, l1, p1, r1⟩ := rn_inv hrn (by omega)
      rw [List.length_append] at hlen
      obtain ⟨B2, T2, rfl, s2, l2, p2, r2⟩ := rn_inv r1 (by omega)
      have pp := pl_app.1 p1
      have hB' : BkAt e enc Mm rest g w (D ++ B1 ++ B2 ++ T2) := by simpa using hB
      refine f59_s hn14 h1c O hcmp hbd _ D B1 B2 T2 _ _ _ w _ (Nat.le_refl _) (by omega) (by omega) (by rw [← hN, ← hp.length_eq]; simp; try omega) rfl (by omega) (by omega) hB' hC s1 s2 pp.1 fun w1 S b1 c1 pS sS => ?_
      have lS : S.length = 2 * bs := by rw [pS.length_eq, List.length_append]; omega
      have lDS : (D ++ S).length = D.length + 2 * bs := by rw [List.length_append, lS]
      have pl2 := pl_app.1 hpl
      have pl3 := pl_app.1 pl2.2
      try simp only [↓reduceIte, ↓LL, LM, Value.cells, Nat.reduceAdd, Option.some.injEq, exists_eq_left', decide_true, decide_false, if_true, if_false, reduceCtorEq, cond_true, cond_false, e2, e3]
      have := ih m (D ++ S) T2 w1 (by omega) (by omega) ?_ (pre_snoc hpre sS lS (pl_perm (pl_app.2 ⟨pl2.1, pl3.1⟩) (List.Perm.refl _) pS)) r2 (app_pl.2 ⟨pl3.2, pl_perm (app_pl.2 ⟨pp.2, p2⟩) pS (List.Perm.refl _)⟩) b1 c1 kk
      · rw [lDS] at this
        exact this
      · refine List.Perm.trans ?_ hp
        rw [List.append_assoc]
        refine List.Perm.append_left D ?_
        rw [← List.append_assoc]
        exact pS.append_right T2
    · have cc : ¬ ((D.length + 2 * bs : Nat) : Int) ≤ (N : Int) := by omega
      try simp only [↓reduceIte, ↓LL, LM, Value.cells, Nat.reduceAdd, Option.some.injEq, exists_eq_left', decide_true, decide_false, if_true, if_false, reduceCtorEq, cond_true, cond_false, cc]
      exact kk w D T hB hC hp hpre hrn hpl (by omega)
theorem f50_all (hn14 : ∀ x, (enc x).length = 14) (h1c : ∀ x, ∀ v ∈ enc x, v.oneCell' = true) (O : Ord le) (hcmp : CmpOf Try.prog V g cf (fun x => .agg (enc x).toArray) le Mm) (hbd : N ≤ 281474976710656) {L0 : List (β × Nat)} (hN : L0.length = N) : ∀ (d m bs : Nat) (T : List (β × Nat)) (w : World), N ≤ bs + d → d < m → 0 < bs → bs ≤ 2 * N + 20 →
    T.Perm L0 → Rn le bs T → BkAt e enc Mm rest g w T → Chg g V w →
    (∀ w' T, BkAt e enc Mm rest g w' T → Chg g V w' → T.Perm L0 → Sd le T → Q (.tuple #[]) w') →
    itr (fun _ _ _ _ => bot) (f50_b3) m (.slice (some ⟨g, 0, none⟩) N c) (.int .i64 (N : Int)) cf (.int .i64 (bs : Int)) w Q := by
  intro d
  induction d with
  | zero =>
    intro m bs T w hdd hm h0 hbs hp hrn hB hC kk
    obtain ⟨m, rfl⟩ : ∃ x, m = x + 1 := ⟨m - 1, by omega⟩
    show f50_b3 _ _ _ _ _ w Q
    unfold f50_b3
    have cc : ¬ (bs : Int) < (N : Int) := by omega
    try simp only [↓reduceIte, ↓LL, LM, Value.cells, Nat.reduceAdd, Option.some.injEq, exists_eq_left', decide_true, decide_false, if_true, if_false, reduceCtorEq, cond_true, cond_false, cc]
    exact kk w T hB hC hp (rn_one hrn (by rw [hp.length_eq]; omega))
  | succ d ih =>
    intro m bs T w hdd hm h0 hbs hp hrn hB hC kk
    obtain ⟨m, rfl⟩ : ∃ x, m = x + 1 := ⟨m - 1, by omega⟩
    show f50_b3 _ _ _ _ _ w Q
    unfold f50_b3
    by_cases hlt : bs < N
    · have cc : (bs : Int) < (N : Int) := by omega
      have e2 : IntKind.i64.wrap ((2 : Int) * (bs : Int)) = ((2 * bs : Nat) : Int) := by rw [w64 (by omega) (by omega)]; omega
      have e5 : ((2 * bs : Nat) : Int) = ((([] : List (β × Nat)).length + 2 * bs : Nat) : Int) := by simp
      have e4 : IntKind.i64.wrap ((bs : Int) * (2 : Int)) = ((2 * bs : Nat) : Int) := by rw [w64 (by omega) (by omega)]; omega
      try simp only [↓reduceIte, ↓LL, LM, Value.cells, Nat.reduceAdd, Option.some.injEq, exists_eq_left', decide_true, decide_false, if_true, if_false, reduceCtorEq, cond_true, cond_false, cc, e2]
      rw [e5]
      refine ⟨_, f50_pass (Q := Q) (j4 := f50_j4 (itr (fun _ _ _ _ => bot) f50_b3 m)) hn14 h1c O hcmp hbd hN ⟨h0, hlt⟩ (N + 1) (N + 2) [] T w (by simp; omega) (by omega) (by simpa using hp) pre_nil hrn (fun x hx => by cases hx) (by simpa using hB) hC fun w1 D T1 b1 c1 p1 q1 r1 l1 z1 => ?_⟩
      unfold f50_j4
      have hlen := p1.length_eq
      rw [List.length_append] at hlen
      have e1 : IntKind.i64.wrap (((D.length : Nat) : Int) + (bs : Int)) = ((D.length + bs : Nat) : Int) := by rw [w64 (by omega) (by omega)]; rfl
      by_cases hm2 : D.length + bs < N
      · have c2 : ((D.length + bs : Nat) : Int) < (N : Int) := by omega
        try simp only [↓reduceIte, ↓LL, LM, Value.cells, Nat.reduceAdd, Option.some.injEq, exists_eq_left', decide_true, decide_false, if_true, if_false, reduceCtorEq, cond_true, cond_false, e1, c2]
        obtain ⟨B1, T2, rfl, s1, l2, p2, r2⟩ := rn_inv r1 (by omega)
        rw [List.length_append] at hlen z1
        have sT2 := rn_last r2 (by omega)
        have b1' : BkAt e enc Mm rest g w1 (D ++ B1 ++ T2 ++ []) := by simpa using b1
        refine f59_s hn14 h1c O hcmp hbd _ D B1 T2 [] _ _ _ w1 _ (Nat.le_refl _) (by omega) (by omega) (by rw [← hN, ← p1.length_eq]; simp; try omega) rfl (by omega) (by omega) b1' c1 s1 sT2 p2 fun w2 S b2 c2 pS sS => ?_
        unfold f50_j6
        try simp only [↓reduceIte, ↓LL, LM, Value.cells, Nat.reduceAdd, Option.some.injEq, exists_eq_left', decide_true, decide_false, if_true, if_false, reduceCtorEq, cond_true, cond_false, e4]
        have lS : S.length < 2 * bs := by rw [pS.length_eq, List.length_append]; omega
        refine ih m (2 * bs) (D ++ S) w2 (by omega) (by omega) (by omega) (by omega) ((pS.append_left D).trans p1) (q1 S (.last sS lS) (pl_perm l1 (List.Perm.refl _) pS)) (by simpa using b2) c2 kk
      · have c2 : ¬ ((D.length + bs : Nat) : Int) < (N : Int) := by omega
        try simp only [↓reduceIte, ↓LL, LM, Value.cells, Nat.reduceAdd, Option.some.injEq, exists_eq_left', decide_true, decide_false, if_true, if_false, reduceCtorEq, cond_true, cond_false, e1, c2]
        unfold f50_j6
        try simp only [↓reduceIte, ↓LL, LM, Value.cells, Nat.reduceAdd, Option.some.injEq, exists_eq_left', decide_true, decide_false, if_true, if_false, reduceCtorEq, cond_true, cond_false, e4]
        exact ih m (2 * bs) (D ++ T1) w1 (by omega) (by omega) (by omega) (by omega) p1 (q1 T1 (.last (rn_one r1 (by omega)) z1) l1) b1 c1 kk
    · have cc : ¬ (bs : Int) < (N : Int) := by omega
      try simp only [↓reduceIte, ↓LL, LM, Value.cells, Nat.reduceAdd, Option.some.injEq, exists_eq_left', decide_true, decide_false, if_true, if_false, reduceCtorEq, cond_true, cond_false, cc]
      exact kk w T hB hC hp (rn_one hrn (by rw [hp.length_eq]; omega))
/-- sorted, ties staying -/
theorem f35_s (hn14 : ∀ x, (enc x).length = 14) (h1c : ∀ x, ∀ v ∈ enc x, v.oneCell' = true) (O : Ord le) (hcmp : CmpOf Try.prog V g cf (fun x => .agg (enc x).toArray) le Mm) (hbd : N ≤ 281474976710656) {l : List β} (hN : l.length = N) (hB : BkAt e enc Mm rest g w (num 0 l)) (hC : Chg g V w)
    (kk : ∀ w', BkAt e enc Mm rest g w' (isort le (num 0 l)) → Chg g V w' → Q (.tuple #[]) w') : f35 (.slice (some ⟨g, 0, none⟩) N c) cf w Q := by
  unfold f35 f50
  have hN0 : (num 0 l).length = N := by rw [num_len]; exact hN
  try simp only [↓reduceIte, ↓LL, LM, Value.cells, Nat.reduceAdd, Option.some.injEq, exists_eq_left', decide_true, decide_false, if_true, if_false, reduceCtorEq, cond_true, cond_false]
  refine ⟨_, f50_runs (Q := _) (j1 := f50_j1) hn14 h1c O hcmp hbd (num_inc l 0) hN0 (N + 1) (N + 2) [] w (by simp; omega) (by omega) (by simp) (by simp) pre_nil (by simpa using hB) hC fun w1 D b1 c1 p1 q1 l1 l2 => ?_⟩
  unfold f50_j1
  try simp only [↓reduceIte, ↓LL, LM, Value.cells, Nat.reduceAdd, Option.some.injEq, exists_eq_left', decide_true, decide_false, if_true, if_false, reduceCtorEq, cond_true, cond_false]
  have hinc2 : ((num 0 l).drop D.length).Pairwise (fun x y => x.2 < y.2) := (num_inc l 0).sublist (List.drop_sublist _ _)
  have hpl : Pl ((num 0 l).take D.length) ((num 0 l).drop D.length) := fun x hx y hy => by
    have h := num_inc l 0
    rw [← List.take_append_drop D.length (num 0 l), List.pairwise_append] at h
    exact h.2.2 x hx y hy
  have b1' : BkAt e enc Mm rest g w1 (D ++ (num 0 l).drop D.length ++ []) := by simpa using b1
  refine f58_s hn14 h1c O hcmp hbd (R := []) hinc2 (by rw [← hN0]; simp; omega) b1' c1 rfl (by simp; omega) fun w2 S b2 c2 pS sS => ?_
  have lS : S.length = N - D.length := by rw [pS.length_eq, List.length_drop]; omega
  try simp only [↓reduceIte, ↓LL, LM, Value.cells, Nat.reduceAdd, Option.some.injEq, exists_eq_left', decide_true, decide_false, if_true, if_false, reduceCtorEq, cond_true, cond_false]
  refine ⟨_, f50_all hn14 h1c O hcmp hbd hN0 (N + 1) (N + 2) 20 (D ++ S) w2 (by omega) (by omega) (by omega) (by omega) ?_ (q1 S (.last sS (by omega)) (pl_perm hpl p1 pS)) (by simpa using b2) c2 fun w3 T b3 c3 p3 s3 => ?_⟩
  · have := p1.append pS
    rwa [List.take_append_drop] at this
  · try simp only [↓reduceIte, ↓LL, LM, Value.cells, Nat.reduceAdd, Option.some.injEq, exists_eq_left', decide_true, decide_false, if_true, if_false, reduceCtorEq, cond_true, cond_false]
    rw [sorted_is O p3 s3] at b3
    exact kk w3 b3 c3
/-- nothing to sort -/
theorem f35_nil (kk : Q (.tuple #[]) w) : f35 (.slice none 0 0) cf w Q := by
  unfold f35 f50
  try simp only [↓reduceIte, ↓LL, LM, Value.cells, Nat.reduceAdd, Option.some.injEq, exists_eq_left', decide_true, decide_false, if_true, if_false, reduceCtorEq, cond_true, cond_false]
  refine ⟨1, ?_⟩
  show f50_b2 f50_j1 _ _ _ _ _ _ _ w _
  unfold f50_b2
  have c1 : ¬ ((20 : Int) ≤ ((0 : Nat) : Int)) := by decide
  try simp only [↓reduceIte, ↓LL, LM, Value.cells, Nat.reduceAdd, Option.some.injEq, exists_eq_left', decide_true, decide_false, if_true, if_false, reduceCtorEq, cond_true, cond_false, c1]
  unfold f50_j1 f58
  have e1 : IntKind.i64.wrap ((0 : Int) + 1) = 1 := rfl
  try simp only [↓reduceIte, ↓LL, LM, Value.cells, Nat.reduceAdd, Option.some.injEq, exists_eq_left', decide_true, decide_false, if_true, if_false, reduceCtorEq, cond_true, cond_false, e1]
  refine ⟨1, ?_⟩
  show f58_b1 _ _ _ _ _ _ w _
  unfold f58_b1
  have c2 : ¬ ((1 : Int) < ((0 : Nat) : Int)) := by decide
  try simp only [↓reduceIte, ↓LL, LM, Value.cells, Nat.reduceAdd, Option.some.injEq, exists_eq_left', decide_true, decide_false, if_true, if_false, reduceCtorEq, cond_true, cond_false, c2]
  refine ⟨1, ?_⟩
  show f50_b3 _ _ _ _ _ w _
  unfold f50_b3
  have c3 : ¬ ((20 : Int) < ((0 : Nat) : Int)) := by decide
  try simp only [↓reduceIte, ↓LL, LM, Value.cells, Nat.reduceAdd, Option.some.injEq, exists_eq_left', decide_true, decide_false, if_true, if_false, reduceCtorEq, cond_true, cond_false, c3]
  exact kk
end
end Go.Proofs.Ytiajdaagamhbnaa

set_option maxRecDepth 20000
set_option maxHeartbeats 4000000
namespace Go.Proofs.Ytiajdaagamhbnaa
open Sh RowKit Go.MapKept Srt
/-! stable sorting: insertion, exchange of ranges, rotation (functions INS, SWR, ROT of the slices package at one element type) -/
section
variable {β : Type} {e : TypeId} {enc : β → List Value} {le : β → β → Bool} {Mm : β → Prop} {rest : List Value} {g c N : Nat} {V w : World} {cf : Value} {Q : Value → World → Prop}
theorem f81_loop (hn14 : ∀ x, (enc x).length = 6) (h1c : ∀ x, ∀ v ∈ enc x, v.oneCell' = true) {P A M B R : List (β × Nat)} (hAB : A.length = B.length) (hN : (P ++ A ++ M ++ B ++ R).length = N) (hbd : N ≤ 281474976710656) : ∀ (d m i : Nat) (w : World), i + d = A.length → d < m →
    BkAt e enc Mm rest g w (P ++ (B.take i ++ A.drop i) ++ M ++ (A.take i ++ B.drop i) ++ R) → Chg g V w → (∀ w', BkAt e enc Mm rest g w' (P ++ B ++ M ++ A ++ R) → Chg g V w' → Q (.tuple #[]) w') →
    itr (fun _ _ _ _ _ => bot) f81_b1 m (.slice (some ⟨g, 0, none⟩) N c) (.int .i64 (P.length : Nat)) (.int .i64 ((P.length + A.length + M.length : Nat) : Int)) (.int .i64 (A.length : Nat)) (.int .i64 (i : Int)) w Q := by
  intro d
  induction d with
  | zero =>
    intro m i w hi hm hB hC kk
    obtain ⟨m, rfl⟩ : ∃ x, m = x + 1 := ⟨m - 1, by omega⟩
    show f81_b1 _ _ _ _ _ _ w Q
    unfold f81_b1
    have cc : ¬ (i : Int) < (A.length : Nat) := by omega
    try simp only [↓reduceIte, ↓LL, LM, Value.cells, Nat.reduceAdd, Option.some.injEq, exists_eq_left', decide_true, decide_false, if_true, if_false, reduceCtorEq, cond_true, cond_false, cc]
    rw [List.take_of_length_le (by omega : B.length ≤ i), List.drop_of_length_le (by omega : A.length ≤ i), List.take_of_length_le (by omega : A.length ≤ i), List.drop_of_length_le (by omega : B.length ≤ i), List.append_nil, List.append_nil] at hB
    exact kk w hB hC
  | succ d ih =>
    intro m i w hi hm hB hC kk
    obtain ⟨m, rfl⟩ : ∃ x, m = x + 1 := ⟨m - 1, by omega⟩
    show f81_b1 _ _ _ _ _ _ w Q
    unfold f81_b1
    have cc : (i : Int) < (A.length : Nat) := by omega
    have hiA : i < A.length := by omega
    have hiB : i < B.length := by omega
    simp only [List.length_append] at hN
    have e1 : IntKind.i64.wrap (((P.length : Nat) : Int) + (i : Int)) = ((P.length + i : Nat) : Int) := by rw [w64 (by omega) (by omega)]; omega
    have e2 : IntKind.i64.wrap (((P.length + A.length + M.length : Nat) : Int) + (i : Int)) = ((P.length + A.length + M.length + i : Nat) : Int) := by rw [w64 (by omega) (by omega)]; omega
    have e3 : IntKind.i64.wrap ((i : Int) + 1) = ((i + 1 : Nat) : Int) := by rw [w64 (by omega) (by omega)]; rfl
    have hB := hB.drw
    have hC := hC.drw
    have hL : P ++ (B.take i ++ A.drop i) ++ M ++ (A.take i ++ B.drop i) ++ R = (P ++ B.take i) ++ A[i] :: ((A.drop (i + 1) ++ M ++ A.take i) ++ B[i] :: (B.drop (i + 1) ++ R)) := by
      rw [List.drop_eq_getElem_cons hiA, List.drop_eq_getElem_cons hiB]; simp only [List.append_assoc, List.cons_append]
    have hlen : (P ++ (B.take i ++ A.drop i) ++ M ++ (A.take i ++ B.drop i) ++ R).length = N := by simp; omega
    obtain ⟨g1, g2, k1, k2, x1, x2⟩ := line_get (i := P.length + i) (j := P.length + A.length + M.length + i) hL (by simp; omega) (by simp; omega)
    try simp only [↓reduceIte, ↓LL, LM, Value.cells, Nat.reduceAdd, Option.some.injEq, exists_eq_left', decide_true, decide_false, if_true, if_false, reduceCtorEq, cond_true, cond_false, cc, e1, e2, e3]
    first | refine rdN hB hlen hn14 h1c g2 ?_ | refine rdNg hB hlen hn14 h1c g2 ?_
    try simp only [↓reduceIte, ↓LL, LM, Value.cells, Nat.reduceAdd, Option.some.injEq, exists_eq_left', decide_true, decide_false, if_true, if_false, reduceCtorEq, cond_true, cond_false, cc, e1, e2, e3]
    first | refine rdN hB hlen hn14 h1c g1 ?_ | refine rdNg hB hlen hn14 h1c g1 ?_
    try simp only [↓reduceIte, ↓LL, LM, Value.cells, Nat.reduceAdd, Option.some.injEq, exists_eq_left', decide_true, decide_false, if_true, if_false, reduceCtorEq, cond_true, cond_false, cc, e1, e2, e3]
    refine stN hB hlen hn14 h1c k1 (hB.mem _ (List.mem_of_getElem? g2)) fun w1 b1 u1 => ?_
    try simp only [↓reduceIte, ↓LL, LM, Value.cells, Nat.reduceAdd, Option.some.injEq, exists_eq_left', decide_true, decide_false, if_true, if_false, reduceCtorEq, cond_true, cond_false, cc, e1, e2, e3]
    refine stN b1 (by rw [List.length_set]; exact hlen) hn14 h1c (by rw [List.length_set]; exact k2) (hB.mem _ (List.mem_of_getElem? g1)) fun w2 b2 u2 => ?_
    rw [x1] at b2
    try simp only [↓reduceIte, ↓LL, LM, Value.cells, Nat.reduceAdd, Option.some.injEq, exists_eq_left', decide_true, decide_false, if_true, if_false, reduceCtorEq, cond_true, cond_false, cc, e1, e2, e3]
    refine ih m (i + 1) w2 (by omega) (by omega) ?_ (u2c hC u1 u2) kk
    rw [List.take_succ_eq_append_getElem hiA, List.take_succ_eq_append_getElem hiB]
    have e : (P ++ B.take i) ++ B[i] :: ((A.drop (i + 1) ++ M ++ A.take i) ++ A[i] :: (B.drop (i + 1) ++ R)) = P ++ (B.take i ++ [B[i]] ++ A.drop (i + 1)) ++ M ++ (A.take i ++ [A[i]] ++ B.drop (i + 1)) ++ R := by simp only [List.append_assoc, List.cons_append, List.nil_append]
    rw [← e]; exact b2
/-- two ranges exchanged -/
theorem f81_s (hn14 : ∀ x, (enc x).length = 6) (h1c : ∀ x, ∀ v ∈ enc x, v.oneCell' = true) {P A M B R : List (β × Nat)} {a b n : Nat} (hAB : A.length = B.length) (hN : (P ++ A ++ M ++ B ++ R).length = N) (hbd : N ≤ 281474976710656) (hB : BkAt e enc Mm rest g w (P ++ A ++ M ++ B ++ R)) (hC : Chg g V w) (ha : a = P.length) (hb : b = P.length + A.length + M.length) (hn' : n = A.length)
    {t4 : Value} (kk : ∀ w', BkAt e enc Mm rest g w' (P ++ B ++ M ++ A ++ R) → Chg g V w' → Q (.tuple #[]) w') : f81 (.slice (some ⟨g, 0, none⟩) N c) (.int .i64 (a : Int)) (.int .i64 (b : Int)) (.int .i64 (n : Int)) t4 w Q := by
  subst ha hb hn'
  unfold f81
  exact ⟨_, f81_loop hn14 h1c hAB hN hbd A.length (A.length + 1) 0 w (by omega) (by omega) (by simpa using hB) hC kk⟩
theorem f74_loop (hn14 : ∀ x, (enc x).length = 6) (h1c : ∀ x, ∀ v ∈ enc x, v.oneCell' = true) {tgt : List (β × Nat)} {mm : Nat} (hbd : N ≤ 281474976710656) {t4 : Value} : ∀ (d m : Nat) (P A B R : List (β × Nat)) (w : World), A.length + B.length ≤ d → d < m → 0 < A.length → 0 < B.length → (P ++ A ++ B ++ R).length = N → P ++ B ++ A ++ R = tgt → mm = P.length + A.length →
    BkAt e enc Mm rest g w (P ++ A ++ B ++ R) → Chg g V w → (∀ w', BkAt e enc Mm rest g w' tgt → Chg g V w' → Q (.tuple #[]) w') →
    itr (fun _ _ _ _ _ => bot) (f74_b2 f74_j1) m (.slice (some ⟨g, 0, none⟩) N c) (.int .i64 (mm : Int)) t4 (.int .i64 (A.length : Nat)) (.int .i64 (B.length : Nat)) w Q := by
  intro d
  induction d with
  | zero => intro m P A B R w hd hm hA hB; omega
  | succ d ih =>
    intro m P A B R w hd hm hA hB hN ht hmm hK hC kk
    obtain ⟨m, rfl⟩ : ∃ x, m = x + 1 := ⟨m - 1, by omega⟩
    show f74_b2 f74_j1 _ _ _ _ _ _ w Q
    unfold f74_b2
    have hN' := hN
    simp only [List.length_append] at hN'
    have e1 : IntKind.i64.wrap ((mm : Int) - (A.length : Nat)) = (P.length : Nat) := by rw [w64 (by omega) (by omega)]; omega
    by_cases heq : A.length = B.length
    · have heq' : ((A.length : Nat) : Int) = (B.length : Nat) := by omega
      try simp only [↓reduceIte, ↓LL, LM, Value.cells, Nat.reduceAdd, Option.some.injEq, exists_eq_left', decide_true, decide_false, if_true, if_false, reduceCtorEq, cond_true, cond_false, ne_eq, heq']
      unfold f74_j1
      rw [← heq']
      try simp only [↓reduceIte, ↓LL, LM, Value.cells, Nat.reduceAdd, Option.some.injEq, exists_eq_left', decide_true, decide_false, if_true, if_false, reduceCtorEq, cond_true, cond_false, e1]
      refine f81_s (P := P) (A := A) (M := []) (B := B) (R := R) hn14 h1c heq (by simpa using hN) hbd (by simpa using hK) hC rfl (by simpa using hmm) rfl fun w1 b1 c1 => ?_
      try simp only [↓reduceIte, ↓LL, LM, Value.cells, Nat.reduceAdd, Option.some.injEq, exists_eq_left', decide_true, decide_false, if_true, if_false, reduceCtorEq, cond_true, cond_false]
      refine kk w1 ?_ c1
      rw [← ht]
      simpa using b1
    · have heq' : ¬ ((A.length : Nat) : Int) = (B.length : Nat) := by omega
      by_cases hgt : B.length < A.length
      · have hgt' : ((B.length : Nat) : Int) < (A.length : Nat) := by omega
        have e2 : IntKind.i64.wrap (((A.length : Nat) : Int) - (B.length : Nat)) = ((A.length - B.length : Nat) : Int) := by rw [w64 (by omega) (by omega)]; omega
        try simp only [↓reduceIte, ↓LL, LM, Value.cells, Nat.reduceAdd, Option.some.injEq, exists_eq_left', decide_true, decide_false, if_true, if_false, reduceCtorEq, cond_true, cond_false, ne_eq, heq', hgt', e1, e2]
        obtain ⟨A1, A2, hA12, hl1⟩ : ∃ A1 A2, A = A1 ++ A2 ∧ A1.length = B.length := ⟨A.take B.length, A.drop B.length, (List.take_append_drop _ _).symm, by rw [List.length_take]; omega⟩
        have hl2 : A2.length = A.length - B.length := by have := congrArg List.length hA12; rw [List.length_append] at this; omega
        refine f81_s (P := P) (A := A1) (M := A2) (B := B) (R := R) hn14 h1c hl1 (by rw [hA12] at hN; simpa using hN) hbd (by rw [hA12] at hK; simpa using hK) hC rfl (by omega) hl1.symm fun w1 b1 c1 => ?_
        try simp only [↓reduceIte, ↓LL, LM, Value.cells, Nat.reduceAdd, Option.some.injEq, exists_eq_left', decide_true, decide_false, if_true, if_false, reduceCtorEq, cond_true, cond_false, e1, e2]
        have := ih m (P ++ B) A2 A1 R w1 (by omega) (by omega) (by omega) (by omega) (by rw [← hN, hA12]; simp only [List.length_append]; omega) (by rw [← ht, hA12]; simp only [List.append_assoc]) (by rw [List.length_append]; omega) b1 c1 kk
        rw [hl1, hl2] at this
        exact this
      · have hgt' : ¬ ((B.length : Nat) : Int) < (A.length : Nat) := by omega
        have e3 : IntKind.i64.wrap ((mm : Int) + (B.length : Nat)) = ((mm + B.length : Nat) : Int) := by rw [w64 (by omega) (by omega)]; omega
        have e4 : IntKind.i64.wrap (((mm + B.length : Nat) : Int) - (A.length : Nat)) = ((mm + B.length - A.length : Nat) : Int) := by rw [w64 (by omega) (by omega)]; omega
        have e2 : IntKind.i64.wrap (((B.length : Nat) : Int) - (A.length : Nat)) = ((B.length - A.length : Nat) : Int) := by rw [w64 (by omega) (by omega)]; omega
        try simp only [↓reduceIte, ↓LL, LM, Value.cells, Nat.reduceAdd, Option.some.injEq, exists_eq_left', decide_true, decide_false, if_true, if_false, reduceCtorEq, cond_true, cond_false, ne_eq, heq', hgt', e1, e2, e3, e4]
        obtain ⟨B1, B2, hB12, hl1⟩ : ∃ B1 B2, B = B1 ++ B2 ∧ B2.length = A.length := ⟨B.take (B.length - A.length), B.drop (B.length - A.length), (List.take_append_drop _ _).symm, by rw [List.length_drop]; omega⟩
        have hl2 : B1.length = B.length - A.length := by have := congrArg List.length hB12; rw [List.length_append] at this; omega
        refine f81_s (P := P) (A := A) (M := B1) (B := B2) (R := R) hn14 h1c hl1.symm (by rw [hB12] at hN; simpa using hN) hbd (by rw [hB12] at hK; simpa using hK) hC rfl (by omega) rfl fun w1 b1 c1 => ?_
        try simp only [↓reduceIte, ↓LL, LM, Value.cells, Nat.reduceAdd, Option.some.injEq, exists_eq_left', decide_true, decide_false, if_true, if_false, reduceCtorEq, cond_true, cond_false, e1, e2]
        have := ih m P B2 B1 (A ++ R) w1 (by omega) (by omega) (by omega) (by omega) (by rw [← hN, hB12]; simp only [List.length_append]; omega) (by rw [← ht, hB12]; simp only [List.append_assoc]) (by omega) (by simpa using b1) c1 kk
        rw [hl1, hl2] at this
        exact this
/-- two neighbours exchanged -/
theorem f74_s (hn14 : ∀ x, (enc x).length = 6) (h1c : ∀ x, ∀ v ∈ enc x, v.oneCell' = true) {P A B R : List (β × Nat)} {a mm b : Nat} (hA : 0 < A.length) (hB : 0 < B.length) (hN : (P ++ A ++ B ++ R).length = N) (hbd : N ≤ 281474976710656) (hK : BkAt e enc Mm rest g w (P ++ A ++ B ++ R)) (hC : Chg g V w) (ha : a = P.length) (hm : mm = P.length + A.length) (hb : b = P.length + A.length + B.length)
    {t4 : Value} (kk : ∀ w', BkAt e enc Mm rest g w' (P ++ B ++ A ++ R) → Chg g V w' → Q (.tuple #[]) w') : f74 (.slice (some ⟨g, 0, none⟩) N c) (.int .i64 (a : Int)) (.int .i64 (mm : Int)) (.int .i64 (b : Int)) t4 w Q := by
  have hN' := hN
  simp only [List.length_append] at hN'
  have e1 : IntKind.i64.wrap ((mm : Int) - (a : Int)) = (A.length : Nat) := by rw [w64 (by omega) (by omega)]; omega
  have e2 : IntKind.i64.wrap ((b : Int) - (mm : Int)) = (B.length : Nat) := by rw [w64 (by omega) (by omega)]; omega
  unfold f74
  try simp only [↓reduceIte, ↓LL, LM, Value.cells, Nat.reduceAdd, Option.some.injEq, exists_eq_left', decide_true, decide_false, if_true, if_false, reduceCtorEq, cond_true, cond_false, e1, e2]
  exact ⟨_, f74_loop hn14 h1c hbd _ _ P A B R w (Nat.le_refl _) (Nat.lt_succ_self _) hA hB hN rfl hm hK hC kk⟩
end
/-! insertion -/
section
variable {β : Type} {e : TypeId} {enc : β → List Value} {le : β → β → Bool} {Mm : β → Prop} {rest : List Value} {g c N : Nat} {V w : World} {cf : Value} {Q : Value → World → Prop}
theorem f60_in (hn14 : ∀ x, (enc x).length = 6) (h1c : ∀ x, ∀ v ∈ enc x, v.oneCell' = true) (O : Ord le) (hcmp : CmpOf Try.prog V g cf (fun x => .agg (enc x).toArray) le Mm) (hbd : N ≤ 281474976710656) {P R : List (β × Nat)} {x : β × Nat} {tb ti : Value} {j2 : Value → Value → Value → Value → Value → M} : ∀ (d m : Nat) (S1 S2 : List (β × Nat)) (w : World), S1.length = d → d < m →
    (P ++ S1 ++ x :: (S2 ++ R)).length = N → BkAt e enc Mm rest g w (P ++ S1 ++ x :: (S2 ++ R)) → Chg g V w → Sd le (S1 ++ S2) → (∀ y ∈ S2, slt le x y) → (∀ y ∈ S1, y.2 < x.2) →
    (∀ w' S, BkAt e enc Mm rest g w' (P ++ S ++ R) → Chg g V w' → S.Perm (x :: (S1 ++ S2)) → Sd le S → j2 (.slice (some ⟨g, 0, none⟩) N c) (.int .i64 (P.length : Nat)) tb cf ti w' Q) →
    itr (fun _ _ _ _ _ _ => bot) (f60_b3 j2) m (.slice (some ⟨g, 0, none⟩) N c) (.int .i64 (P.length : Nat)) tb cf ti (.int .i64 ((P.length + S1.length : Nat) : Int)) w Q := by
  intro d
  induction d with
  | zero =>
    intro m S1 S2 w hd hm hN hB hC hs h2 hp kk
    obtain ⟨m, rfl⟩ : ∃ x, m = x + 1 := ⟨m - 1, by omega⟩
    show f60_b3 j2 _ _ _ _ _ _ _ w Q
    unfold f60_b3
    have h0 : S1 = [] := List.length_eq_zero_iff.1 hd
    subst h0
    have cc : ¬ ((P.length : Nat) : Int) < ((P.length + ([] : List (β × Nat)).length : Nat) : Int) := by simp
    try simp only [↓reduceIte, ↓LL, LM, Value.cells, Nat.reduceAdd, Option.some.injEq, exists_eq_left', decide_true, decide_false, if_true, if_false, reduceCtorEq, cond_true, cond_false, cc]
    refine kk (drw w) (x :: S2) (by simpa using hB.drw) hC.drw (by simp) (List.pairwise_cons.2 ⟨h2, by simpa using hs⟩)
  | succ d ih =>
    intro m S1 S2 w hd hm hN hB hC hs h2 hp kk
    obtain ⟨m, rfl⟩ : ∃ x, m = x + 1 := ⟨m - 1, by omega⟩
    show f60_b3 j2 _ _ _ _ _ _ _ w Q
    unfold f60_b3
    obtain ⟨S1', y, rfl⟩ : ∃ S1' y, S1 = S1' ++ [y] := by
      rcases List.eq_nil_or_concat S1 with h | ⟨l, y, h⟩
      · rw [h] at hd; simp at hd
      · exact ⟨l, y, by simpa using h⟩
    have hlen := hN
    have hN' := hN
    simp only [List.length_append, List.length_cons, List.length_nil] at hN'
    have cc : ((P.length : Nat) : Int) < ((P.length + (S1' ++ [y]).length : Nat) : Int) := by simp; omega
    have e1 : IntKind.i64.wrap (((P.length + (S1' ++ [y]).length : Nat) : Int) - 1) = ((P.length + S1'.length : Nat) : Int) := by rw [w64 (by simp; omega) (by simp; omega)]; simp; try omega
    have hL : P ++ (S1' ++ [y]) ++ x :: (S2 ++ R) = (P ++ S1') ++ y :: ([] ++ x :: (S2 ++ R)) := by simp
    obtain ⟨g1, g2, k1, k2, x1, x2⟩ := line_get (i := P.length + S1'.length) (j := P.length + (S1' ++ [y]).length) hL (by simp) (by simp; omega)
    have hBd := hB.drw
    have hCd := hC.drw
    have hx := hBd.mem _ (List.mem_of_getElem? g2)
    have hy := hBd.mem _ (List.mem_of_getElem? g1)
    try simp only [↓reduceIte, ↓LL, LM, Value.cells, Nat.reduceAdd, Option.some.injEq, exists_eq_left', decide_true, decide_false, if_true, if_false, reduceCtorEq, cond_true, cond_false, cc, e1]
    first | refine rdN hBd hlen hn14 h1c g2 ?_ | refine rdNg hBd hlen hn14 h1c g2 ?_
    try simp only [↓reduceIte, ↓LL, LM, Value.cells, Nat.reduceAdd, Option.some.injEq, exists_eq_left', decide_true, decide_false, if_true, if_false, reduceCtorEq, cond_true, cond_false, cc, e1]
    first | refine rdN hBd hlen hn14 h1c g1 ?_ | refine rdNg hBd hlen hn14 h1c g1 ?_
    try simp only [↓reduceIte, ↓LL, LM, Value.cells, Nat.reduceAdd, Option.some.injEq, exists_eq_left', decide_true, decide_false, if_true, if_false, reduceCtorEq, cond_true, cond_false, cc, e1]
    refine hcmp x.1 y.1 _ _ _ hCd hx hy fun w1 z b1 hz => ?_
    have hB1 := hBd.below b1
    have hC1 := hCd.trans (Chg.of_below b1)
    cases hle : le y.1 x.1 with
    | false =>
      have hz0 : z < 0 := hz.2 hle
      have hxy := slt_nle O hle
      try simp only [↓reduceIte, ↓LL, LM, Value.cells, Nat.reduceAdd, Option.some.injEq, exists_eq_left', decide_true, decide_false, if_true, if_false, reduceCtorEq, cond_true, cond_false, cc, hz0]
      have hB1 := hB1.drw
      have hC1 := hC1.drw
      try simp only [↓reduceIte, ↓LL, LM, Value.cells, Nat.reduceAdd, Option.some.injEq, exists_eq_left', decide_true, decide_false, if_true, if_false, reduceCtorEq, cond_true, cond_false, cc, e1]
      first | refine rdN hB1 hlen hn14 h1c g1 ?_ | refine rdNg hB1 hlen hn14 h1c g1 ?_
      try simp only [↓reduceIte, ↓LL, LM, Value.cells, Nat.reduceAdd, Option.some.injEq, exists_eq_left', decide_true, decide_false, if_true, if_false, reduceCtorEq, cond_true, cond_false, cc, e1]
      first | refine rdN hB1 hlen hn14 h1c g2 ?_ | refine rdNg hB1 hlen hn14 h1c g2 ?_
      try simp only [↓reduceIte, ↓LL, LM, Value.cells, Nat.reduceAdd, Option.some.injEq, exists_eq_left', decide_true, decide_false, if_true, if_false, reduceCtorEq, cond_true, cond_false, cc, e1]
      refine stN hB1 hlen hn14 h1c k2 hy fun w2 b2 u2 => ?_
      try simp only [↓reduceIte, ↓LL, LM, Value.cells, Nat.reduceAdd, Option.some.injEq, exists_eq_left', decide_true, decide_false, if_true, if_false, reduceCtorEq, cond_true, cond_false, cc, e1]
      refine stN b2 (by rw [List.length_set]; exact hlen) hn14 h1c (by rw [List.length_set]; exact k1) hx fun w3 b3 u3 => ?_
      rw [x2] at b3
      try simp only [↓reduceIte, ↓LL, LM, Value.cells, Nat.reduceAdd, Option.some.injEq, exists_eq_left', decide_true, decide_false, if_true, if_false, reduceCtorEq, cond_true, cond_false, cc, e1]
      have hC3 := (hC1.trans u2.chg).trans u3.chg
      rw [List.append_assoc] at hs
      refine ih m S1' (y :: S2) w3 (by simp at hd; omega) (by omega) (by rw [← hlen]; simp; try omega) (by simpa using b3) hC3 hs (fun u hu => ?_) (fun u hu => hp u (List.mem_append_left _ hu)) fun w' S bS cS pS sS => kk w' S bS cS (pS.trans ?_) sS
      · rcases List.mem_cons.1 hu with rfl | hu
        · exact hxy
        · exact h2 u hu
      · simp
    | true =>
      have hz0 : ¬ z < 0 := fun h => by rw [hz.1 h] at hle; cases hle
      have hyx := slt_le hle (hp y (by simp))
      try simp only [↓reduceIte, ↓LL, LM, Value.cells, Nat.reduceAdd, Option.some.injEq, exists_eq_left', decide_true, decide_false, if_true, if_false, reduceCtorEq, cond_true, cond_false, cc, hz0]
      refine kk w1 ((S1' ++ [y]) ++ x :: S2) (by simpa using hB1) hC1 List.perm_middle (sd_ins hs (fun u hu => ?_) h2)
      rcases List.mem_append.1 hu with hu | hu
      · refine slt_trans O ?_ hyx
        exact (sd_app.1 (sd_app.1 hs).1).2.2 u hu y (by simp)
      · rw [List.mem_singleton] at hu; subst hu; exact hyx
theorem f60_out (hn14 : ∀ x, (enc x).length = 6) (h1c : ∀ x, ∀ v ∈ enc x, v.oneCell' = true) (O : Ord le) (hcmp : CmpOf Try.prog V g cf (fun x => .agg (enc x).toArray) le Mm) (hbd : N ≤ 281474976710656) {P A R : List (β × Nat)} (hA : A.Pairwise (fun x y => x.2 < y.2)) (hN : (P ++ A ++ R).length = N) : ∀ (d m i : Nat) (S : List (β × Nat)) (w : World), i + d = A.length → d < m → 0 < i →
    S.Perm (A.take i) → Sd le S → BkAt e enc Mm rest g w (P ++ S ++ A.drop i ++ R) → Chg g V w → (∀ w' S, BkAt e enc Mm rest g w' (P ++ S ++ R) → Chg g V w' → S.Perm A → Sd le S → Q (.tuple #[]) w') →
    itr (fun _ _ _ _ _ => bot) f60_b1 m (.slice (some ⟨g, 0, none⟩) N c) (.int .i64 (P.length : Nat)) (.int .i64 ((P.length + A.length : Nat) : Int)) cf (.int .i64 ((P.length + i : Nat) : Int)) w Q := by
  intro d
  induction d with
  | zero =>
    intro m i S w hi hm h0 hp hs hB hC kk
    obtain ⟨m, rfl⟩ : ∃ x, m = x + 1 := ⟨m - 1, by omega⟩
    show f60_b1 _ _ _ _ _ _ w Q
    unfold f60_b1
    have cc : ¬ ((P.length + i : Nat) : Int) < ((P.length + A.length : Nat) : Int) := by omega
    try simp only [↓reduceIte, ↓LL, LM, Value.cells, Nat.reduceAdd, Option.some.injEq, exists_eq_left', decide_true, decide_false, if_true, if_false, reduceCtorEq, cond_true, cond_false, cc]
    rw [List.take_of_length_le (by omega)] at hp
    rw [List.drop_of_length_le (by omega), List.append_nil] at hB
    exact kk w S hB hC hp hs
  | succ d ih =>
    intro m i S w hi hm h0 hp hs hB hC kk
    obtain ⟨m, rfl⟩ : ∃ x, m = x + 1 := ⟨m - 1, by omega⟩
    show f60_b1 _ _ _ _ _ _ w Q
    unfold f60_b1
    have hiA : i < A.length := by omega
    have cc : ((P.length + i : Nat) : Int) < ((P.length + A.length : Nat) : Int) := by omega
    have hSl : S.length = i := by rw [hp.length_eq, List.length_take]; omega
    simp only [List.length_append] at hN
    have e1 : IntKind.i64.wrap (((P.length + i : Nat) : Int) + 1) = ((P.length + (i + 1) : Nat) : Int) := by rw [w64 (by omega) (by omega)]; rfl
    try simp only [↓reduceIte, ↓LL, LM, Value.cells, Nat.reduceAdd, Option.some.injEq, exists_eq_left', decide_true, decide_false, if_true, if_false, reduceCtorEq, cond_true, cond_false, cc]
    rw [List.drop_eq_getElem_cons hiA] at hB
    have e0 : ((P.length + i : Nat) : Int) = ((P.length + S.length : Nat) : Int) := by rw [hSl]
    rw [e0]
    refine ⟨_, f60_in hn14 h1c O hcmp hbd (P := P) (x := A[i]) (R := A.drop (i + 1) ++ R) S.length (S.length + 1) S [] w rfl (by omega) (by simp; omega) (by simp only [List.append_assoc, List.cons_append, List.nil_append] at hB ⊢; exact hB) hC (by simpa using hs) (fun y hy => by cases hy) (fun y hy => ?_) fun w1 S' b1 c1 p1 s1 => ?_⟩
    · have hy := hp.mem_iff.1 hy
      have hA' := hA
      rw [← List.take_append_drop i A, List.drop_eq_getElem_cons hiA, List.pairwise_append] at hA'
      exact hA'.2.2 y hy _ List.mem_cons_self
    · rw [hSl]
      unfold f60_j2
      try simp only [↓reduceIte, ↓LL, LM, Value.cells, Nat.reduceAdd, Option.some.injEq, exists_eq_left', decide_true, decide_false, if_true, if_false, reduceCtorEq, cond_true, cond_false, e1]
      refine ih m (i + 1) S' w1 (by omega) (by omega) (by omega) ?_ s1 (by simpa using b1) c1 kk
      rw [List.take_succ_eq_append_getElem hiA]
      rw [List.append_nil] at p1
      exact p1.trans ((hp.cons _).trans (List.perm_append_singleton _ _).symm)
/-- a part sorted by insertion -/
theorem f60_s (hn14 : ∀ x, (enc x).length = 6) (h1c : ∀ x, ∀ v ∈ enc x, v.oneCell' = true) (O : Ord le) (hcmp : CmpOf Try.prog V g cf (fun x => .agg (enc x).toArray) le Mm) (hbd : N ≤ 281474976710656) {P A R : List (β × Nat)} {a b : Nat} (hA : A.Pairwise (fun x y => x.2 < y.2)) (hN : (P ++ A ++ R).length = N) (hB : BkAt e enc Mm rest g w (P ++ A ++ R)) (hC : Chg g V w) (ha : a = P.length) (hb : b = P.length + A.length)
    (kk : ∀ w' S, BkAt e enc Mm rest g w' (P ++ S ++ R) → Chg g V w' → S.Perm A → Sd le S → Q (.tuple #[]) w') : f60 (.slice (some ⟨g, 0, none⟩) N c) (.int .i64 (a : Int)) (.int .i64 (b : Int)) cf w Q := by
  subst ha hb
  have hN' := hN
  simp only [List.length_append] at hN'
  have e1 : IntKind.i64.wrap (((P.length : Nat) : Int) + 1) = ((P.length + 1 : Nat) : Int) := by rw [w64 (by omega) (by omega)]; rfl
  unfold f60
  try simp only [↓reduceIte, ↓LL, LM, Value.cells, Nat.reduceAdd, Option.some.injEq, exists_eq_left', decide_true, decide_false, if_true, if_false, reduceCtorEq, cond_true, cond_false, e1]
  cases A with
  | nil =>
    refine ⟨1, ?_⟩
    show f60_b1 _ _ _ _ _ _ w Q
    unfold f60_b1
    have cc : ¬ ((P.length + 1 : Nat) : Int) < ((P.length + ([] : List (β × Nat)).length : Nat) : Int) := by simp; omega
    try simp only [↓reduceIte, ↓LL, LM, Value.cells, Nat.reduceAdd, Option.some.injEq, exists_eq_left', decide_true, decide_false, if_true, if_false, reduceCtorEq, cond_true, cond_false, cc]
    exact kk w [] hB hC (List.Perm.refl _) List.Pairwise.nil
  | cons x A =>
    refine ⟨_, f60_out hn14 h1c O hcmp hbd hA hN A.length (A.length + 1) 1 [x] w (by simp; omega) (by omega) (by omega) (by simp) (List.pairwise_singleton _ _) (by simpa using hB) hC kk⟩
end
end Go.Proofs.Ytiajdaagamhbnaa

set_option maxRecDepth 20000
set_option maxHeartbeats 4000000
namespace Go.Proofs.Ytiajdaagamhbnaa
open Sh RowKit Go.MapKept Srt
/-! runs merged -/
section
variable {β : Type} {e : TypeId} {enc : β → List Value} {le : β → β → Bool} {Mm : β → Prop} {rest : List Value} {g c N : Nat} {V w : World} {cf : Value} {Q : Value → World → Prop}
theorem sd_take61 {l : List (β × Nat)} {k : Nat} {y x : β × Nat} (h : Sd le l) (O : Ord le) (hk : l[k]? = some y) (hyx : slt le y x) : ∀ u ∈ l.take (k + 1), slt le u x := by
  obtain ⟨hkl, rfl⟩ := get_of hk
  intro u hu
  rw [List.take_succ_eq_append_getElem hkl] at hu
  rcases List.mem_append.1 hu with hu | hu
  · have h' := h
    rw [← List.take_append_drop k l, List.drop_eq_getElem_cons hkl] at h'
    exact slt_trans O ((sd_app.1 h').2.2 u hu _ List.mem_cons_self) hyx
  · rw [List.mem_singleton] at hu; subst hu; exact hyx
theorem sd_drop61 {l : List (β × Nat)} {k : Nat} {y x : β × Nat} (h : Sd le l) (O : Ord le) (hk : l[k]? = some y) (hxy : slt le x y) : ∀ u ∈ l.drop k, slt le x u := by
  obtain ⟨hkl, rfl⟩ := get_of hk
  intro u hu
  rw [List.drop_eq_getElem_cons hkl] at hu
  rcases List.mem_cons.1 hu with rfl | hu
  · exact hxy
  · have h' := h
    rw [← List.take_append_drop k l, List.drop_eq_getElem_cons hkl] at h'
    exact slt_trans O hxy ((List.pairwise_cons.1 (sd_app.1 h').2.1).1 u hu)
/-- where one belongs in the run behind it -/
theorem f61_find1 (hn14 : ∀ x, (enc x).length = 6) (h1c : ∀ x, ∀ v ∈ enc x, v.oneCell' = true) (O : Ord le) (hcmp : CmpOf Try.prog V g cf (fun x => .agg (enc x).toArray) le Mm) (hbd : N ≤ 281474976710656) {P B R : List (β × Nat)} {x : β × Nat} (hN : (P ++ x :: (B ++ R)).length = N) (hs : Sd le B) (hp : ∀ y ∈ B, x.2 < y.2) {j1 : Value → Value → Value → M} : ∀ (d m i j : Nat) (w : World), i ≤ j → j ≤ B.length → j - i ≤ d → d < m →
    BkAt e enc Mm rest g w (P ++ x :: (B ++ R)) → Chg g V w → (∀ y ∈ B.take i, slt le y x) → (∀ y ∈ B.drop j, slt le x y) →
    (∀ w' k, BkAt e enc Mm rest g w' (P ++ x :: (B ++ R)) → Chg g V w' → k ≤ B.length → (∀ y ∈ B.take k, slt le y x) → (∀ y ∈ B.drop k, slt le x y) → j1 (.slice (some ⟨g, 0, none⟩) N c) (.int .i64 (P.length : Nat)) (.int .i64 ((P.length + 1 + k : Nat) : Int)) w' Q) →
    itr (fun _ _ _ _ _ => bot) (f61_b2 j1) m (.slice (some ⟨g, 0, none⟩) N c) (.int .i64 (P.length : Nat)) cf (.int .i64 ((P.length + 1 + i : Nat) : Int)) (.int .i64 ((P.length + 1 + j : Nat) : Int)) w Q := by
  intro d
  induction d with
  | zero =>
    intro m i j w hij hj hd hm hB hC h1 h2 kk
    obtain ⟨m, rfl⟩ : ∃ x, m = x + 1 := ⟨m - 1, by omega⟩
    show f61_b2 j1 _ _ _ _ _ _ w Q
    unfold f61_b2
    have : j = i := by omega
    subst this
    have cc : ¬ ((P.length + 1 + j : Nat) : Int) < ((P.length + 1 + j : Nat) : Int) := by omega
    try simp only [↓reduceIte, ↓LL, LM, Value.cells, Nat.reduceAdd, Option.some.injEq, exists_eq_left', decide_true, decide_false, if_true, if_false, reduceCtorEq, cond_true, cond_false, cc]
    exact kk w j hB hC hj h1 h2
  | succ d ih =>
    intro m i j w hij hj hd hm hB hC h1 h2 kk
    obtain ⟨m, rfl⟩ : ∃ x, m = x + 1 := ⟨m - 1, by omega⟩
    show f61_b2 j1 _ _ _ _ _ _ w Q
    unfold f61_b2
    by_cases hlt : i < j
    · have cc : ((P.length + 1 + i : Nat) : Int) < ((P.length + 1 + j : Nat) : Int) := by omega
      have hN' := hN
      simp only [List.length_append, List.length_cons] at hN'
      obtain ⟨h, hh⟩ : ∃ h, (P.length + 1 + i + (P.length + 1 + j)) / 2 = P.length + 1 + h := ⟨(P.length + 1 + i + (P.length + 1 + j)) / 2 - (P.length + 1), by omega⟩
      have hih : i ≤ h := by omega
      have hhj : h < j := by omega
      have e1 : IntKind.i64.wrap (((P.length + 1 + i : Nat) : Int) + ((P.length + 1 + j : Nat) : Int)) = ((P.length + 1 + i + (P.length + 1 + j) : Nat) : Int) := by rw [w64 (by omega) (by omega)]; omega
      have e2 : IntKind.u64.wrap ((P.length + 1 + i + (P.length + 1 + j) : Nat) : Int) = ((P.length + 1 + i + (P.length + 1 + j) : Nat) : Int) := wu64 (by omega) (by omega)
      have e3 : IntKind.i64.wrap ((P.length + 1 + h : Nat) : Int) = ((P.length + 1 + h : Nat) : Int) := w64 (by omega) (by omega)
      have e4 : IntKind.i64.wrap (((P.length + 1 + h : Nat) : Int) + 1) = ((P.length + 1 + (h + 1) : Nat) : Int) := by rw [w64 (by omega) (by omega)]; rfl
      have hhB : h < B.length := by omega
      have gB : B[h]? = some B[h] := List.getElem?_eq_getElem hhB
      have g1 : (P ++ x :: (B ++ R))[P.length]? = some x := by rw [List.getElem?_append_right (Nat.le_refl _), Nat.sub_self]; rfl
      have g2 : (P ++ x :: (B ++ R))[P.length + 1 + h]? = some B[h] := by
        rw [List.getElem?_append_right (by omega), show P.length + 1 + h - P.length = h + 1 from by omega, List.getElem?_cons_succ, List.getElem?_append_left hhB]; exact gB
      try simp only [↓reduceIte, ↓LL, LM, Value.cells, Nat.reduceAdd, Option.some.injEq, exists_eq_left', decide_true, decide_false, if_true, if_false, reduceCtorEq, cond_true, cond_false, cc, e1, e2]
      rw [shr1, hh]
      have hB := hB.drw
      have hC := hC.drw
      try simp only [↓reduceIte, ↓LL, LM, Value.cells, Nat.reduceAdd, Option.some.injEq, exists_eq_left', decide_true, decide_false, if_true, if_false, reduceCtorEq, cond_true, cond_false, e3]
      first | refine rdN hB hN hn14 h1c g2 ?_ | refine rdNg hB hN hn14 h1c g2 ?_
      try simp only [↓reduceIte, ↓LL, LM, Value.cells, Nat.reduceAdd, Option.some.injEq, exists_eq_left', decide_true, decide_false, if_true, if_false, reduceCtorEq, cond_true, cond_false]
      first | refine rdN hB hN hn14 h1c g1 ?_ | refine rdNg hB hN hn14 h1c g1 ?_
      try simp only [↓reduceIte, ↓LL, LM, Value.cells, Nat.reduceAdd, Option.some.injEq, exists_eq_left', decide_true, decide_false, if_true, if_false, reduceCtorEq, cond_true, cond_false]
      refine hcmp B[h].1 x.1 _ _ _ hC (hB.mem _ (List.mem_of_getElem? g2)) (hB.mem _ (List.mem_of_getElem? g1)) fun w1 z b1 hz => ?_
      have hB := hB.below b1
      have hC := hC.trans (Chg.of_below b1)
      cases hle : le x.1 B[h].1 with
      | false =>
        have hz0 : z < 0 := hz.2 hle
        try simp only [↓reduceIte, ↓LL, LM, Value.cells, Nat.reduceAdd, Option.some.injEq, exists_eq_left', decide_true, decide_false, if_true, if_false, reduceCtorEq, cond_true, cond_false, hz0, e4]
        exact ih m (h + 1) j w1 (by omega) hj (by omega) (by omega) hB hC (sd_take61 hs O gB (slt_nle O hle)) h2 kk
      | true =>
        have hz0 : ¬ z < 0 := fun h => by rw [hz.1 h] at hle; cases hle
        try simp only [↓reduceIte, ↓LL, LM, Value.cells, Nat.reduceAdd, Option.some.injEq, exists_eq_left', decide_true, decide_false, if_true, if_false, reduceCtorEq, cond_true, cond_false, hz0, e4]
        exact ih m i h w1 (by omega) (by omega) (by omega) (by omega) hB hC h1 (sd_drop61 hs O gB (slt_le hle (hp _ (List.getElem_mem hhB)))) kk
    · have : j = i := by omega
      subst this
      have cc : ¬ ((P.length + 1 + j : Nat) : Int) < ((P.length + 1 + j : Nat) : Int) := by omega
      try simp only [↓reduceIte, ↓LL, LM, Value.cells, Nat.reduceAdd, Option.some.injEq, exists_eq_left', decide_true, decide_false, if_true, if_false, reduceCtorEq, cond_true, cond_false, cc]
      exact kk w j hB hC hj h1 h2
/-- it goes there -/
theorem f61_up (hn14 : ∀ x, (enc x).length = 6) (h1c : ∀ x, ∀ v ∈ enc x, v.oneCell' = true) (hbd : N ≤ 281474976710656) {P B R : List (β × Nat)} {x : β × Nat} (hN : (P ++ x :: (B ++ R)).length = N) {k : Nat} (hk : k ≤ B.length) : ∀ (d m s : Nat) (w : World), s + d = k → d < m →
    BkAt e enc Mm rest g w (P ++ B.take s ++ x :: (B.drop s ++ R)) → Chg g V w → (∀ w', BkAt e enc Mm rest g w' (P ++ B.take k ++ x :: (B.drop k ++ R)) → Chg g V w' → Q (.tuple #[]) w') →
    itr (fun _ _ _ => bot) f61_b3 m (.slice (some ⟨g, 0, none⟩) N c) (.int .i64 ((P.length + 1 + k : Nat) : Int)) (.int .i64 ((P.length + s : Nat) : Int)) w Q := by
  intro d
  induction d with
  | zero =>
    intro m s w hs hm hB hC kk
    obtain ⟨m, rfl⟩ : ∃ x, m = x + 1 := ⟨m - 1, by omega⟩
    show f61_b3 _ _ _ _ w Q
    unfold f61_b3
    simp only [List.length_append, List.length_cons] at hN
    have : s = k := by omega
    subst this
    have e1 : IntKind.i64.wrap (((P.length + 1 + s : Nat) : Int) - 1) = ((P.length + s : Nat) : Int) := by rw [w64 (by omega) (by omega)]; omega
    have cc : ¬ ((P.length + s : Nat) : Int) < ((P.length + s : Nat) : Int) := by omega
    try simp only [↓reduceIte, ↓LL, LM, Value.cells, Nat.reduceAdd, Option.some.injEq, exists_eq_left', decide_true, decide_false, if_true, if_false, reduceCtorEq, cond_true, cond_false, e1, cc]
    exact kk w hB hC
  | succ d ih =>
    intro m s w hs hm hB hC kk
    obtain ⟨m, rfl⟩ : ∃ x, m = x + 1 := ⟨m - 1, by omega⟩
    show f61_b3 _ _ _ _ w Q
    unfold f61_b3
    have hN' := hN
    simp only [List.length_append, List.length_cons] at hN'
    have hsB : s < B.length := by omega
    have e1 : IntKind.i64.wrap (((P.length + 1 + k : Nat) : Int) - 1) = ((P.length + k : Nat) : Int) := by rw [w64 (by omega) (by omega)]; omega
    have e2 : IntKind.i64.wrap (((P.length + s : Nat) : Int) + 1) = ((P.length + (s + 1) : Nat) : Int) := by rw [w64 (by omega) (by omega)]; rfl
    have cc : ((P.length + s : Nat) : Int) < ((P.length + k : Nat) : Int) := by omega
    have hL : P ++ B.take s ++ x :: (B.drop s ++ R) = (P ++ B.take s) ++ x :: ([] ++ B[s] :: (B.drop (s + 1) ++ R)) := by
      rw [List.drop_eq_getElem_cons hsB]; simp only [List.append_assoc, List.cons_append, List.nil_append]
    have hlen : (P ++ B.take s ++ x :: (B.drop s ++ R)).length = N := by simp; omega
    obtain ⟨g1, g2, k1, k2, x1, x2⟩ := line_get (i := P.length + s) (j := P.length + (s + 1)) hL (by simp; omega) (by simp; omega)
    have hB := hB.drw
    have hC := hC.drw
    try simp only [↓reduceIte, ↓LL, LM, Value.cells, Nat.reduceAdd, Option.some.injEq, exists_eq_left', decide_true, decide_false, if_true, if_false, reduceCtorEq, cond_true, cond_false, cc, e1, e2]
    first | refine rdN hB hlen hn14 h1c g2 ?_ | refine rdNg hB hlen hn14 h1c g2 ?_
    try simp only [↓reduceIte, ↓LL, LM, Value.cells, Nat.reduceAdd, Option.some.injEq, exists_eq_left', decide_true, decide_false, if_true, if_false, reduceCtorEq, cond_true, cond_false, cc, e1, e2]
    first | refine rdN hB hlen hn14 h1c g1 ?_ | refine rdNg hB hlen hn14 h1c g1 ?_
    try simp only [↓reduceIte, ↓LL, LM, Value.cells, Nat.reduceAdd, Option.some.injEq, exists_eq_left', decide_true, decide_false, if_true, if_false, reduceCtorEq, cond_true, cond_false, cc, e1, e2]
    refine stN hB hlen hn14 h1c k1 (hB.mem _ (List.mem_of_getElem? g2)) fun w1 b1 u1 => ?_
    try simp only [↓reduceIte, ↓LL, LM, Value.cells, Nat.reduceAdd, Option.some.injEq, exists_eq_left', decide_true, decide_false, if_true, if_false, reduceCtorEq, cond_true, cond_false, cc, e1, e2]
    refine stN b1 (by rw [List.length_set]; exact hlen) hn14 h1c (by rw [List.length_set]; exact k2) (hB.mem _ (List.mem_of_getElem? g1)) fun w2 b2 u2 => ?_
    rw [x1] at b2
    try simp only [↓reduceIte, ↓LL, LM, Value.cells, Nat.reduceAdd, Option.some.injEq, exists_eq_left', decide_true, decide_false, if_true, if_false, reduceCtorEq, cond_true, cond_false, cc, e1, e2]
    refine ih m (s + 1) w2 (by omega) (by omega) ?_ (u2c hC u1 u2) kk
    rw [List.take_succ_eq_append_getElem hsB]
    simp only [List.append_assoc, List.cons_append, List.nil_append] at b2 ⊢
    exact b2
/-- where one belongs in the run ahead of it -/
theorem f61_find2 (hn14 : ∀ x, (enc x).length = 6) (h1c : ∀ x, ∀ v ∈ enc x, v.oneCell' = true) (O : Ord le) (hcmp : CmpOf Try.prog V g cf (fun x => .agg (enc x).toArray) le Mm) (hbd : N ≤ 281474976710656) {P A R : List (β × Nat)} {y : β × Nat} (hN : (P ++ A ++ y :: R).length = N) (hs : Sd le A) (hp : ∀ x ∈ A, x.2 < y.2) {j1 : Value → Value → Value → M} : ∀ (d m i j : Nat) (w : World), i ≤ j → j ≤ A.length → j - i ≤ d → d < m →
    BkAt e enc Mm rest g w (P ++ A ++ y :: R) → Chg g V w → (∀ x ∈ A.take i, slt le x y) → (∀ x ∈ A.drop j, slt le y x) →
    (∀ w' k, BkAt e enc Mm rest g w' (P ++ A ++ y :: R) → Chg g V w' → k ≤ A.length → (∀ x ∈ A.take k, slt le x y) → (∀ x ∈ A.drop k, slt le y x) → j1 (.slice (some ⟨g, 0, none⟩) N c) (.int .i64 ((P.length + A.length : Nat) : Int)) (.int .i64 ((P.length + k : Nat) : Int)) w' Q) →
    itr (fun _ _ _ _ _ => bot) (f61_b5 j1) m (.slice (some ⟨g, 0, none⟩) N c) (.int .i64 ((P.length + A.length : Nat) : Int)) cf (.int .i64 ((P.length + i : Nat) : Int)) (.int .i64 ((P.length + j : Nat) : Int)) w Q := by
  intro d
  induction d with
  | zero =>
    intro m i j w hij hj hd hm hB hC h1 h2 kk
    obtain ⟨m, rfl⟩ : ∃ x, m = x + 1 := ⟨m - 1, by omega⟩
    show f61_b5 j1 _ _ _ _ _ _ w Q
    unfold f61_b5
    have : j = i := by omega
    subst this
    have cc : ¬ ((P.length + j : Nat) : Int) < ((P.length + j : Nat) : Int) := by omega
    try simp only [↓reduceIte, ↓LL, LM, Value.cells, Nat.reduceAdd, Option.some.injEq, exists_eq_left', decide_true, decide_false, if_true, if_false, reduceCtorEq, cond_true, cond_false, cc]
    exact kk w j hB hC hj h1 h2
  | succ d ih =>
    intro m i j w hij hj hd hm hB hC h1 h2 kk
    obtain ⟨m, rfl⟩ : ∃ x, m = x + 1 := ⟨m - 1, by omega⟩
    show f61_b5 j1 _ _ _ _ _ _ w Q
    unfold f61_b5
    by_cases hlt : i < j
    · have cc : ((P.length + i : Nat) : Int) < ((P.length + j : Nat) : Int) := by omega
      have hN' := hN
      simp only [List.length_append, List.length_cons] at hN'
      obtain ⟨h, hh⟩ : ∃ h, (P.length + i + (P.length + j)) / 2 = P.length + h := ⟨(P.length + i + (P.length + j)) / 2 - (P.length), by omega⟩
      have hih : i ≤ h := by omega
      have hhj : h < j := by omega
      have e1 : IntKind.i64.wrap (((P.length + i : Nat) : Int) + ((P.length + j : Nat) : Int)) = ((P.length + i + (P.length + j) : Nat) : Int) := by rw [w64 (by omega) (by omega)]; omega
      have e2 : IntKind.u64.wrap ((P.length + i + (P.length + j) : Nat) : Int) = ((P.length + i + (P.length + j) : Nat) : Int) := wu64 (by omega) (by omega)
      have e3 : IntKind.i64.wrap ((P.length + h : Nat) : Int) = ((P.length + h : Nat) : Int) := w64 (by omega) (by omega)
      have e4 : IntKind.i64.wrap (((P.length + h : Nat) : Int) + 1) = ((P.length + (h + 1) : Nat) : Int) := by rw [w64 (by omega) (by omega)]; rfl
      have hhA : h < A.length := by omega
      have gA : A[h]? = some A[h] := List.getElem?_eq_getElem hhA
      have g1 : (P ++ A ++ y :: R)[P.length + A.length]? = some y := by rw [List.getElem?_append_right (by simp), show P.length + A.length - (P ++ A).length = 0 from by simp]; rfl
      have g2 : (P ++ A ++ y :: R)[P.length + h]? = some A[h] := by
        rw [List.getElem?_append_left (by simp; omega), List.getElem?_append_right (by omega), show P.length + h - P.length = h from by omega]; exact gA
      try simp only [↓reduceIte, ↓LL, LM, Value.cells, Nat.reduceAdd, Option.some.injEq, exists_eq_left', decide_true, decide_false, if_true, if_false, reduceCtorEq, cond_true, cond_false, cc, e1, e2]
      rw [shr1, hh]
      have hB := hB.drw
      have hC := hC.drw
      try simp only [↓reduceIte, ↓LL, LM, Value.cells, Nat.reduceAdd, Option.some.injEq, exists_eq_left', decide_true, decide_false, if_true, if_false, reduceCtorEq, cond_true, cond_false, e3]
      first | refine rdN hB hN hn14 h1c g1 ?_ | refine rdNg hB hN hn14 h1c g1 ?_
      try simp only [↓reduceIte, ↓LL, LM, Value.cells, Nat.reduceAdd, Option.some.injEq, exists_eq_left', decide_true, decide_false, if_true, if_false, reduceCtorEq, cond_true, cond_false]
      first | refine rdN hB hN hn14 h1c g2 ?_ | refine rdNg hB hN hn14 h1c g2 ?_
      try simp only [↓reduceIte, ↓LL, LM, Value.cells, Nat.reduceAdd, Option.some.injEq, exists_eq_left', decide_true, decide_false, if_true, if_false, reduceCtorEq, cond_true, cond_false]
      refine hcmp y.1 A[h].1 _ _ _ hC (hB.mem _ (List.mem_of_getElem? g1)) (hB.mem _ (List.mem_of_getElem? g2)) fun w1 z b1 hz => ?_
      have hB := hB.below b1
      have hC := hC.trans (Chg.of_below b1)
      cases hle : le A[h].1 y.1 with
      | false =>
        have hz0 : z < 0 := hz.2 hle
        try simp only [↓reduceIte, ↓LL, LM, Value.cells, Nat.reduceAdd, Option.some.injEq, exists_eq_left', decide_true, decide_false, if_true, if_false, reduceCtorEq, cond_true, cond_false, hz0, e4]
        exact ih m i h w1 (by omega) (by omega) (by omega) (by omega) hB hC h1 (sd_drop61 hs O gA (slt_nle O hle)) kk
      | true =>
        have hz0 : ¬ z < 0 := fun h => by rw [hz.1 h] at hle; cases hle
        try simp only [↓reduceIte, ↓LL, LM, Value.cells, Nat.reduceAdd, Option.some.injEq, exists_eq_left', decide_true, decide_false, if_true, if_false, reduceCtorEq, cond_true, cond_false, hz0, e4]
        exact ih m (h + 1) j w1 (by omega) (by omega) (by omega) (by omega) hB hC (sd_take61 hs O gA (slt_le hle (hp _ (List.getElem_mem hhA)))) h2 kk
    · have : j = i := by omega
      subst this
      have cc : ¬ ((P.length + j : Nat) : Int) < ((P.length + j : Nat) : Int) := by omega
      try simp only [↓reduceIte, ↓LL, LM, Value.cells, Nat.reduceAdd, Option.some.injEq, exists_eq_left', decide_true, decide_false, if_true, if_false, reduceCtorEq, cond_true, cond_false, cc]
      exact kk w j hB hC hj h1 h2
/-- it goes there -/
theorem f61_down (hn14 : ∀ x, (enc x).length = 6) (h1c : ∀ x, ∀ v ∈ enc x, v.oneCell' = true) (hbd : N ≤ 281474976710656) {P A R : List (β × Nat)} {y : β × Nat} (hN : (P ++ A ++ y :: R).length = N) {k : Nat} (hk : k ≤ A.length) : ∀ (d m s : Nat) (w : World), s = k + d → s ≤ A.length → d < m →
    BkAt e enc Mm rest g w (P ++ A.take s ++ y :: (A.drop s ++ R)) → Chg g V w → (∀ w', BkAt e enc Mm rest g w' (P ++ A.take k ++ y :: (A.drop k ++ R)) → Chg g V w' → Q (.tuple #[]) w') →
    itr (fun _ _ _ => bot) f61_b6 m (.slice (some ⟨g, 0, none⟩) N c) (.int .i64 ((P.length + k : Nat) : Int)) (.int .i64 ((P.length + s : Nat) : Int)) w Q := by
  intro d
  induction d with
  | zero =>
    intro m s w hs hsl hm hB hC kk
    obtain ⟨m, rfl⟩ : ∃ x, m = x + 1 := ⟨m - 1, by omega⟩
    show f61_b6 _ _ _ _ w Q
    unfold f61_b6
    have : s = k := by omega
    subst this
    have cc : ¬ ((P.length + s : Nat) : Int) < ((P.length + s : Nat) : Int) := by omega
    try simp only [↓reduceIte, ↓LL, LM, Value.cells, Nat.reduceAdd, Option.some.injEq, exists_eq_left', decide_true, decide_false, if_true, if_false, reduceCtorEq, cond_true, cond_false, cc]
    exact kk w hB hC
  | succ d ih =>
    intro m s w hs hsl hm hB hC kk
    obtain ⟨m, rfl⟩ : ∃ x, m = x + 1 := ⟨m - 1, by omega⟩
    show f61_b6 _ _ _ _ w Q
    unfold f61_b6
    have hN' := hN
    simp only [List.length_append, List.length_cons] at hN'
    obtain ⟨s, rfl⟩ : ∃ s', s = s' + 1 := ⟨s - 1, by omega⟩
    have hsA : s < A.length := by omega
    have e2 : IntKind.i64.wrap (((P.length + (s + 1) : Nat) : Int) - 1) = ((P.length + s : Nat) : Int) := by rw [w64 (by omega) (by omega)]; omega
    have cc : ((P.length + k : Nat) : Int) < ((P.length + (s + 1) : Nat) : Int) := by omega
    have hL : P ++ A.take (s + 1) ++ y :: (A.drop (s + 1) ++ R) = (P ++ A.take s) ++ A[s] :: ([] ++ y :: (A.drop (s + 1) ++ R)) := by
      rw [List.take_succ_eq_append_getElem hsA]; simp only [List.append_assoc, List.cons_append, List.nil_append]
    have hlen : (P ++ A.take (s + 1) ++ y :: (A.drop (s + 1) ++ R)).length = N := by simp; omega
    obtain ⟨g1, g2, k1, k2, x1, x2⟩ := line_get (i := P.length + s) (j := P.length + (s + 1)) hL (by simp; omega) (by simp; omega)
    have hB := hB.drw
    have hC := hC.drw
    try simp only [↓reduceIte, ↓LL, LM, Value.cells, Nat.reduceAdd, Option.some.injEq, exists_eq_left', decide_true, decide_false, if_true, if_false, reduceCtorEq, cond_true, cond_false, cc, e2]
    first | refine rdN hB hlen hn14 h1c g1 ?_ | refine rdNg hB hlen hn14 h1c g1 ?_
    try simp only [↓reduceIte, ↓LL, LM, Value.cells, Nat.reduceAdd, Option.some.injEq, exists_eq_left', decide_true, decide_false, if_true, if_false, reduceCtorEq, cond_true, cond_false, cc, e2]
    first | refine rdN hB hlen hn14 h1c g2 ?_ | refine rdNg hB hlen hn14 h1c g2 ?_
    try simp only [↓reduceIte, ↓LL, LM, Value.cells, Nat.reduceAdd, Option.some.injEq, exists_eq_left', decide_true, decide_false, if_true, if_false, reduceCtorEq, cond_true, cond_false, cc, e2]
    refine stN hB hlen hn14 h1c k2 (hB.mem _ (List.mem_of_getElem? g1)) fun w1 b1 u1 => ?_
    try simp only [↓reduceIte, ↓LL, LM, Value.cells, Nat.reduceAdd, Option.some.injEq, exists_eq_left', decide_true, decide_false, if_true, if_false, reduceCtorEq, cond_true, cond_false, cc, e2]
    refine stN b1 (by rw [List.length_set]; exact hlen) hn14 h1c (by rw [List.length_set]; exact k1) (hB.mem _ (List.mem_of_getElem? g2)) fun w2 b2 u2 => ?_
    rw [x2] at b2
    try simp only [↓reduceIte, ↓LL, LM, Value.cells, Nat.reduceAdd, Option.some.injEq, exists_eq_left', decide_true, decide_false, if_true, if_false, reduceCtorEq, cond_true, cond_false, cc, e2]
    refine ih m s w2 (by omega) (by omega) (by omega) ?_ (u2c hC u1 u2) kk
    rw [List.drop_eq_getElem_cons hsA]
    simp only [List.append_assoc, List.cons_append, List.nil_append] at b2 ⊢
    exact b2
end
/-! runs merged: both of several -/
section
variable {β : Type} {e : TypeId} {enc : β → List Value} {le : β → β → Bool} {Mm : β → Prop} {rest : List Value} {g c N : Nat} {V w : World} {cf : Value} {Q : Value → World → Prop}
theorem f61_half (hn14 : ∀ x, (enc x).length = 6) (h1c : ∀ x, ∀ v ∈ enc x, v.oneCell' = true) (O : Ord le) (hcmp : CmpOf Try.prog V g cf (fun x => .agg (enc x).toArray) le Mm) (hbd : N ≤ 281474976710656) {P A B R : List (β × Nat)} {D : Nat} {ta tm tb td : Value} (hN : (P ++ A ++ B ++ R).length = N) {j8 : Value → Value → Value → Value → Value → Value → Value → Value → M} : ∀ (d m k r : Nat) (w : World), k ≤ r → r ≤ A.length → r ≤ D → D ≤ k + B.length → r - k ≤ d → d < m → Pl A B →
    BkAt e enc Mm rest g w (P ++ A ++ B ++ R) → Chg g V w → (0 < k → ∀ x y, A[k - 1]? = some x → B[D - k]? = some y → slt le x y) → (r < D → ∀ x y, B[D - 1 - r]? = some y → A[r]? = some x → slt le y x) →
    (∀ w' k, BkAt e enc Mm rest g w' (P ++ A ++ B ++ R) → Chg g V w' → k ≤ A.length → k ≤ D → D ≤ k + B.length → (0 < k → ∀ x y, A[k - 1]? = some x → B[D - k]? = some y → slt le x y) → (k < D → ∀ x y, B[D - 1 - k]? = some y → A[k]? = some x → slt le y x) →
      j8 (.slice (some ⟨g, 0, none⟩) N c) ta tm tb cf td (.int .i64 ((P.length + D + (P.length + A.length) : Nat) : Int)) (.int .i64 ((P.length + k : Nat) : Int)) w' Q) →
    itr (fun _ _ _ _ _ _ _ _ _ _ => bot) (f61_b9 j8) m (.slice (some ⟨g, 0, none⟩) N c) ta tm tb cf td (.int .i64 ((P.length + D + (P.length + A.length) : Nat) : Int)) (.int .i64 ((P.length + k : Nat) : Int)) (.int .i64 ((P.length + r : Nat) : Int)) (.int .i64 ((P.length + D + (P.length + A.length) - 1 : Nat) : Int)) w Q := by
  intro d
  induction d with
  | zero =>
    intro m k r w hkr hrA hrD hDk hd hm hp hB hC h1 h2 kk
    obtain ⟨m, rfl⟩ : ∃ x, m = x + 1 := ⟨m - 1, by omega⟩
    show f61_b9 j8 _ _ _ _ _ _ _ _ _ _ _ w Q
    unfold f61_b9
    have : r = k := by omega
    subst this
    have cc : ¬ ((P.length + r : Nat) : Int) < ((P.length + r : Nat) : Int) := by omega
    try simp only [↓reduceIte, ↓LL, LM, Value.cells, Nat.reduceAdd, Option.some.injEq, exists_eq_left', decide_true, decide_false, if_true, if_false, reduceCtorEq, cond_true, cond_false, cc]
    exact kk w r hB hC hrA hrD hDk h1 h2
  | succ d ih =>
    intro m k r w hkr hrA hrD hDk hd hm hp hB hC h1 h2 kk
    obtain ⟨m, rfl⟩ : ∃ x, m = x + 1 := ⟨m - 1, by omega⟩
    show f61_b9 j8 _ _ _ _ _ _ _ _ _ _ _ w Q
    unfold f61_b9
    by_cases hlt : k < r
    · have cc : ((P.length + k : Nat) : Int) < ((P.length + r : Nat) : Int) := by omega
      have hN' := hN
      simp only [List.length_append] at hN'
      obtain ⟨h, hh⟩ : ∃ h, (P.length + k + (P.length + r)) / 2 = P.length + h := ⟨(P.length + k + (P.length + r)) / 2 - (P.length), by omega⟩
      have hkh : k ≤ h := by omega
      have hhr : h < r := by omega
      have hhA : h < A.length := by omega
      have hhB : D - 1 - h < B.length := by omega
      have e1 : IntKind.i64.wrap (((P.length + k : Nat) : Int) + ((P.length + r : Nat) : Int)) = ((P.length + k + (P.length + r) : Nat) : Int) := by rw [w64 (by omega) (by omega)]; omega
      have e2 : IntKind.u64.wrap ((P.length + k + (P.length + r) : Nat) : Int) = ((P.length + k + (P.length + r) : Nat) : Int) := wu64 (by omega) (by omega)
      have e3 : IntKind.i64.wrap ((P.length + h : Nat) : Int) = ((P.length + h : Nat) : Int) := w64 (by omega) (by omega)
      have e4 : IntKind.i64.wrap (((P.length + h : Nat) : Int) + 1) = ((P.length + (h + 1) : Nat) : Int) := by rw [w64 (by omega) (by omega)]; rfl
      have e5 : IntKind.i64.wrap (((P.length + D + (P.length + A.length) - 1 : Nat) : Int) - ((P.length + h : Nat) : Int)) = ((P.length + A.length + (D - 1 - h) : Nat) : Int) := by rw [w64 (by omega) (by omega)]; omega
      have gA : A[h]? = some A[h] := List.getElem?_eq_getElem hhA
      have gB : B[D - 1 - h]? = some B[D - 1 - h] := List.getElem?_eq_getElem hhB
      have g1 : (P ++ A ++ B ++ R)[P.length + h]? = some A[h] := by
        rw [List.append_assoc, List.append_assoc, List.getElem?_append_right (by omega), show P.length + h - P.length = h from by omega, List.getElem?_append_left hhA]; exact gA
      have g2 : (P ++ A ++ B ++ R)[P.length + A.length + (D - 1 - h)]? = some B[D - 1 - h] := by
        rw [List.append_assoc, List.getElem?_append_right (by simp), show P.length + A.length + (D - 1 - h) - (P ++ A).length = D - 1 - h from by simp, List.getElem?_append_left hhB]; exact gB
      try simp only [↓reduceIte, ↓LL, LM, Value.cells, Nat.reduceAdd, Option.some.injEq, exists_eq_left', decide_true, decide_false, if_true, if_false, reduceCtorEq, cond_true, cond_false, cc, e1, e2]
      rw [shr1, hh]
      have hB := hB.drw
      have hC := hC.drw
      try simp only [↓reduceIte, ↓LL, LM, Value.cells, Nat.reduceAdd, Option.some.injEq, exists_eq_left', decide_true, decide_false, if_true, if_false, reduceCtorEq, cond_true, cond_false, e3, e5]
      first | refine rdN hB hN hn14 h1c g2 ?_ | refine rdNg hB hN hn14 h1c g2 ?_
      try simp only [↓reduceIte, ↓LL, LM, Value.cells, Nat.reduceAdd, Option.some.injEq, exists_eq_left', decide_true, decide_false, if_true, if_false, reduceCtorEq, cond_true, cond_false]
      first | refine rdN hB hN hn14 h1c g1 ?_ | refine rdNg hB hN hn14 h1c g1 ?_
      try simp only [↓reduceIte, ↓LL, LM, Value.cells, Nat.reduceAdd, Option.some.injEq, exists_eq_left', decide_true, decide_false, if_true, if_false, reduceCtorEq, cond_true, cond_false]
      refine hcmp B[D - 1 - h].1 A[h].1 _ _ _ hC (hB.mem _ (List.mem_of_getElem? g2)) (hB.mem _ (List.mem_of_getElem? g1)) fun w1 z b1 hz => ?_
      have hB := hB.below b1
      have hC := hC.trans (Chg.of_below b1)
      cases hle : le A[h].1 B[D - 1 - h].1 with
      | false =>
        have hz0 : z < 0 := hz.2 hle
        try simp only [↓reduceIte, ↓LL, LM, Value.cells, Nat.reduceAdd, Option.some.injEq, exists_eq_left', decide_true, decide_false, if_true, if_false, reduceCtorEq, cond_true, cond_false, hz0, e4]
        refine ih m k h w1 hkh (by omega) (by omega) hDk (by omega) (by omega) hp hB hC h1 (fun _ x y hy hx => ?_) kk
        rw [gA] at hx; rw [gB] at hy; cases hx; cases hy
        exact slt_nle O hle
      | true =>
        have hz0 : ¬ z < 0 := fun h => by rw [hz.1 h] at hle; cases hle
        try simp only [↓reduceIte, ↓LL, LM, Value.cells, Nat.reduceAdd, Option.some.injEq, exists_eq_left', decide_true, decide_false, if_true, if_false, reduceCtorEq, cond_true, cond_false, hz0, e4]
        refine ih m (h + 1) r w1 (by omega) (by omega) (by omega) (by omega) (by omega) (by omega) hp hB hC (fun _ x y hx hy => ?_) h2 kk
        rw [Nat.add_sub_cancel, gA] at hx
        rw [show D - (h + 1) = D - 1 - h from by omega, gB] at hy
        cases hx; cases hy
        exact slt_le hle (hp _ (List.getElem_mem hhA) _ (List.getElem_mem hhB))
    · have : r = k := by omega
      subst this
      have cc : ¬ ((P.length + r : Nat) : Int) < ((P.length + r : Nat) : Int) := by omega
      try simp only [↓reduceIte, ↓LL, LM, Value.cells, Nat.reduceAdd, Option.some.injEq, exists_eq_left', decide_true, decide_false, if_true, if_false, reduceCtorEq, cond_true, cond_false, cc]
      exact kk w r hB hC hrA hrD hDk h1 h2
/-- two runs merged -/
theorem f61_s (hn14 : ∀ x, (enc x).length = 6) (h1c : ∀ x, ∀ v ∈ enc x, v.oneCell' = true) (O : Ord le) (hcmp : CmpOf Try.prog V g cf (fun x => .agg (enc x).toArray) le Mm) (hbd : N ≤ 281474976710656) : ∀ (n : Nat) (P A B R : List (β × Nat)) (a mm b : Nat) (w : World) (Q : Value → World → Prop), A.length + B.length ≤ n → 0 < A.length → 0 < B.length → (P ++ A ++ B ++ R).length = N → a = P.length → mm = P.length + A.length → b = P.length + A.length + B.length →
    BkAt e enc Mm rest g w (P ++ A ++ B ++ R) → Chg g V w → Sd le A → Sd le B → Pl A B →
    (∀ w' S, BkAt e enc Mm rest g w' (P ++ S ++ R) → Chg g V w' → S.Perm (A ++ B) → Sd le S → Q (.tuple #[]) w') →
    f61 (.slice (some ⟨g, 0, none⟩) N c) (.int .i64 (a : Int)) (.int .i64 (mm : Int)) (.int .i64 (b : Int)) cf w Q := by
  intro n
  induction n with
  | zero => intro P A B R a mm b w Q hn hA hB; omega
  | succ n ih =>
    intro P A B R a mm b w Q hn hA hB hN ha hm hb hK hC sA sB hp kk
    have hN' := hN
    simp only [List.length_append] at hN'
    unfold f61
    have e1 : IntKind.i64.wrap ((mm : Int) - (a : Int)) = ((A.length : Nat) : Int) := by rw [w64 (by omega) (by omega)]; omega
    have e2 : IntKind.i64.wrap ((b : Int) - (mm : Int)) = ((B.length : Nat) : Int) := by rw [w64 (by omega) (by omega)]; omega
    by_cases hA1 : A.length = 1
    · obtain ⟨x, rfl⟩ : ∃ x, A = [x] := List.length_eq_one_iff.1 hA1
      have cA : ((([x] : List (β × Nat)).length : Nat) : Int) = 1 := rfl
      try simp only [↓reduceIte, ↓LL, LM, Value.cells, Nat.reduceAdd, Option.some.injEq, exists_eq_left', decide_true, decide_false, if_true, if_false, reduceCtorEq, cond_true, cond_false, e1, cA]
      have hK' : BkAt e enc Mm rest g w (P ++ x :: (B ++ R)) := by simpa using hK
      have hNx : (P ++ x :: (B ++ R)).length = N := by rw [← hN]; simp
      have em : (mm : Int) = ((P.length + 1 + 0 : Nat) : Int) := by rw [hm]; simp
      have eb : (b : Int) = ((P.length + 1 + B.length : Nat) : Int) := by rw [hb]; simp
      have ea : (a : Int) = ((P.length : Nat) : Int) := by rw [ha]
      rw [em, eb, ea]
      refine ⟨_, f61_find1 hn14 h1c O hcmp hbd hNx sB (fun y hy => hp x (by simp) y hy) B.length (B.length + 1) 0 B.length w (by omega) (by omega) (by omega) (by omega) hK' hC (by simp) (by simp) fun w1 k b1 c1 hk q1 q2 => ?_⟩
      unfold f61_j1
      refine ⟨_, f61_up hn14 h1c hbd hNx hk k (k + 1) 0 w1 (by omega) (by omega) (by simpa using b1) c1 fun w2 b2 c2 => ?_⟩
      refine kk w2 (B.take k ++ x :: B.drop k) (by simpa using b2) c2 ?_ (sd_ins (by rw [List.take_append_drop]; exact sB) q1 q2)
      refine List.perm_middle.trans ?_
      rw [List.take_append_drop]
      exact List.Perm.refl _
    · have cA : ¬ ((A.length : Nat) : Int) = 1 := by omega
      by_cases hB1 : B.length = 1
      · obtain ⟨y, rfl⟩ : ∃ y, B = [y] := List.length_eq_one_iff.1 hB1
        have cB : ((([y] : List (β × Nat)).length : Nat) : Int) = 1 := rfl
        try simp only [↓reduceIte, ↓LL, LM, Value.cells, Nat.reduceAdd, Option.some.injEq, exists_eq_left', decide_true, decide_false, if_true, if_false, reduceCtorEq, cond_true, cond_false, e1, e2, cA, cB]
        have hK' : BkAt e enc Mm rest g w (P ++ A ++ y :: R) := by simpa using hK
        have hNx : (P ++ A ++ y :: R).length = N := by rw [← hN]; simp
        have em : (mm : Int) = ((P.length + A.length : Nat) : Int) := by rw [hm]
        have ea : (a : Int) = ((P.length + 0 : Nat) : Int) := by rw [ha]; simp
        rw [em, ea]
        refine ⟨_, f61_find2 hn14 h1c O hcmp hbd hNx sA (fun x hx => hp x hx y (by simp)) A.length (A.length + 1) 0 A.length w (by omega) (by omega) (by omega) (by omega) hK' hC (by simp) (by simp) fun w1 k b1 c1 hk q1 q2 => ?_⟩
        unfold f61_j4
        refine ⟨_, f61_down hn14 h1c hbd hNx hk (A.length - k) (A.length - k + 1) A.length w1 (by omega) (by omega) (by omega) (by simpa using b1) c1 fun w2 b2 c2 => ?_⟩
        refine kk w2 (A.take k ++ y :: A.drop k) (by simpa using b2) c2 ?_ (sd_ins (by rw [List.take_append_drop]; exact sA) q1 q2)
        refine List.perm_middle.trans ?_
        rw [List.take_append_drop]
        exact (List.perm_append_singleton _ _).symm
      · have cB : ¬ ((B.length : Nat) : Int) = 1 := by omega
        obtain ⟨D, hD⟩ : ∃ D, (a + b) / 2 = P.length + D := ⟨(a + b) / 2 - P.length, by omega⟩
        have e3 : IntKind.i64.wrap ((a : Int) + (b : Int)) = ((a + b : Nat) : Int) := by rw [w64 (by omega) (by omega)]; omega
        have e4 : IntKind.u64.wrap ((a + b : Nat) : Int) = ((a + b : Nat) : Int) := wu64 (by omega) (by omega)
        have e5 : IntKind.i64.wrap ((P.length + D : Nat) : Int) = ((P.length + D : Nat) : Int) := w64 (by omega) (by omega)
        have e6 : IntKind.i64.wrap (((P.length + D : Nat) : Int) + (mm : Int)) = ((P.length + D + (P.length + A.length) : Nat) : Int) := by rw [w64 (by omega) (by omega)]; omega
        have e7 : IntKind.i64.wrap (((P.length + D + (P.length + A.length) : Nat) : Int) - 1) = ((P.length + D + (P.length + A.length) - 1 : Nat) : Int) := by rw [w64 (by omega) (by omega)]; omega
        try simp only [↓reduceIte, ↓LL, LM, Value.cells, Nat.reduceAdd, Option.some.injEq, exists_eq_left', decide_true, decide_false, if_true, if_false, reduceCtorEq, cond_true, cond_false, e1, e2, cA, cB, e3, e4]
        rw [shr1, hD]
        try simp only [↓reduceIte, ↓LL, LM, Value.cells, Nat.reduceAdd, Option.some.injEq, exists_eq_left', decide_true, decide_false, if_true, if_false, reduceCtorEq, cond_true, cond_false, e5, e6]
        -- behind the search
        have fin : ∀ (w1 : World) (k : Nat), BkAt e enc Mm rest g w1 (P ++ A ++ B ++ R) → Chg g V w1 → k ≤ A.length → k ≤ D → D ≤ k + B.length → (0 < k → ∀ x y, A[k - 1]? = some x → B[D - k]? = some y → slt le x y) → (k < D → ∀ x y, B[D - 1 - k]? = some y → A[k]? = some x → slt le y x) →
            f61_j8 (.slice (some ⟨g, 0, none⟩) N c) (.int .i64 (a : Int)) (.int .i64 (mm : Int)) (.int .i64 (b : Int)) cf (.int .i64 ((P.length + D : Nat) : Int)) (.int .i64 ((P.length + D + (P.length + A.length) : Nat) : Int)) (.int .i64 ((P.length + k : Nat) : Int)) w1 Q := by
          intro w1 k b1 c1 hkA hkD hDk q1 q2
          unfold f61_j8
          obtain ⟨A1, A2, hA12, hl1⟩ : ∃ A1 A2, A = A1 ++ A2 ∧ A1.length = k := ⟨A.take k, A.drop k, (List.take_append_drop _ _).symm, by rw [List.length_take]; omega⟩
          obtain ⟨B1, B2, hB12, hl2⟩ : ∃ B1 B2, B = B1 ++ B2 ∧ B1.length = D - k := ⟨B.take (D - k), B.drop (D - k), (List.take_append_drop _ _).symm, by rw [List.length_take]; omega⟩
          have la : A.length = A1.length + A2.length := by rw [hA12, List.length_append]
          have lb : B.length = B1.length + B2.length := by rw [hB12, List.length_append]
          have sA' := sA
          rw [hA12] at sA'
          have sB' := sB
          rw [hB12] at sB'
          have sa := sd_app.1 sA'
          have sb := sd_app.1 sB'
          have f1 : Bf le A1 B2 := bf_last O sa.1 sb.2.1 fun x y hx hy => by
            have hk0 : 0 < k := by
              rcases Nat.eq_zero_or_pos k with h | h
              · rw [List.length_eq_zero_iff.1 (hl1.trans h)] at hx; cases hx
              · exact h
            refine q1 hk0 x y ?_ ?_
            · rw [hA12, List.getElem?_append_left (by omega), ← hx, List.getLast?_eq_getElem?, hl1]
            · rw [hB12, List.getElem?_append_right (by omega), hl2, Nat.sub_self, ← hy, List.head?_eq_getElem?]
          have f2 : Bf le B1 A2 := bf_last O sb.1 sa.2.1 fun y x hy hx => by
            have hk0 : k < D := by
              rcases Nat.lt_or_ge k D with h | h
              · exact h
              · rw [List.length_eq_zero_iff.1 (hl2.trans (by omega))] at hy; cases hy
            refine q2 hk0 x y ?_ ?_
            · rw [hB12, List.getElem?_append_left (by omega), ← hy, List.getLast?_eq_getElem?, hl2]; congr 1; omega
            · rw [hA12, List.getElem?_append_right (by omega), hl1, Nat.sub_self, ← hx, List.head?_eq_getElem?]
          have p1 : Pl A1 B1 := fun x hx y hy => hp x (by rw [hA12]; exact List.mem_append_left _ hx) y (by rw [hB12]; exact List.mem_append_left _ hy)
          have p2 : Pl A2 B2 := fun x hx y hy => hp x (by rw [hA12]; exact List.mem_append_right _ hx) y (by rw [hB12]; exact List.mem_append_right _ hy)
          have e8 : IntKind.i64.wrap (((P.length + D + (P.length + A.length) : Nat) : Int) - ((P.length + k : Nat) : Int)) = ((P.length + A.length + (D - k) : Nat) : Int) := by rw [w64 (by omega) (by omega)]; omega
          -- behind both halves
          have fin2 : ∀ (w2 : World) (S1 : List (β × Nat)), BkAt e enc Mm rest g w2 (P ++ S1 ++ A2 ++ B2 ++ R) → Chg g V w2 → S1.Perm (A1 ++ B1) → Sd le S1 →
              f61_j11 (.slice (some ⟨g, 0, none⟩) N c) (.int .i64 (b : Int)) cf (.int .i64 ((P.length + D : Nat) : Int)) (.int .i64 ((P.length + A.length + (D - k) : Nat) : Int)) w2 Q := by
            intro w2 S1 b2 c2 pS1 sS1
            have lS1 : S1.length = D := by rw [pS1.length_eq, List.length_append]; omega
            unfold f61_j11
            by_cases z1 : 0 < A2.length
            · have c1' : ((P.length + D : Nat) : Int) < ((P.length + A.length + (D - k) : Nat) : Int) := by omega
              by_cases z2 : 0 < B2.length
              · have c2' : ((P.length + A.length + (D - k) : Nat) : Int) < (b : Int) := by omega
                try simp only [↓reduceIte, ↓LL, LM, Value.cells, Nat.reduceAdd, Option.some.injEq, exists_eq_left', decide_true, decide_false, if_true, if_false, reduceCtorEq, cond_true, cond_false, c1', c2']
                refine s61 _ _ _ _ _ w2 _ ?_
                refine ih (P ++ S1) A2 B2 R _ _ _ w2 _ (by omega) z1 z2 (by rw [← hN, hA12, hB12]; simp; omega) (by simp; omega) (by simp; omega) (by simp; omega) (by simpa using b2) c2 sa.2.1 sb.2.1 p2 fun w3 S2 b3 c3 pS2 sS2 => ?_
                try simp only [↓reduceIte, ↓LL, LM, Value.cells, Nat.reduceAdd, Option.some.injEq, exists_eq_left', decide_true, decide_false, if_true, if_false, reduceCtorEq, cond_true, cond_false]
                obtain ⟨t1, t2⟩ := merge_halves O sA' sB' f1 f2 pS1 pS2 sS1 sS2
                exact kk w3 (S1 ++ S2) (by simpa using b3) c3 (by rw [hA12, hB12]; exact t2) t1
              · have c2' : ¬ ((P.length + A.length + (D - k) : Nat) : Int) < (b : Int) := by omega
                try simp only [↓reduceIte, ↓LL, LM, Value.cells, Nat.reduceAdd, Option.some.injEq, exists_eq_left', decide_true, decide_false, if_true, if_false, reduceCtorEq, cond_true, cond_false, c1', c2']
                have hB2 : B2 = [] := List.length_eq_zero_iff.1 (by omega)
                obtain ⟨t1, t2⟩ := merge_halves O sA' sB' f1 f2 pS1 (S2 := A2) (by rw [hB2, List.append_nil]) sS1 sa.2.1
                exact kk w2 (S1 ++ A2) (by rw [hB2] at b2; simpa using b2) c2 (by rw [hA12, hB12]; exact t2) t1
            · have c1' : ¬ ((P.length + D : Nat) : Int) < ((P.length + A.length + (D - k) : Nat) : Int) := by omega
              try simp only [↓reduceIte, ↓LL, LM, Value.cells, Nat.reduceAdd, Option.some.injEq, exists_eq_left', decide_true, decide_false, if_true, if_false, reduceCtorEq, cond_true, cond_false, c1']
              have hA2 : A2 = [] := List.length_eq_zero_iff.1 (by omega)
              obtain ⟨t1, t2⟩ := merge_halves O sA' sB' f1 f2 pS1 (S2 := B2) (by rw [hA2, List.nil_append]) sS1 sb.2.1
              exact kk w2 (S1 ++ B2) (by rw [hA2] at b2; simpa using b2) c2 (by rw [hA12, hB12]; exact t2) t1
          -- behind the rotation
          have fin1 : ∀ (w2 : World), BkAt e enc Mm rest g w2 (P ++ A1 ++ B1 ++ A2 ++ B2 ++ R) → Chg g V w2 →
              f61_j10 (.slice (some ⟨g, 0, none⟩) N c) (.int .i64 (a : Int)) (.int .i64 (b : Int)) cf (.int .i64 ((P.length + D : Nat) : Int)) (.int .i64 ((P.length + k : Nat) : Int)) (.int .i64 ((P.length + A.length + (D - k) : Nat) : Int)) w2 Q := by
            intro w2 b2 c2
            unfold f61_j10
            by_cases z1 : 0 < A1.length
            · have c1' : (a : Int) < ((P.length + k : Nat) : Int) := by omega
              by_cases z2 : 0 < B1.length
              · have c2' : ((P.length + k : Nat) : Int) < ((P.length + D : Nat) : Int) := by omega
                try simp only [↓reduceIte, ↓LL, LM, Value.cells, Nat.reduceAdd, Option.some.injEq, exists_eq_left', decide_true, decide_false, if_true, if_false, reduceCtorEq, cond_true, cond_false, c1', c2']
                refine s61 _ _ _ _ _ w2 _ ?_
                refine ih P A1 B1 (A2 ++ B2 ++ R) _ _ _ w2 _ (by omega) z1 z2 (by rw [← hN, hA12, hB12]; simp; omega) ha (by omega) (by omega) (by simpa using b2) c2 sa.1 sb.1 p1 fun w3 S1 b3 c3 pS1 sS1 => ?_
                try simp only [↓reduceIte, ↓LL, LM, Value.cells, Nat.reduceAdd, Option.some.injEq, exists_eq_left', decide_true, decide_false, if_true, if_false, reduceCtorEq, cond_true, cond_false]
                exact fin2 w3 S1 (by simpa using b3) c3 pS1 sS1
              · have c2' : ¬ ((P.length + k : Nat) : Int) < ((P.length + D : Nat) : Int) := by omega
                try simp only [↓reduceIte, ↓LL, LM, Value.cells, Nat.reduceAdd, Option.some.injEq, exists_eq_left', decide_true, decide_false, if_true, if_false, reduceCtorEq, cond_true, cond_false, c1', c2']
                have hB1 : B1 = [] := List.length_eq_zero_iff.1 (by omega)
                exact fin2 w2 A1 (by rw [hB1] at b2; simpa using b2) c2 (by rw [hB1, List.append_nil]) sa.1
            · have c1' : ¬ (a : Int) < ((P.length + k : Nat) : Int) := by omega
              try simp only [↓reduceIte, ↓LL, LM, Value.cells, Nat.reduceAdd, Option.some.injEq, exists_eq_left', decide_true, decide_false, if_true, if_false, reduceCtorEq, cond_true, cond_false, c1']
              have hA1 : A1 = [] := List.length_eq_zero_iff.1 (by omega)
              exact fin2 w2 B1 (by rw [hA1] at b2; simpa using b2) c2 (by rw [hA1, List.nil_append]) sb.1
          have b1' : BkAt e enc Mm rest g w1 ((P ++ A1) ++ A2 ++ B1 ++ (B2 ++ R)) := by rw [hA12, hB12] at b1; simpa using b1
          by_cases z1 : 0 < A2.length
          · have c1' : ((P.length + k : Nat) : Int) < (mm : Int) := by omega
            by_cases z2 : 0 < B1.length
            · have c2' : (mm : Int) < ((P.length + A.length + (D - k) : Nat) : Int) := by omega
              try simp only [↓reduceIte, ↓LL, LM, Value.cells, Nat.reduceAdd, Option.some.injEq, exists_eq_left', decide_true, decide_false, if_true, if_false, reduceCtorEq, cond_true, cond_false, e8, c1', c2']
              refine f74_s hn14 h1c z1 z2 (by rw [← hN, hA12, hB12]; simp) hbd b1' c1 (by simp; omega) (by simp; omega) (by simp; omega) fun w2 b2 c2 => ?_
              try simp only [↓reduceIte, ↓LL, LM, Value.cells, Nat.reduceAdd, Option.some.injEq, exists_eq_left', decide_true, decide_false, if_true, if_false, reduceCtorEq, cond_true, cond_false]
              exact fin1 w2 (by simpa using b2) c2
            · have c2' : ¬ (mm : Int) < ((P.length + A.length + (D - k) : Nat) : Int) := by omega
              try simp only [↓reduceIte, ↓LL, LM, Value.cells, Nat.reduceAdd, Option.some.injEq, exists_eq_left', decide_true, decide_false, if_true, if_false, reduceCtorEq, cond_true, cond_false, e8, c1', c2']
              have hB1 : B1 = [] := List.length_eq_zero_iff.1 (by omega)
              exact fin1 w1 (by rw [hB1] at b1' ⊢; simpa using b1') c1
          · have c1' : ¬ ((P.length + k : Nat) : Int) < (mm : Int) := by omega
            try simp only [↓reduceIte, ↓LL, LM, Value.cells, Nat.reduceAdd, Option.some.injEq, exists_eq_left', decide_true, decide_false, if_true, if_false, reduceCtorEq, cond_true, cond_false, e8, c1']
            have hA2 : A2 = [] := List.length_eq_zero_iff.1 (by omega)
            exact fin1 w1 (by rw [hA2] at b1' ⊢; simpa using b1') c1
        by_cases hgt : P.length + D < mm
        · have c3 : ((P.length + D : Nat) : Int) < (mm : Int) := by omega
          have e9 : IntKind.i64.wrap (((P.length + D + (P.length + A.length) : Nat) : Int) - (b : Int)) = ((P.length + (D - B.length) : Nat) : Int) := by rw [w64 (by omega) (by omega)]; omega
          try simp only [↓reduceIte, ↓LL, LM, Value.cells, Nat.reduceAdd, Option.some.injEq, exists_eq_left', decide_true, decide_false, if_true, if_false, reduceCtorEq, cond_true, cond_false, c3, e9]
          unfold f61_j7
          try simp only [↓reduceIte, ↓LL, LM, Value.cells, Nat.reduceAdd, Option.some.injEq, exists_eq_left', decide_true, decide_false, if_true, if_false, reduceCtorEq, cond_true, cond_false, e7]
          refine ⟨_, f61_half hn14 h1c O hcmp hbd hN D (D + 1) (D - B.length) D w (by omega) (by omega) (by omega) (by omega) (by omega) (by omega) hp hK hC (fun h0 x y hx hy => ?_) (fun h => by omega) fun w1 k b1 c1 q1 q2 q3 q4 q5 => fin w1 k b1 c1 q1 q2 q3 q4 q5⟩
          rw [show D - (D - B.length) = B.length from by omega, List.getElem?_eq_none (Nat.le_refl _)] at hy
          cases hy
        · have c3 : ¬ ((P.length + D : Nat) : Int) < (mm : Int) := by omega
          try simp only [↓reduceIte, ↓LL, LM, Value.cells, Nat.reduceAdd, Option.some.injEq, exists_eq_left', decide_true, decide_false, if_true, if_false, reduceCtorEq, cond_true, cond_false, c3]
          unfold f61_j7
          try simp only [↓reduceIte, ↓LL, LM, Value.cells, Nat.reduceAdd, Option.some.injEq, exists_eq_left', decide_true, decide_false, if_true, if_false, reduceCtorEq, cond_true, cond_false, e7]
          have := f61_half (Q := Q) (c := c) (ta := .int .i64 (a : Int)) (tm := .int .i64 (mm : Int)) (tb := .int .i64 (b : Int)) (td := .int .i64 ((P.length + D : Nat) : Int)) (D := D) (j8 := f61_j8) hn14 h1c O hcmp hbd hN A.length (A.length + 1) 0 A.length w (by omega) (by omega) (by omega) (by omega) (by omega) (by omega) hp hK hC (fun h0 => by omega) (fun h x y hx hy => by rw [List.getElem?_eq_none (Nat.le_refl _)] at hy; cases hy) fun w1 k b1 c1 q1 q2 q3 q4 q5 => fin w1 k b1 c1 q1 q2 q3 q4 q5
          have ea : (a : Int) = ((P.length + 0 : Nat) : Int) := by rw [ha]; simp
          have em : (mm : Int) = ((P.length + A.length : Nat) : Int) := by rw [hm]
          rw [← ea, ← em] at this
          exact ⟨_, this⟩
end
end Go.Proofs.Ytiajdaagamhbnaa

set_option maxRecDepth 20000
set_option maxHeartbeats 4000000
namespace Go.Proofs.Ytiajdaagamhbnaa
open Sh RowKit Go.MapKept Srt
/-! the whole -/
section
variable {β : Type} {e : TypeId} {enc : β → List Value} {le : β → β → Bool} {Mm : β → Prop} {rest : List Value} {g c N : Nat} {V w : World} {cf : Value} {Q : Value → World → Prop}
theorem f53_runs (hn14 : ∀ x, (enc x).length = 6) (h1c : ∀ x, ∀ v ∈ enc x, v.oneCell' = true) (O : Ord le) (hcmp : CmpOf Try.prog V g cf (fun x => .agg (enc x).toArray) le Mm) (hbd : N ≤ 281474976710656) {L0 : List (β × Nat)} (hinc : L0.Pairwise (fun x y => x.2 < y.2)) (hN : L0.length = N) {j1 : Value → Value → Value → Value → Value → M} : ∀ (d m : Nat) (D : List (β × Nat)) (w : World), L0.length < D.length + d → d < m → D.length ≤ L0.length →
    D.Perm (L0.take D.length) → Pre le 20 D → BkAt e enc Mm rest g w (D ++ L0.drop D.length) → Chg g V w →
    (∀ w' D, BkAt e enc Mm rest g w' (D ++ L0.drop D.length) → Chg g V w' → D.Perm (L0.take D.length) → Pre le 20 D → D.length ≤ L0.length → L0.length < D.length + 20 → j1 (.slice (some ⟨g, 0, none⟩) N c) (.int .i64 (N : Int)) cf (.int .i64 20) (.int .i64 (D.length : Nat)) w' Q) →
    itr (fun _ _ _ _ _ _ => bot) (f53_b2 j1) m (.slice (some ⟨g, 0, none⟩) N c) (.int .i64 (N : Int)) cf (.int .i64 20) (.int .i64 (D.length : Nat)) (.int .i64 ((D.length + 20 : Nat) : Int)) w Q := by
  intro d
  induction d with
  | zero => intro m D w hdd hm hl; omega
  | succ d ih =>
    intro m D w hdd hm hl hp hpre hB hC kk
    obtain ⟨m, rfl⟩ : ∃ x, m = x + 1 := ⟨m - 1, by omega⟩
    show f53_b2 j1 _ _ _ _ _ _ _ w Q
    unfold f53_b2
    by_cases hle : D.length + 20 ≤ N
    · have cc : ((D.length + 20 : Nat) : Int) ≤ (N : Int) := by omega
      have e1 : IntKind.i64.wrap (((D.length + 20 : Nat) : Int) + 20) = ((D.length + 20 + 20 : Nat) : Int) := by rw [w64 (by omega) (by omega)]; rfl
      try simp only [↓reduceIte, ↓LL, LM, Value.cells, Nat.reduceAdd, Option.some.injEq, exists_eq_left', decide_true, decide_false, if_true, if_false, reduceCtorEq, cond_true, cond_false, cc, e1]
      have hsp : L0.drop D.length = (L0.drop D.length).take 20 ++ L0.drop (D.length + 20) := by
        rw [← List.drop_drop]; exact (List.take_append_drop _ _).symm
      have hl20 : ((L0.drop D.length).take 20).length = 20 := by rw [List.length_take, List.length_drop]; omega
      have hinc2 : ((L0.drop D.length).take 20).Pairwise (fun x y => x.2 < y.2) := (hinc.sublist (List.drop_sublist _ _)).sublist (List.take_sublist _ _)
      rw [hsp, ← List.append_assoc] at hB
      have hpl : Pl (L0.take D.length) ((L0.drop D.length).take 20) := fun x hx y hy => by
        have h := hinc
        rw [← List.take_append_drop D.length L0, List.pairwise_append] at h
        exact h.2.2 x hx y (List.mem_of_mem_take hy)
      refine f60_s hn14 h1c O hcmp hbd hinc2 (by rw [← hN]; simp; omega) hB hC rfl (by omega) fun w1 S b1 c1 pS sS => ?_
      have lS : S.length = 20 := by rw [pS.length_eq]; exact hl20
      have lDS : (D ++ S).length = D.length + 20 := by rw [List.length_append, lS]
      try simp only [↓reduceIte, ↓LL, LM, Value.cells, Nat.reduceAdd, Option.some.injEq, exists_eq_left', decide_true, decide_false, if_true, if_false, reduceCtorEq, cond_true, cond_false, e1]
      have := ih m (D ++ S) w1 (by omega) (by omega) (by omega) ?_ (pre_snoc hpre sS lS (pl_perm hpl hp pS)) (by rw [lDS]; exact b1) c1 kk
      · rw [lDS] at this
        exact this
      · rw [lDS, List.take_add]
        exact hp.append pS
    · have cc : ¬ ((D.length + 20 : Nat) : Int) ≤ (N : Int) := by omega
      try simp only [↓reduceIte, ↓LL, LM, Value.cells, Nat.reduceAdd, Option.some.injEq, exists_eq_left', decide_true, decide_false, if_true, if_false, reduceCtorEq, cond_true, cond_false, cc]
      exact kk w D hB hC hp hpre hl (by omega)
theorem f53_pass (hn14 : ∀ x, (enc x).length = 6) (h1c : ∀ x, ∀ v ∈ enc x, v.oneCell' = true) (O : Ord le) (hcmp : CmpOf Try.prog V g cf (fun x => .agg (enc x).toArray) le Mm) (hbd : N ≤ 281474976710656) {L0 : List (β × Nat)} (hN : L0.length = N) {bs : Nat} (hbs : 0 < bs ∧ bs < N) {j4 : Value → Value → Value → Value → Value → M} : ∀ (d m : Nat) (D T : List (β × Nat)) (w : World), L0.length < D.length + d → d < m →
    (D ++ T).Perm L0 → Pre le (2 * bs) D → Rn le bs T → Pl D T → BkAt e enc Mm rest g w (D ++ T) → Chg g V w →
    (∀ w' D T, BkAt e enc Mm rest g w' (D ++ T) → Chg g V w' → (D ++ T).Perm L0 → Pre le (2 * bs) D → Rn le bs T → Pl D T → T.length < 2 * bs → j4 (.slice (some ⟨g, 0, none⟩) N c) (.int .i64 (N : Int)) cf (.int .i64 (bs : Int)) (.int .i64 (D.length : Nat)) w' Q) →
    itr (fun _ _ _ _ _ _ => bot) (f53_b5 j4) m (.slice (some ⟨g, 0, none⟩) N c) (.int .i64 (N : Int)) cf (.int .i64 (bs : Int)) (.int .i64 (D.length : Nat)) (.int .i64 ((D.length + 2 * bs : Nat) : Int)) w Q := by
  intro d
  induction d with
  | zero =>
    intro m D T w hdd hm hp
    have := hp.length_eq
    rw [List.length_append] at this
    omega
  | succ d ih =>
    intro m D T w hdd hm hp hpre hrn hpl hB hC kk
    obtain ⟨m, rfl⟩ : ∃ x, m = x + 1 := ⟨m - 1, by omega⟩
    show f53_b5 j4 _ _ _ _ _ _ _ w Q
    unfold f53_b5
    have hlen := hp.length_eq
    rw [List.length_append] at hlen
    by_cases hle : D.length + 2 * bs ≤ N
    · have cc : ((D.length + 2 * bs : Nat) : Int) ≤ (N : Int) := by omega
      have e1 : IntKind.i64.wrap (((D.length : Nat) : Int) + (bs : Int)) = ((D.length + bs : Nat) : Int) := by rw [w64 (by omega) (by omega)]; rfl
      have e2 : IntKind.i64.wrap ((2 : Int) * (bs : Int)) = ((2 * bs : Nat) : Int) := by rw [w64 (by omega) (by omega)]; omega
      have e3 : IntKind.i64.wrap (((D.length + 2 * bs : Nat) : Int) + ((2 * bs : Nat) : Int)) = ((D.length + 2 * bs + 2 * bs : Nat) : Int) := by rw [w64 (by omega) (by omega)]; rfl
      try simp only [↓reduceIte, ↓LL, LM, Value.cells, Nat.reduceAdd, Option.some.injEq, exists_eq_left', decide_true, decide_false, if_true, if_false, reduceCtorEq, cond_true, cond_false, cc, e1]
      obtain ⟨B1, T1, rfl, s1, l1, p1, r1⟩ := rn_inv hrn (by omega)
      rw [List.length_append] at hlen
      obtain ⟨B2, T2, rfl, s2, l2, p2, r2⟩ := rn_inv r1 (by omega)
      have pp := pl_app.1 p1
      have hB' : BkAt e enc Mm rest g w (D ++ B1 ++ B2 ++ T2) := by simpa using hB
      refine f61_s hn14 h1c O hcmp hbd _ D B1 B2 T2 _ _ _ w _ (Nat.le_refl _) (by omega) (by omega) (by rw [← hN, ← hp.length_eq]; simp; try omega) rfl (by omega) (by omega) hB' hC s1 s2 pp.1 fun w1 S b1 c1 pS sS => ?_
      have lS : S.length = 2 * bs := by rw [pS.length_eq, List.length_append]; omega
      have lDS : (D ++ S).length = D.length + 2 * bs := by rw [List.length_append, lS]
      have pl2 := pl_app.1 hpl
      have pl3 := pl_app.1 pl2.2
      try simp only [↓reduceIte, ↓LL, LM, Value.cells, Nat.reduceAdd, Option.some.injEq, exists_eq_left', decide_true, decide_false, if_true, if_false, reduceCtorEq, cond_true, cond_false, e2, e3]
      have := ih m (D ++ S) T2 w1 (by omega) (by omega) ?_ (pre_snoc hpre sS lS (pl_perm (pl_app.2 ⟨pl2.1, pl3.1⟩) (List.Perm.refl _) pS)) r2 (app_pl.2 ⟨pl3.2, pl_perm (app_pl.2 ⟨pp.2, p2⟩) pS (List.Perm.refl _)⟩) b1 c1 kk
      · rw [lDS] at this
        exact this
      · refine List.Perm.trans ?_ hp
        rw [List.append_assoc]
        refine List.Perm.append_left D ?_
        rw [← List.append_assoc]
        exact pS.append_right T2
    · have cc : ¬ ((D.length + 2 * bs : Nat) : Int) ≤ (N : Int) := by omega
      try simp only [↓reduceIte, ↓LL, LM, Value.cells, Nat.reduceAdd, Option.some.injEq, exists_eq_left', decide_true, decide_false, if_true, if_false, reduceCtorEq, cond_true, cond_false, cc]
      exact kk w D T hB hC hp hpre hrn hpl (by omega)
theorem f53_all (hn14 : ∀ x, (enc x).length = 6) (h1c : ∀ x, ∀ v ∈ enc x, v.oneCell' = true) (O : Ord le) (hcmp : CmpOf Try.prog V g cf (fun x => .agg (enc x).toArray) le Mm) (hbd : N ≤ 281474976710656) {L0 : List (β × Nat)} (hN : L0.length = N) : ∀ (d m bs : Nat) (T : List (β × Nat)) (w : World), N ≤ bs + d → d < m → 0 < bs → bs ≤ 2 * N + 20 →
    T.Perm L0 → Rn le bs T → BkAt e enc Mm rest g w T → Chg g V w →
    (∀ w' T, BkAt e enc Mm rest g w' T → Chg g V w' → T.Perm L0 → Sd le T → Q (.tuple #[]) w') →
    itr (fun _ _ _ _ => bot) (f53_b3) m (.slice (some ⟨g, 0, none⟩) N c) (.int .i64 (N : Int)) cf (.int .i64 (bs : Int)) w Q := by
  intro d
  induction d with
  | zero =>
    intro m bs T w hdd hm h0 hbs hp hrn hB hC kk
    obtain ⟨m, rfl⟩ : ∃ x, m = x + 1 := ⟨m - 1, by omega⟩
    show f53_b3 _ _ _ _ _ w Q
    unfold f53_b3
    have cc : ¬ (bs : Int) < (N : Int) := by omega
    try simp only [↓reduceIte, ↓LL, LM, Value.cells, Nat.reduceAdd, Option.some.injEq, exists_eq_left', decide_true, decide_false, if_true, if_false, reduceCtorEq, cond_true, cond_false, cc]
    exact kk w T hB hC hp (rn_one hrn (by rw [hp.length_eq]; omega))
  | succ d ih =>
    intro m bs T w hdd hm h0 hbs hp hrn hB hC kk
    obtain ⟨m, rfl⟩ : ∃ x, m = x + 1 := ⟨m - 1, by omega⟩
    show f53_b3 _ _ _ _ _ w Q
    unfold f53_b3
    by_cases hlt : bs < N
    · have cc : (bs : Int) < (N : Int) := by omega
      have e2 : IntKind.i64.wrap ((2 : Int) * (bs : Int)) = ((2 * bs : Nat) : Int) := by rw [w64 (by omega) (by omega)]; omega
      have e5 : ((2 * bs : Nat) : Int) = ((([] : List (β × Nat)).length + 2 * bs : Nat) : Int) := by simp
      have e4 : IntKind.i64.wrap ((bs : Int) * (2 : Int)) = ((2 * bs : Nat) : Int) := by rw [w64 (by omega) (by omega)]; omega
      try simp only [↓reduceIte, ↓LL, LM, Value.cells, Nat.reduceAdd, Option.some.injEq, exists_eq_left', decide_true, decide_false, if_true, if_false, reduceCtorEq, cond_true, cond_false, cc, e2]
      rw [e5]
      refine ⟨_, f53_pass (Q := Q) (j4 := f53_j4 (itr (fun _ _ _ _ => bot) f53_b3 m)) hn14 h1c O hcmp hbd hN ⟨h0, hlt⟩ (N + 1) (N + 2) [] T w (by simp; omega) (by omega) (by simpa using hp) pre_nil hrn (fun x hx => by cases hx) (by simpa using hB) hC fun w1 D T1 b1 c1 p1 q1 r1 l1 z1 => ?_⟩
      unfold f53_j4
      have hlen := p1.length_eq
      rw [List.length_append] at hlen
      have e1 : IntKind.i64.wrap (((D.length : Nat) : Int) + (bs : Int)) = ((D.length + bs : Nat) : Int) := by rw [w64 (by omega) (by omega)]; rfl
      by_cases hm2 : D.length + bs < N
      · have c2 : ((D.length + bs : Nat) : Int) < (N : Int) := by omega
        try simp only [↓reduceIte, ↓LL, LM, Value.cells, Nat.reduceAdd, Option.some.injEq, exists_eq_left', decide_true, decide_false, if_true, if_false, reduceCtorEq, cond_true, cond_false, e1, c2]
        obtain ⟨B1, T2, rfl, s1, l2, p2, r2⟩ := rn_inv r1 (by omega)
        rw [List.length_append] at hlen z1
        have sT2 := rn_last r2 (by omega)
        have b1' : BkAt e enc Mm rest g w1 (D ++ B1 ++ T2 ++ []) := by simpa using b1
        refine f61_s hn14 h1c O hcmp hbd _ D B1 T2 [] _ _ _ w1 _ (Nat.le_refl _) (by omega) (by omega) (by rw [← hN, ← p1.length_eq]; simp; try omega) rfl (by omega) (by omega) b1' c1 s1 sT2 p2 fun w2 S b2 c2 pS sS => ?_
        unfold f53_j6
        try simp only [↓reduceIte, ↓LL, LM, Value.cells, Nat.reduceAdd, Option.some.injEq, exists_eq_left', decide_true, decide_false, if_true, if_false, reduceCtorEq, cond_true, cond_false, e4]
        have lS : S.length < 2 * bs := by rw [pS.length_eq, List.length_append]; omega
        refine ih m (2 * bs) (D ++ S) w2 (by omega) (by omega) (by omega) (by omega) ((pS.append_left D).trans p1) (q1 S (.last sS lS) (pl_perm l1 (List.Perm.refl _) pS)) (by simpa using b2) c2 kk
      · have c2 : ¬ ((D.length + bs : Nat) : Int) < (N : Int) := by omega
        try simp only [↓reduceIte, ↓LL, LM, Value.cells, Nat.reduceAdd, Option.some.injEq, exists_eq_left', decide_true, decide_false, if_true, if_false, reduceCtorEq, cond_true, cond_false, e1, c2]
        unfold f53_j6
        try simp only [↓reduceIte, ↓LL, LM, Value.cells, Nat.reduceAdd, Option.some.injEq, exists_eq_left', decide_true, decide_false, if_true, if_false, reduceCtorEq, cond_true, cond_false, e4]
        exact ih m (2 * bs) (D ++ T1) w1 (by omega) (by omega) (by omega) (by omega) p1 (q1 T1 (.last (rn_one r1 (by omega)) z1) l1) b1 c1 kk
    · have cc : ¬ (bs : Int) < (N : Int) := by omega
      try simp only [↓reduceIte, ↓LL, LM, Value.cells, Nat.reduceAdd, Option.some.injEq, exists_eq_left', decide_true, decide_false, if_true, if_false, reduceCtorEq, cond_true, cond_false, cc]
      exact kk w T hB hC hp (rn_one hrn (by rw [hp.length_eq]; omega))
/-- sorted, ties staying -/
theorem f42_s (hn14 : ∀ x, (enc x).length = 6) (h1c : ∀ x, ∀ v ∈ enc x, v.oneCell' = true) (O : Ord le) (hcmp : CmpOf Try.prog V g cf (fun x => .agg (enc x).toArray) le Mm) (hbd : N ≤ 281474976710656) {l : List β} (hN : l.length = N) (hB : BkAt e enc Mm rest g w (num 0 l)) (hC : Chg g V w)
    (kk : ∀ w', BkAt e enc Mm rest g w' (isort le (num 0 l)) → Chg g V w' → Q (.tuple #[]) w') : f42 (.slice (some ⟨g, 0, none⟩) N c) cf w Q := by
  unfold f42 f53
  have hN0 : (num 0 l).length = N := by rw [num_len]; exact hN
  try simp only [↓reduceIte, ↓LL, LM, Value.cells, Nat.reduceAdd, Option.some.injEq, exists_eq_left', decide_true, decide_false, if_true, if_false, reduceCtorEq, cond_true, cond_false]
  refine ⟨_, f53_runs (Q := _) (j1 := f53_j1) hn14 h1c O hcmp hbd (num_inc l 0) hN0 (N + 1) (N + 2) [] w (by simp; omega) (by omega) (by simp) (by simp) pre_nil (by simpa using hB) hC fun w1 D b1 c1 p1 q1 l1 l2 => ?_⟩
  unfold f53_j1
  try simp only [↓reduceIte, ↓LL, LM, Value.cells, Nat.reduceAdd, Option.some.injEq, exists_eq_left', decide_true, decide_false, if_true, if_false, reduceCtorEq, cond_true, cond_false]
  have hinc2 : ((num 0 l).drop D.length).Pairwise (fun x y => x.2 < y.2) := (num_inc l 0).sublist (List.drop_sublist _ _)
  have hpl : Pl ((num 0 l).take D.length) ((num 0 l).drop D.length) := fun x hx y hy => by
    have h := num_inc l 0
    rw [← List.take_append_drop D.length (num 0 l), List.pairwise_append] at h
    exact h.2.2 x hx y hy
  have b1' : BkAt e enc Mm rest g w1 (D ++ (num 0 l).drop D.length ++ []) := by simpa using b1
  refine f60_s hn14 h1c O hcmp hbd (R := []) hinc2 (by rw [← hN0]; simp; omega) b1' c1 rfl (by simp; omega) fun w2 S b2 c2 pS sS => ?_
  have lS : S.length = N - D.length := by rw [pS.length_eq, List.length_drop]; omega
  try simp only [↓reduceIte, ↓LL, LM, Value.cells, Nat.reduceAdd, Option.some.injEq, exists_eq_left', decide_true, decide_false, if_true, if_false, reduceCtorEq, cond_true, cond_false]
  refine ⟨_, f53_all hn14 h1c O hcmp hbd hN0 (N + 1) (N + 2) 20 (D ++ S) w2 (by omega) (by omega) (by omega) (by omega) ?_ (q1 S (.last sS (by omega)) (pl_perm hpl p1 pS)) (by simpa using b2) c2 fun w3 T b3 c3 p3 s3 => ?_⟩
  · have := p1.append pS
    rwa [List.take_append_drop] at this
  · try simp only [↓reduceIte, ↓LL, LM, Value.cells, Nat.reduceAdd, Option.some.injEq, exists_eq_left', decide_true, decide_false, if_true, if_false, reduceCtorEq, cond_true, cond_false]
    rw [sorted_is O p3 s3] at b3
    exact kk w3 b3 c3
/-- nothing to sort -/
theorem f42_nil (kk : Q (.tuple #[]) w) : f42 (.slice none 0 0) cf w Q := by
  unfold f42 f53
  try simp only [↓reduceIte, ↓LL, LM, Value.cells, Nat.reduceAdd, Option.some.injEq, exists_eq_left', decide_true, decide_false, if_true, if_false, reduceCtorEq, cond_true, cond_false]
  refine ⟨1, ?_⟩
  show f53_b2 f53_j1 _ _ _ _ _ _ _ w _
  unfold f53_b2
  have c1 : ¬ ((20 : Int) ≤ ((0 : Nat) : Int)) := by decide
  try simp only [↓reduceIte, ↓LL, LM, Value.cells, Nat.reduceAdd, Option.some.injEq, exists_eq_left', decide_true, decide_false, if_true, if_false, reduceCtorEq, cond_true, cond_false, c1]
  unfold f53_j1 f60
  have e1 : IntKind.i64.wrap ((0 : Int) + 1) = 1 := rfl
  try simp only [↓reduceIte, ↓LL, LM, Value.cells, Nat.reduceAdd, Option.some.injEq, exists_eq_left', decide_true, decide_false, if_true, if_false, reduceCtorEq, cond_true, cond_false, e1]
  refine ⟨1, ?_⟩
  show f60_b1 _ _ _ _ _ _ w _
  unfold f60_b1
  have c2 : ¬ ((1 : Int) < ((0 : Nat) : Int)) := by decide
  try simp only [↓reduceIte, ↓LL, LM, Value.cells, Nat.reduceAdd, Option.some.injEq, exists_eq_left', decide_true, decide_false, if_true, if_false, reduceCtorEq, cond_true, cond_false, c2]
  refine ⟨1, ?_⟩
  show f53_b3 _ _ _ _ _ w _
  unfold f53_b3
  have c3 : ¬ ((20 : Int) < ((0 : Nat) : Int)) := by decide
  try simp only [↓reduceIte, ↓LL, LM, Value.cells, Nat.reduceAdd, Option.some.injEq, exists_eq_left', decide_true, decide_false, if_true, if_false, reduceCtorEq, cond_true, cond_false, c3]
  exact kk
end
end Go.Proofs.Ytiajdaagamhbnaa

namespace Go.Proofs.Ytiajdaagamhbnaa
open Sh RowKit Go.MapKept Srt
/-! a row of the call's own sorted, ties staying (function SRT); one put in from behind -/
section
variable {β : Type} {le : β → β → Bool} {enc : β → List Value} {w : World} {Q : Value → World → Prop} {v cf : Value} {l : List β} {B : Nat}
theorem f35_own (hn14 : ∀ x, (enc x).length = 14) (h1c : ∀ x, ∀ v ∈ enc x, v.oneCell' = true) (O : Ord le) (ho : ownE B 55 14 enc w v l) (hcmp : ∀ g, v.ownBlock = some g → CmpOf Try.prog w g cf (fun x => .agg (enc x).toArray) le (fun _ => True)) (hbd : l.length ≤ 281474976710656)
    (kk : ∀ w', ownE B 55 14 enc w' v (srt le l) → ChgS (fun k => v.ownBlock = some k) w w' → Q (.tuple #[]) w') : f35 v cf w Q := by
  have hfl : ∀ L : List (β × Nat), (L.flatMap fun x => enc x.1) = (L.map (·.1)).flatMap enc := fun L => by rw [List.flatMap_map]
  obtain ⟨h1, h2⟩ := ho
  rcases h2 with ⟨rfl, h0⟩ | ⟨g, cap, cur, rfl, hg, hb, hn, hm, hs, ht⟩
  · have hl0 : l = [] := List.length_eq_zero_iff.1 h0
    subst hl0
    exact f35_nil (kk w ownE_nil (ChgS.refl _ _))
  · have hB : BkAt 55 enc (fun _ => True) (cur.toList.drop (l.length * 14)) g w (num 0 l) := by
      refine ⟨?_, fun _ _ => trivial⟩
      rw [hb, hfl, num_fst, ← ht, List.take_append_drop]
    refine f35_s hn14 h1c O (hcmp g rfl) hbd rfl hB (Chg.refl g w) fun w' b' c' => ?_
    refine kk w' ?_ (ChgS.of_chg c' rfl)
    have hb' := b'.blk
    rw [hfl] at hb'
    have hsl : ((isort le (num 0 l)).map (·.1)) = srt le l := rfl
    rw [hsl] at hb'
    have hl2 : (srt le l).length = l.length := srt_len l
    have hf2 : ((srt le l).flatMap enc).length = l.length * 14 := by rw [flat_len hn14, hl2]
    have hcap : l.length * 14 ≤ cap * 14 := Nat.mul_le_mul_right _ hn
    refine ⟨by rw [hf2, hl2], .inr ⟨g, cap, _, by rw [hl2], hg, hb', by rw [hl2]; exact hn, hm, ?_, ?_⟩⟩
    · simp only [List.size_toArray, List.length_append, List.length_drop, hf2, Array.length_toList, hs]
      omega
    · rw [hl2]
      simp only []
      rw [List.take_left' hf2]
end
section
variable {β : Type} {le : β → β → Bool}
end
end Go.Proofs.Ytiajdaagamhbnaa

namespace Go.Proofs.Ytiajdaagamhbnaa
open Sh RowKit Go.MapKept Srt

theorem en36 : canEnter Try.prog 36 = true := by kernel_rfl
def leF (x y : Fl) : Bool := decide (y.steps < x.steps) || (decide (y.steps = x.steps) && decide (x.id ≤ y.id))
theorem leF_t {x y : Fl} : leF x y = true ↔ y.steps < x.steps ∨ (y.steps = x.steps ∧ x.id ≤ y.id) := by simp [leF]
theorem leF_f {x y : Fl} : leF x y = false ↔ ¬ (y.steps < x.steps ∨ (y.steps = x.steps ∧ x.id ≤ y.id)) := by rw [← leF_t]; simp
theorem ordF : Ord leF := by
  constructor
  · intro a b
    rw [leF_t, leF_t]; omega
  · intro a b c h1 h2
    rw [leF_t] at *; omega
section
variable {w V W : World} {Q : Value → World → Prop} {v : Value} {l : List Fl}
theorem f51_s (a : Int) (h : Q (.bool false) w) : f51 (.int .i64 a) w Q := by
  unfold f51
  simp only [↓reduceIte, ↓LL, LM, Value.cells, Nat.reduceAdd, Option.some.injEq, exists_eq_left', decide_true, decide_false, if_true, if_false, reduceCtorEq, cond_true, cond_false, ne_eq, not_true_eq_false]
  exact h
theorem f38_s (a b : Int) (h : Q (.int .i64 (cmpI a b)) w) : f38 (.int .i64 a) (.int .i64 b) w Q := by
  unfold f38
  simp only [↓cl_e]
  refine f51_s _ ?_
  refine f51_s _ ?_
  unfold cmpI at h
  by_cases c : a < b
  · simp only [↓reduceIte, ↓LL, LM, Value.cells, Nat.reduceAdd, Option.some.injEq, exists_eq_left', decide_true, decide_false, if_true, if_false, reduceCtorEq, cond_true, cond_false, c] at h ⊢; exact h
  · by_cases c2 : b < a
    · simp only [↓reduceIte, ↓LL, LM, Value.cells, Nat.reduceAdd, Option.some.injEq, exists_eq_left', decide_true, decide_false, if_true, if_false, reduceCtorEq, cond_true, cond_false, c, c2] at h ⊢; exact h
    · simp only [↓reduceIte, ↓LL, LM, Value.cells, Nat.reduceAdd, Option.some.injEq, exists_eq_left', decide_true, decide_false, if_true, if_false, reduceCtorEq, cond_true, cond_false, c, c2] at h ⊢; exact h
theorem bsl2 {a b : Int} {K : Value → M} (k : ∀ w', w'.heap[w.heap.size]? = some (.cells #[.int .i64 a, .int .i64 b] 3 (0, 0)) → Below w.heap.size w w' → K (.slice (some ⟨w.heap.size, 0, none⟩) 2 2) w' Q) :
    sm Try.prog (Instr.buildSlice 34 2 #[(0, .int .i64 a), (1, .int .i64 b)]) K w Q := by
  obtain ⟨i, h1, h2, h3, h4, h5⟩ := slT_info slt34
  refine ⟨_, psh w (.cells #[.int .i64 a, .int .i64 b] 3), ?_, k _ blk_psh_new (b_psh _ _)⟩
  have hr : Array.range 2 = #[0, 1] := rfl
  simp [Instr.buildSlice, underlying, h1, sizeOf, typeInfo, h2, h4, zeroValue, h3, Instr.fill, newRow, psh, hr, Value.cells]
theorem f37_s (a b : Int) (g : Nat) (hg : w.heap[g]? = some (.cells #[.int .i64 a, .int .i64 b] 3 (0, 0))) (h : Q (.int .i64 (if a = 0 then b else a)) w) :
    f37 (.slice (some ⟨g, 0, none⟩) 2 2) w Q := by
  unfold f37
  have c0 := cell_of_blk (n := 0) hg
  have c1 := cell_of_blk (n := 1) hg
  simp only [↓reduceIte, ↓LL, LM, Value.cells, Nat.reduceAdd, Option.some.injEq, exists_eq_left', decide_true, decide_false, if_true, if_false, reduceCtorEq, cond_true, cond_false]
  refine ⟨3, ?_⟩
  have i0 : ∀ {K : Value → M} {w Q}, ia 1 (.slice (some ⟨g, 0, none⟩) 2 2) (.int .i64 0) K w Q = K (.pointer (some ⟨g, 0, none⟩)) w Q := fun {K w Q} => ia_at (i := 0) (by decide)
  have i1 : ∀ {K : Value → M} {w Q}, ia 1 (.slice (some ⟨g, 0, none⟩) 2 2) (.int .i64 1) K w Q = K (.pointer (some ⟨g, 1, none⟩)) w Q := fun {K w Q} => ia_at (i := 1) (by decide)
  have e1 : IntKind.i64.wrap (0 + 1) = 1 := rfl
  have e2 : IntKind.i64.wrap (1 + 1) = 2 := rfl
  show f37_b2 _ _ _ _ _ _ w Q
  unfold f37_b2
  by_cases ha : a = 0
  · subst ha
    simp only [↓reduceIte, ↓LL, LM, Value.cells, Nat.reduceAdd, Option.some.injEq, exists_eq_left', decide_true, decide_false, if_true, if_false, reduceCtorEq, cond_true, cond_false, show ((0 : Int) < ((2 : Nat) : Int)) from by decide, i0, c0, ne_eq, not_true_eq_false, e1]
    show f37_b2 _ _ _ _ _ _ w Q
    unfold f37_b2
    by_cases hb : b = 0
    · subst hb
      simp only [↓reduceIte, ↓LL, LM, Value.cells, Nat.reduceAdd, Option.some.injEq, exists_eq_left', decide_true, decide_false, if_true, if_false, reduceCtorEq, cond_true, cond_false, show ((1 : Int) < ((2 : Nat) : Int)) from by decide, i1, c1, ne_eq, not_true_eq_false, e2]
      show f37_b2 _ _ _ _ _ _ w Q
      unfold f37_b2 f37_j1
      simp only [↓reduceIte, ↓LL, LM, Value.cells, Nat.reduceAdd, Option.some.injEq, exists_eq_left', decide_true, decide_false, if_true, if_false, reduceCtorEq, cond_true, cond_false, show ¬ ((2 : Int) < ((2 : Nat) : Int)) from by decide]
      simpa using h
    · simp only [↓reduceIte, ↓LL, LM, Value.cells, Nat.reduceAdd, Option.some.injEq, exists_eq_left', decide_true, decide_false, if_true, if_false, reduceCtorEq, cond_true, cond_false, show ((1 : Int) < ((2 : Nat) : Int)) from by decide, i1, c1, ne_eq, hb, not_false_eq_true]
      simpa using h
  · simp only [↓reduceIte, ↓LL, LM, Value.cells, Nat.reduceAdd, Option.some.injEq, exists_eq_left', decide_true, decide_false, if_true, if_false, reduceCtorEq, cond_true, cond_false, show ((0 : Int) < ((2 : Nat) : Int)) from by decide, i0, c0, ne_eq, ha, not_false_eq_true]
    simpa [ha] using h
theorem cmp_leF (x y : Fl) : ((if cmpI y.steps x.steps = 0 then cmpI x.id y.id else cmpI y.steps x.steps) < 0) ↔ leF y x = false := by
  rw [leF_f]
  unfold cmpI
  repeat' split
  all_goals omega
theorem cmp36 {g : Nat} : CmpOf Try.prog V g (.func (.func 36) #[] #[]) (fun x => .agg (encF x).toArray) leF (fun _ => True) := by
  intro x y w K Q hc _ _ kk
  refine cf_p (fun _ _ => run_callFunc en36) ?_
  refine s36 (.agg (cF x)) (.agg (cF y)) w _ ?_
  unfold f36
  rw [bx_e, bx_e]
  rw [show (Value.agg (cF x)).cells = cF x from rfl, show (Value.agg (cF y)).cells = cF y from rfl]
  have h1 := blk_psh_new (w := w) (o := .cells (cF x) 55)
  have b1 := b_psh w (.cells (cF x) 55)
  generalize psh w (.cells (cF x) 55) = w1 at *
  have h2 := blk_psh_new (w := w1) (o := .cells (cF y) 55)
  have b2 := b_psh w1 (.cells (cF y) 55)
  have h1 := stay b2 h1
  have bb : Below w.heap.size w (drw (psh w1 (.cells (cF y) 55))) := Below_drw (bt b1 b2)
  have h1 : (drw (psh w1 (.cells (cF y) 55))).heap[w.heap.size]? = _ := h1
  have h2 : (drw (psh w1 (.cells (cF y) 55))).heap[w1.heap.size]? = _ := h2
  simp only [dr_q]
  generalize drw (psh w1 (.cells (cF y) 55)) = w2 at *
  have x6 : w2.cell? ⟨w.heap.size, 6, none⟩ = some (.int .i64 x.steps) := by rw [cell_of_blk (n := 6) h1]; rfl
  have x0 : w2.cell? ⟨w.heap.size, 0, none⟩ = some (.int .i64 x.id) := by rw [cell_of_blk (n := 0) h1]; rfl
  have y6 : w2.cell? ⟨w1.heap.size, 6, none⟩ = some (.int .i64 y.steps) := by rw [cell_of_blk (n := 6) h2]; rfl
  have y0 : w2.cell? ⟨w1.heap.size, 0, none⟩ = some (.int .i64 y.id) := by rw [cell_of_blk (n := 0) h2]; rfl
  simp only [↓reduceIte, ↓LL, LM, Value.cells, Nat.reduceAdd, Option.some.injEq, exists_eq_left', decide_true, decide_false, if_true, if_false, reduceCtorEq, cond_true, cond_false, x6, x0, y6, y0]
  refine f38_s _ _ ?_
  simp only [↓reduceIte, ↓LL, LM, Value.cells, Nat.reduceAdd, Option.some.injEq, exists_eq_left', decide_true, decide_false, if_true, if_false, reduceCtorEq, cond_true, cond_false, Kld_e, x0, y0, true_and]
  refine f38_s _ _ ?_
  try simp only [↓reduceIte, ↓LL, LM, Value.cells, Nat.reduceAdd, Option.some.injEq, exists_eq_left', decide_true, decide_false, if_true, if_false, reduceCtorEq, cond_true, cond_false]
  refine bsl2 fun w3 h3 b3 => ?_
  try simp only [↓reduceIte, ↓LL, LM, Value.cells, Nat.reduceAdd, Option.some.injEq, exists_eq_left', decide_true, decide_false, if_true, if_false, reduceCtorEq, cond_true, cond_false]
  refine f37_s _ _ _ h3 ?_
  try simp only [↓reduceIte, ↓LL, LM, Value.cells, Nat.reduceAdd, Option.some.injEq, exists_eq_left', decide_true, decide_false, if_true, if_false, reduceCtorEq, cond_true, cond_false]
  exact kk w3 _ (bt bb b3) (cmp_leF x y)
/-- how many may be -/
def limL (n : Int) (k : Nat) : Nat := (min (max n 0) (k : Int)).toNat
theorem limL_le (n : Int) (k : Nat) : limL n k ≤ k := by unfold limL; omega
theorem limL_if (n : Int) (k : Nat) : (if (k : Int) < (if n < 0 then 0 else n) then (k : Int) else (if n < 0 then 0 else n)) = ((limL n k : Nat) : Int) := by
  unfold limL
  split <;> split at * <;> omega
/-- the longest -/
theorem f19_s {n : Int} (hr : rdS 14 (eR encF) W v l) (hl : l.length ≤ 1000000) (kk : ∀ w' v', Below W.heap.size W w' → rdS 14 (eR encF) w' v' ((srt leF l).take (limL n l.length)) → Q v' w') : f19 v (.int .i64 n) W Q := by
  unfold f19
  rw [cl_e]
  refine f29_s hr (by omega) fun w1 u o1 b1 => ?_
  try rw [cl_e]
  refine f35_own encF_len encF_one ordF o1 (fun g _ => cmp36) (by omega) fun w2 o2 c2 => ?_
  have b2 : Below W.heap.size W w2 := b1.trans (c2.below (fun k hk => (ownE_blk o1 k hk).1) b1.size)
  have r2 := ownE_rd encF_len (by decide) o2
  have hsl := srt_len (le := leF) l
  simp only [↓reduceIte, ↓LL, LM, Value.cells, Nat.reduceAdd, Option.some.injEq, exists_eq_left', decide_true, decide_false, if_true, if_false, reduceCtorEq, cond_true, cond_false]
  refine lnl_S r2 ?_
  rw [hsl]
  simp only [↓reduceIte, ↓LL, LM, Value.cells, Nat.reduceAdd, Option.some.injEq, exists_eq_left', decide_true, decide_false, if_true, if_false, reduceCtorEq, cond_true, cond_false, limL_if]
  refine sll_S r2 (by rw [hsl]; exact limL_le _ _) fun v' r' => ?_
  rw [rt_e]
  exact kk w2 v' b2 r'
end
end Go.Proofs.Ytiajdaagamhbnaa

namespace Go.Proofs.Ytiajdaagamhbnaa
open Sh RowKit Go.MapKept Srt

section
variable {w V W : World} {Q : Value → World → Prop} {v : Value} {l : List Fl} {n : Int}
end
/-! values and workflows compared -/
section
variable {w V W : World} {Q : Value → World → Prop} {v u : Value}
end
end Go.Proofs.Ytiajdaagamhbnaa

namespace Go.Proofs.Ytiajdaagamhbnaa
open Sh RowKit Go.MapKept Srt

section
variable {w V W : World} {Q : Value → World → Prop} {v u : Value} {l : List Fl}
/-- its registers can be read -/
def okG (w : World) (f : Fl) : Prop := ∃ rl, rl.length ≤ 281474976710656 ∧ rdS 3 (eR encV) w f.regs rl
theorem okG.below {f : Fl} {w' : World} (h : okG w f) (hb : Below w.heap.size w w') : okG w' f := by
  obtain ⟨rl, h1, h2⟩ := h
  exact ⟨rl, h1, rdS_below eR_st hb h2⟩
end
end Go.Proofs.Ytiajdaagamhbnaa

namespace Go.Proofs.Ytiajdaagamhbnaa
open Sh RowKit Go.MapKept Srt

structure Mg where
  seq : Int
  flow : Int
  step : Int
  v : Vl
def encM (m : Mg) : List Value := [.int .i64 m.seq, .int .i64 m.flow, .int .i64 m.step, .int .i64 m.v.k, .int .i64 m.v.n, .string m.v.s]
theorem encM_len : ∀ m, (encM m).length = 6 := fun _ => rfl
theorem encM_one : ∀ m, ∀ c ∈ encM m, c.oneCell' = true := by
  intro m c hc
  simp only [encM, List.mem_cons, List.not_mem_nil, or_false] at hc
  rcases hc with rfl | rfl | rfl | rfl | rfl | rfl
  all_goals rfl
section
variable {w V W : World} {Q : Value → World → Prop} {v cf : Value} {l : List Mg} {g : Nat} {pr : Mg → Bool}
theorem f40_s (h : rdS 6 (eR encM) w v l) (hsz : l.length * 56 ≤ 140737488355328) (kk : ∀ w' u, ownE w.heap.size 57 6 encM w' u l → Below w.heap.size w w' → Q u w') : f40 v w Q := by
  unfold f40
  obtain ⟨p, c, hv⟩ := rdS_len h
  refine Eq.mpr (smr_run (by rw [hv]; exact sn_eq Try.underlying44)) ?_
  cases p with
  | none =>
    have hr0 : l = [] := by
      rcases h with ⟨_, h⟩ | ⟨a, c', e, _⟩
      · exact h
      · rw [hv] at e; cases e
    subst hr0
    simp only [↓reduceIte, ↓LL, LM, Value.cells, Nat.reduceAdd, Option.some.injEq, exists_eq_left', decide_true, decide_false, if_true, if_false, reduceCtorEq, cond_true, cond_false, Option.isNone]
    exact kk w _ ownE_nil (Below.refl _ w)
  | some a =>
    simp only [↓reduceIte, ↓LL, LM, Value.cells, Nat.reduceAdd, Option.some.injEq, exists_eq_left', decide_true, decide_false, if_true, if_false, reduceCtorEq, cond_true, cond_false, Option.isNone]
    refine ⟨_, _, bs0 slt44, ?_⟩
    have b1 := b_psh w (.cells #[] 57)
    have o1 : ownE w.heap.size 57 6 encM (psh w (.cells #[] 57)) (.slice (some ⟨w.heap.size, 0, none⟩) 0 0) ([] : List Mg) := ⟨by simp, .inr ⟨w.heap.size, 0, #[], rfl, Nat.le_refl _, blk_psh_new, Nat.le_refl _, by unfold maxLen; omega, by simp, by simp⟩⟩
    refine ap_E (m := l) slt44 rfl (by decide) encM_len encM_one o1 (rdS_below eR_st b1 h) (by unfold maxLen; simp; omega) (by simpa using hsz) b1.size fun v2 w2 o2 g2 _ => ?_
    simp only [↓reduceIte, ↓LL, LM, Value.cells, Nat.reduceAdd, Option.some.injEq, exists_eq_left', decide_true, decide_false, if_true, if_false, reduceCtorEq, cond_true, cond_false]
    rw [List.nil_append] at o2
    exact kk w2 v2 o2 (b1.grown g2 b1.size (fun k hk => (ownE_blk o1 k hk).1))
theorem f52_loop {j1 : M} (hr : rdS 6 (eR encM) V v l) (hl : l.length ≤ 281474976710656) (hp : PredOf Try.prog V g cf (fun x => .agg (encM x).toArray) pr) : ∀ (m i : Nat) (w : World), i + m = l.length → Below V.heap.size V w → (∀ x ∈ l.take i, pr x = false) →
    (∀ w' k (hk : k < l.length), Below V.heap.size V w' → pr l[k] = true → (∀ x ∈ l.take k, pr x = false) → Q (.int .i64 (k : Int)) w') → (∀ w', Below V.heap.size V w' → (∀ x ∈ l, pr x = false) → j1 w' Q) →
    itr (fun _ _ _ _ => bot) (f52_b2 j1) (m + 1) v cf (.int .i64 (l.length : Int)) (.int .i64 (i : Int)) w Q := by
  intro m
  induction m with
  | zero =>
    intro i w hi hb hf k1 k0
    show f52_b2 _ _ _ _ _ _ w Q
    unfold f52_b2
    have c1 : ¬ (i : Int) < (l.length : Int) := by omega
    simp only [↓reduceIte, ↓LL, LM, Value.cells, Nat.reduceAdd, Option.some.injEq, exists_eq_left', decide_true, decide_false, if_true, if_false, reduceCtorEq, cond_true, cond_false, c1]
    rw [List.take_of_length_le (by omega)] at hf
    exact k0 w hb hf
  | succ m ih =>
    intro i w hi hb hf k1 k0
    show f52_b2 _ _ _ _ _ _ w Q
    unfold f52_b2
    have hil : i < l.length := by omega
    have c1 : (i : Int) < (l.length : Int) := by omega
    have e5 : IntKind.i64.wrap ((i : Int) + 1) = ((i + 1 : Nat) : Int) := by rw [w64 (by omega) (by omega)]; omega
    simp only [lt_e, cnd_e, c1, decide_true, cond_true]
    refine takeE encM_len hr hb hil ?_
    refine hp _ w _ _ (Chg.of_below hb) fun w1 b1 => ?_
    cases hpr : pr l[i] with
    | true =>
      simp only [↓reduceIte, ↓LL, LM, Value.cells, Nat.reduceAdd, Option.some.injEq, exists_eq_left', decide_true, decide_false, if_true, if_false, reduceCtorEq, cond_true, cond_false]
      exact k1 w1 i hil (bt hb b1) hpr hf
    | false =>
      simp only [↓reduceIte, ↓LL, LM, Value.cells, Nat.reduceAdd, Option.some.injEq, exists_eq_left', decide_true, decide_false, if_true, if_false, reduceCtorEq, cond_true, cond_false, e5]
      refine ih (i + 1) w1 (by omega) (bt hb b1) (fun x hx => ?_) k1 k0
      rw [List.take_succ_eq_append_getElem hil] at hx
      rcases List.mem_append.1 hx with hx | hx
      · exact hf x hx
      · rw [List.mem_singleton.1 hx]; exact hpr
theorem f39_loop {cap : Nat} {B : Nat} {j1 : Value → Value → M} (hl : l.length ≤ 281474976710656) (hBV : B ≤ V.heap.size) (hgV : g < V.heap.size) (hp : PredOf Try.prog V g cf (fun x => .agg (encM x).toArray) pr) : ∀ (m i k : Nat) (Y : List Mg) (w : World), i + m = l.length → k < i → Y.length = l.length → Chg g V w →
    ownE B 57 6 encM w (.slice (some ⟨g, 0, none⟩) l.length cap) Y → Y.take k = (l.take i).filter (fun x => !pr x) → Y.drop i = l.drop i →
    (∀ w' k Y, k < l.length → Y.length = l.length → Chg g V w' → ownE B 57 6 encM w' (.slice (some ⟨g, 0, none⟩) l.length cap) Y → Y.take k = l.filter (fun x => !pr x) → j1 (.slice (some ⟨g, 0, none⟩) l.length cap) (.int .i64 (k : Int)) w' Q) →
    itr (fun _ _ _ _ => bot) (f39_b2 j1) (m + 1) (.slice (some ⟨g, 0, none⟩) l.length cap) cf (.int .i64 (k : Int)) (.int .i64 (i : Int)) w Q := by
  intro m
  induction m with
  | zero =>
    intro i k Y w hi hk hY hc ho ht hd kk
    show f39_b2 _ _ _ _ _ _ w Q
    unfold f39_b2
    have c1 : ¬ (i : Int) < (l.length : Int) := by omega
    simp only [↓reduceIte, ↓LL, LM, Value.cells, Nat.reduceAdd, Option.some.injEq, exists_eq_left', decide_true, decide_false, if_true, if_false, reduceCtorEq, cond_true, cond_false, c1]
    rw [List.take_of_length_le (l := l) (by omega)] at ht
    exact kk w k Y (by omega) hY hc ho ht
  | succ m ih =>
    intro i k Y w hi hk hY hc ho ht hd kk
    show f39_b2 _ _ _ _ _ _ w Q
    unfold f39_b2
    have hil : i < l.length := by omega
    have c1 : (i : Int) < (l.length : Int) := by omega
    have e5 : IntKind.i64.wrap ((i : Int) + 1) = ((i + 1 : Nat) : Int) := by rw [w64 (by omega) (by omega)]; omega
    have e6 : IntKind.i64.wrap ((k : Int) + 1) = ((k + 1 : Nat) : Int) := by rw [w64 (by omega) (by omega)]; omega
    have hYi : Y[i]'(by omega) = l[i] := by
      have h0 := congrArg (fun z : List Mg => z[0]?) hd
      simpa [hY, hil] using h0
    have hdd : Y.drop (i + 1) = l.drop (i + 1) := by
      have := congrArg (List.drop 1) hd
      simpa [List.drop_drop, Nat.add_comm] using this
    simp only [lnl_e, lt_e, cnd_e, c1, decide_true, cond_true]
    refine takeE encM_len (ownE_rd encM_len (by decide) ho) (Below.refl _ w) (by omega) ?_
    rw [hYi]
    refine boxE encM_len encM_one rfl fun w1 h1 b1 => ?_
    have o1 := ownE_below ho b1
    have c01 := hc.trans (Chg.of_below b1)
    refine ldn_box h1 rfl ?_
    refine hp _ w1 _ _ c01 fun w2 b2 => ?_
    have o2 := ownE_below o1 b2
    have h2 := stay b2 h1
    have c02 := c01.trans (Chg.of_below b2)
    have hfl : (l.take (i + 1)).filter (fun x => !pr x) = (l.take i).filter (fun x => !pr x) ++ (if pr l[i] = true then [] else [l[i]]) := by
      rw [List.take_succ_eq_append_getElem hil, List.filter_append, List.filter_cons]
      cases pr l[i] <;> simp
    cases hpr : pr l[i] with
    | true =>
      rw [hpr] at hfl
      simp only [↓reduceIte, ↓LL, LM, Value.cells, Nat.reduceAdd, Option.some.injEq, exists_eq_left', decide_true, decide_false, if_true, if_false, reduceCtorEq, cond_true, cond_false]
      unfold f39_j3
      simp only [↓reduceIte, ↓LL, LM, Value.cells, Nat.reduceAdd, Option.some.injEq, exists_eq_left', decide_true, decide_false, if_true, if_false, reduceCtorEq, cond_true, cond_false, e5]
      refine ih (i + 1) k Y w2 (by omega) (by omega) hY c02 o2 ?_ hdd kk
      rw [ht, hfl]; simp
    | false =>
      rw [hpr] at hfl
      simp only [nt_e, Bool.not_false, jn_e, cnd_e, cond_true, if_true, ↓reduceIte]
      refine ldn_box h2 rfl ?_
      rw [show Value.agg (encM l[i]).toArray = .agg (encM l[i]).toArray from rfl]
      refine ia_stnE (y := l[i]) encM_len encM_one o2 (by omega) fun w3 g' hg' o3 u3 => ?_
      cases hg'
      unfold f39_j3
      simp only [↓reduceIte, ↓LL, LM, Value.cells, Nat.reduceAdd, Option.some.injEq, exists_eq_left', decide_true, decide_false, if_true, if_false, reduceCtorEq, cond_true, cond_false, e5, e6]
      refine ih (i + 1) (k + 1) (Y.set k l[i]) w3 (by omega) (by omega) (by rw [List.length_set]; exact hY) (c02.trans u3.chg) o3 ?_ ?_ kk
      · rw [List.take_succ_eq_append_getElem (by rw [List.length_set]; omega), List.getElem_set_self, List.take_set_of_le (Nat.le_refl _), ht, hfl]
        simp
      · rw [List.drop_set_of_lt (by omega)]; exact hdd
/-- some left out -/
theorem f39_s {B : Nat} (ho : ownE B 57 6 encM V v l) (hBV : B ≤ V.heap.size) (hl : l.length ≤ 281474976710656) (hp : ∀ g, v.ownBlock = some g → PredOf Try.prog V g cf (fun x => .agg (encM x).toArray) pr)
    (kk : ∀ w' v', ownE B 57 6 encM w' v' (l.filter fun x => !pr x) → ChgS (fun k => v.ownBlock = some k) V w' → v'.ownBlock = v.ownBlock → Q v' w') : f39 v cf V Q := by
  unfold f39
  have hr := ownE_rd encM_len (by decide) ho
  rw [cl_e]
  unfold f52
  refine lnl_S hr ?_
  have kno : ∀ w', Below V.heap.size V w' → (∀ x ∈ l, pr x = false) → f52_j1 w' (fun t10 w => (eqi .i64 t10 (.int .i64 (-1)) fun t12 => cnd t12 (rt v) (ad .i64 t10 (.int .i64 1) fun t15 => jn (fun j1 => lo (fun _ _ _ _ => bot) (f39_b2 j1) (fun l => l v cf t10 t15)) f39_j1)) w Q) := by
    intro w' b' hall
    unfold f52_j1
    simp only [↓reduceIte, ↓LL, LM, Value.cells, Nat.reduceAdd, Option.some.injEq, exists_eq_left', decide_true, decide_false, if_true, if_false, reduceCtorEq, cond_true, cond_false]
    refine kk w' v ?_ (ChgS.of_below b') rfl
    have : l.filter (fun x => !pr x) = l := List.filter_eq_self.2 (fun x hx => by simp [hall x hx])
    rw [this]; exact ownE_below ho b'
  rcases Nat.eq_zero_or_pos l.length with h0 | h0
  · have hl0 : l = [] := List.length_eq_zero_iff.1 h0
    subst hl0
    rw [jn_e]
    refine ⟨1, ?_⟩
    show f52_b2 _ _ _ _ _ _ V _
    unfold f52_b2
    have c1 : ¬ (0 : Int) < ((([] : List Mg).length : Nat) : Int) := by simp
    simp only [lt_e, cnd_e, c1, decide_false, cond_false, if_false, ↓reduceIte, Bool.false_eq_true]
    exact kno V (Below.refl _ _) (fun x hx => by cases hx)
  · obtain ⟨g, cap, cur, rfl, hob, hgB, hg, hcl, hcm, hcs, hct⟩ := ownE_open ho h0
    have hpp := hp g rfl
    rw [jn_e]
    refine ⟨_, f52_loop hr hl hpp l.length 0 V (by omega) (Below.refl _ _) (fun x hx => by cases hx) ?_ kno⟩
    intro w1 k hk b1 hpr hpre
    have e5 : IntKind.i64.wrap ((k : Int) + 1) = ((k + 1 : Nat) : Int) := by rw [w64 (by omega) (by omega)]; omega
    have c1 : ¬ (k : Int) = -1 := by omega
    simp only [↓reduceIte, ↓LL, LM, Value.cells, Nat.reduceAdd, Option.some.injEq, exists_eq_left', decide_true, decide_false, if_true, if_false, reduceCtorEq, cond_true, cond_false, c1, e5]
    refine ⟨_, f39_loop (V := V) (g := g) (cap := cap) (B := B) (l := l) (pr := pr) hl hBV (blk_lt hg) hpp (l.length - (k + 1)) (k + 1) k l w1 (by omega) (by omega) rfl (Chg.of_below b1) (ownE_below ho b1) ?_ rfl ?_⟩
    · rw [List.take_succ_eq_append_getElem hk, List.filter_append, List.filter_cons, hpr, List.filter_eq_self.2 (fun x hx => by simp [hpre x hx])]
      simp
    · intro w2 k2 Y hk2 hY c2 o2 ht
      unfold f39_j1
      rw [← hY] at o2 hk2
      have hlY : (Value.slice (some ⟨g, 0, none⟩) l.length cap) = .slice (some ⟨g, 0, none⟩) Y.length cap := by rw [hY]
      rw [hlY]
      refine del_tail slt44 rfl (by decide) encM_len (by decide) Try.underlying44 o2 hk2 fun w3 o3 u3 => ?_
      rw [rt_e]
      rw [ht] at o3
      exact kk w3 _ o3 (ChgS.of_chg (c2.trans u3.chg) rfl) rfl
end
/-! a row of the call's own sorted, ties staying (function SRT); one put in from behind -/
section
variable {β : Type} {le : β → β → Bool} {enc : β → List Value} {w : World} {Q : Value → World → Prop} {v cf : Value} {l : List β} {B : Nat}
theorem f42_own (hn14 : ∀ x, (enc x).length = 6) (h1c : ∀ x, ∀ v ∈ enc x, v.oneCell' = true) (O : Ord le) (ho : ownE B 57 6 enc w v l) (hcmp : ∀ g, v.ownBlock = some g → CmpOf Try.prog w g cf (fun x => .agg (enc x).toArray) le (fun _ => True)) (hbd : l.length ≤ 281474976710656)
    (kk : ∀ w', ownE B 57 6 enc w' v (srt le l) → ChgS (fun k => v.ownBlock = some k) w w' → Q (.tuple #[]) w') : f42 v cf w Q := by
  have hfl : ∀ L : List (β × Nat), (L.flatMap fun x => enc x.1) = (L.map (·.1)).flatMap enc := fun L => by rw [List.flatMap_map]
  obtain ⟨h1, h2⟩ := ho
  rcases h2 with ⟨rfl, h0⟩ | ⟨g, cap, cur, rfl, hg, hb, hn, hm, hs, ht⟩
  · have hl0 : l = [] := List.length_eq_zero_iff.1 h0
    subst hl0
    exact f42_nil (kk w ownE_nil (ChgS.refl _ _))
  · have hB : BkAt 57 enc (fun _ => True) (cur.toList.drop (l.length * 6)) g w (num 0 l) := by
      refine ⟨?_, fun _ _ => trivial⟩
      rw [hb, hfl, num_fst, ← ht, List.take_append_drop]
    refine f42_s hn14 h1c O (hcmp g rfl) hbd rfl hB (Chg.refl g w) fun w' b' c' => ?_
    refine kk w' ?_ (ChgS.of_chg c' rfl)
    have hb' := b'.blk
    rw [hfl] at hb'
    have hsl : ((isort le (num 0 l)).map (·.1)) = srt le l := rfl
    rw [hsl] at hb'
    have hl2 : (srt le l).length = l.length := srt_len l
    have hf2 : ((srt le l).flatMap enc).length = l.length * 6 := by rw [flat_len hn14, hl2]
    have hcap : l.length * 6 ≤ cap * 6 := Nat.mul_le_mul_right _ hn
    refine ⟨by rw [hf2, hl2], .inr ⟨g, cap, _, by rw [hl2], hg, hb', by rw [hl2]; exact hn, hm, ?_, ?_⟩⟩
    · simp only [List.size_toArray, List.length_append, List.length_drop, hf2, Array.length_toList, hs]
      omega
    · rw [hl2]
      simp only []
      rw [List.take_left' hf2]
end
theorem en41 : canEnter Try.prog 41 = true := by kernel_rfl
theorem en43 : canEnter Try.prog 43 = true := by kernel_rfl
def leM (x y : Mg) : Bool := decide (x.seq ≤ y.seq)
theorem leM_t {x y : Mg} : leM x y = true ↔ x.seq ≤ y.seq := by simp [leM]
theorem leM_f {x y : Mg} : leM x y = false ↔ ¬ x.seq ≤ y.seq := by rw [← leM_t]; simp
theorem ordM : Ord leM := by
  constructor
  · intro a b
    rw [leM_t, leM_t]; omega
  · intro a b c h1 h2
    rw [leM_t] at *; omega
def ofF (fl : Int) (l : List Mg) : List Mg := l.filter fun m => decide (m.flow = fl)
theorem ofF_eq (fl : Int) (l : List Mg) : (l.filter fun x => !(!decide (x.flow = fl))) = ofF fl l := by
  unfold ofF
  congr 1
  funext x
  simp
section
variable {w V W : World} {Q : Value → World → Prop} {v u : Value} {l : List Mg} {fl : Int} {b : Nat}
theorem f41_p {g : Nat} (hb : V.heap[b]? = some (.cells #[.int .i64 fl] 3 (0, 0))) (hne : b ≠ g) : PredOf Try.prog V g (.func (.func 41) #[] #[.pointer (some ⟨b, 0, none⟩)]) (fun x => .agg (encM x).toArray) (fun m => !decide (m.flow = fl)) := by
  intro x w K Q hc kk
  have hbw := hc.keep hb hne
  refine cf_p (fun _ _ => run_callFunc en41) ?_
  refine s41 (.agg (encM x).toArray) (.pointer (some ⟨b, 0, none⟩)) w _ ?_
  unfold f41
  rw [bx_e]
  have h1 := blk_psh_new (w := w) (o := .cells (Value.agg (encM x).toArray).cells 57)
  have b1 := b_psh w (.cells (Value.agg (encM x).toArray).cells 57)
  have hb1 := stay b1 hbw
  have c1 := cell_of_blk (n := 1) h1
  have c1 : (psh w (.cells (Value.agg (encM x).toArray).cells 57)).cell? ⟨w.heap.size, 1, none⟩ = some (.int .i64 x.flow) := c1
  have c2 : (psh w (.cells (Value.agg (encM x).toArray).cells 57)).cell? ⟨b, 0, none⟩ = some (.int .i64 fl) := by rw [cell_of_blk (n := 0) hb1]; rfl
  generalize psh w (.cells (Value.agg (encM x).toArray).cells 57) = w1 at *
  simp only [↓reduceIte, ↓LL, LM, Value.cells, Nat.reduceAdd, Option.some.injEq, exists_eq_left', decide_true, decide_false, if_true, if_false, reduceCtorEq, cond_true, cond_false, c1, c2]
  exact kk w1 b1
theorem cmp43 {g : Nat} : CmpOf Try.prog V g (.func (.func 43) #[] #[]) (fun x => .agg (encM x).toArray) leM (fun _ => True) := by
  intro x y w K Q hc _ _ kk
  refine cf_p (fun _ _ => run_callFunc en43) ?_
  refine s43 (.agg (encM x).toArray) (.agg (encM y).toArray) w _ ?_
  unfold f43
  rw [bx_e, bx_e]
  rw [show (Value.agg (encM x).toArray).cells = (encM x).toArray from rfl, show (Value.agg (encM y).toArray).cells = (encM y).toArray from rfl]
  have h1 := blk_psh_new (w := w) (o := .cells (encM x).toArray 57)
  have b1 := b_psh w (.cells (encM x).toArray 57)
  generalize psh w (.cells (encM x).toArray 57) = w1 at *
  have h2 := blk_psh_new (w := w1) (o := .cells (encM y).toArray 57)
  have b2 := b_psh w1 (.cells (encM y).toArray 57)
  have h1 := stay b2 h1
  have bb := bt b1 b2
  generalize psh w1 (.cells (encM y).toArray 57) = w2 at *
  have x0 : w2.cell? ⟨w.heap.size, 0, none⟩ = some (.int .i64 x.seq) := by rw [cell_of_blk (n := 0) h1]; rfl
  have y0 : w2.cell? ⟨w1.heap.size, 0, none⟩ = some (.int .i64 y.seq) := by rw [cell_of_blk (n := 0) h2]; rfl
  simp only [↓reduceIte, ↓LL, LM, Value.cells, Nat.reduceAdd, Option.some.injEq, exists_eq_left', decide_true, decide_false, if_true, if_false, reduceCtorEq, cond_true, cond_false, x0, y0]
  refine f38_s _ _ ?_
  try simp only [↓reduceIte, ↓LL, LM, Value.cells, Nat.reduceAdd, Option.some.injEq, exists_eq_left', decide_true, decide_false, if_true, if_false, reduceCtorEq, cond_true, cond_false]
  refine kk w2 _ bb ?_
  rw [leM_f]
  unfold cmpI
  repeat' split
  all_goals omega
/-- one workflow's messages -/
theorem f22_s (hr : rdS 6 (eR encM) W v l) (hl : l.length * 56 ≤ 140737488355328) (kk : ∀ w' v', Below W.heap.size W w' → rdS 6 (eR encM) w' v' (srt leM (ofF fl l)) → Q v' w') : f22 v (.int .i64 fl) W Q := by
  unfold f22
  rw [bx_e]
  have h1 := blk_psh_new (w := W) (o := .cells #[.int .i64 fl] 3)
  have b1 := b_psh W (.cells #[.int .i64 fl] 3)
  show cl (f40 v) _ (psh W (.cells #[.int .i64 fl] 3)) Q
  generalize psh W (.cells #[.int .i64 fl] 3) = w1 at *
  rw [cl_e]
  refine f40_s (rdS_below eR_st b1 hr) hl fun w2 u o2 b2 => ?_
  have h2 := stay b2 h1
  have hlt : W.heap.size < w1.heap.size := blk_lt h1
  simp only [idv_e, cl_e]
  refine f39_s (pr := fun m => !decide (m.flow = fl)) o2 b2.size (by omega) (fun g hg => f41_p h2 (by have := (ownE_blk o2 g hg).1; omega)) fun w3 u3 o3 c3 hob => ?_
  rw [ofF_eq] at o3
  have hfl : (ofF fl l).length ≤ l.length := List.length_filter_le _ _
  have b13 : Below w1.heap.size w1 w3 := b2.trans (c3.below (fun k hk => (ownE_blk o2 k hk).1) b2.size)
  try rw [cl_e]
  refine f42_own encM_len encM_one ordM o3 (fun g _ => cmp43) (by omega) fun w4 o4 c4 => ?_
  have b14 : Below w1.heap.size w1 w4 := b13.trans (c4.below (fun k hk => (ownE_blk o3 k hk).1) b13.size)
  try simp only [↓reduceIte, ↓LL, LM, Value.cells, Nat.reduceAdd, Option.some.injEq, exists_eq_left', decide_true, decide_false, if_true, if_false, reduceCtorEq, cond_true, cond_false]
  exact kk w4 u3 (bt b1 b14) (ownE_rd encM_len (by decide) o4)
end
end Go.Proofs.Ytiajdaagamhbnaa

namespace Go.Proofs.Ytiajdaagamhbnaa
open Sh RowKit Go.MapKept Srt

section
variable {w V W : World} {Q : Value → World → Prop} {v u : Value} {l : List Mg} {fl : Int}
end
end Go.Proofs.Ytiajdaagamhbnaa

namespace Go.Proofs.Ytiajdaagamhbnaa
open Sh RowKit Go.MapKept Srt

/-- how many are longer -/
def lngr (s : Int) (l : List Fl) : Nat := (l.filter fun f => decide (s < f.steps)).length
theorem lngr_one (s : Int) (l : List Fl) (f : Fl) : lngr s (l ++ [f]) = lngr s l + (if s < f.steps then 1 else 0) := by
  unfold lngr
  rw [List.filter_append, List.length_append, List.filter_cons]
  by_cases c : s < f.steps <;> simp [c]
theorem lngr_le (s : Int) (l : List Fl) : lngr s l ≤ l.length := List.length_filter_le _ _
/-- in the order, those that are longer are ahead -/
theorem lngr_at (l : List Fl) (i : Nat) (hi : i < (srt leF l).length) : lngr (srt leF l)[i].steps l ≤ i := by
  have hp := (srt_perm (le := leF) l).filter (fun f => decide ((srt leF l)[i].steps < f.steps))
  have e1 : lngr (srt leF l)[i].steps l = ((srt leF l).filter fun f => decide ((srt leF l)[i].steps < f.steps)).length := hp.length_eq.symm
  rw [e1]
  have hs := srt_le ordF l
  generalize srt leF l = z at *
  have h2 : (z.drop i).filter (fun f => decide (z[i].steps < f.steps)) = [] := by
    rw [List.filter_eq_nil_iff]
    intro f hf
    obtain ⟨j, hj, rfl⟩ := List.mem_iff_getElem.1 hf
    rw [List.getElem_drop]
    rcases Nat.eq_zero_or_pos j with rfl | hj0
    · simp
    · have := List.pairwise_iff_getElem.1 hs i (i + j) hi (by rw [List.length_drop] at hj; omega) (by omega)
      rw [leF_t] at this
      simp; omega
  have h3 : z.filter (fun f => decide (z[i].steps < f.steps)) = (z.take i).filter (fun f => decide (z[i].steps < f.steps)) ++ (z.drop i).filter (fun f => decide (z[i].steps < f.steps)) := by rw [← List.filter_append, List.take_append_drop]
  rw [h3, h2, List.append_nil]
  exact Nat.le_trans (List.length_filter_le _ _) (by rw [List.length_take]; omega)
theorem srt_steps (l : List Fl) (i : Nat) (h0 : 0 < i) (hi : i < (srt leF l).length) : (srt leF l)[i].steps ≤ (srt leF l)[i - 1].steps := by
  have := List.pairwise_iff_getElem.1 (srt_le ordF l) (i - 1) i (by omega) hi (by omega)
  rw [leF_t] at this
  omega
/-- how many of a workflow -/
def nOf (fl : Int) (l : List Mg) : Nat := (ofF fl l).length
/-- met among the first i -/
def metB (l : List Mg) (i : Nat) (fl : Int) : Bool := (l.take i).any fun x => decide (x.flow = fl)
theorem metB_succ {l : List Mg} {i : Nat} (hi : i < l.length) (fl : Int) : metB l (i + 1) fl = (metB l i fl || decide (l[i].flow = fl)) := by
  unfold metB
  rw [List.take_succ_eq_append_getElem hi, List.any_append]
  simp
/-- the sum over first ones among the first i -/
def sumF (l : List Mg) : Nat → Nat
  | 0 => 0
  | i + 1 => sumF l i + (match l[i]? with | some m => if metB l i m.flow = true then 0 else nOf m.flow l | none => 0)
theorem sumF_succ {l : List Mg} {i : Nat} (hi : i < l.length) : sumF l (i + 1) = sumF l i + (if metB l i l[i].flow = true then 0 else nOf l[i].flow l) := by
  show sumF l i + _ = _
  rw [List.getElem?_eq_getElem hi]
theorem nOf_le (fl : Int) (l : List Mg) : nOf fl l ≤ l.length := List.length_filter_le _ _
theorem sumF_le (l : List Mg) : ∀ i, i ≤ l.length → sumF l i ≤ i * l.length
  | 0, _ => by simp [sumF]
  | i + 1, h => by
    rw [sumF_succ (by omega)]
    have := sumF_le l i (by omega)
    have h2 := nOf_le l[i].flow l
    rw [Nat.add_mul, Nat.one_mul]
    split <;> omega
/-- those of a workflow met among the first i -/
theorem sumF_is (l : List Mg) : ∀ i, i ≤ l.length → sumF l i = (l.filter fun m => metB l i m.flow).length
  | 0, _ => by
    have : (l.filter fun m => metB l 0 m.flow) = [] := by
      rw [List.filter_eq_nil_iff]
      intro m _
      simp [metB]
    rw [this]; rfl
  | i + 1, h => by
    have hi : i < l.length := by omega
    rw [sumF_succ hi, sumF_is l i (by omega)]
    have gen : ∀ z : List Mg, (z.filter fun m => metB l (i + 1) m.flow).length = (z.filter fun m => metB l i m.flow).length + (if metB l i l[i].flow = true then 0 else nOf l[i].flow z) := by
      intro z
      induction z with
      | nil => simp [nOf, ofF]
      | cons m z ih =>
        have en : nOf l[i].flow (m :: z) = nOf l[i].flow z + (if m.flow = l[i].flow then 1 else 0) := by
          unfold nOf ofF
          rw [List.filter_cons]
          by_cases c : m.flow = l[i].flow <;> simp [c]
        rw [List.filter_cons, List.filter_cons, en]
        simp only [metB_succ hi] at ih ⊢
        by_cases c : l[i].flow = m.flow
        · rw [← c] at *
          cases hB : metB l i l[i].flow with
          | true => rw [hB] at ih; simp at ih ⊢; omega
          | false => rw [hB] at ih; simp at ih ⊢; omega
        · have c' : ¬ m.flow = l[i].flow := fun e => c e.symm
          cases hB : metB l i m.flow with
          | true => simp [c, c'] at ih ⊢; omega
          | false => simp [c, c'] at ih ⊢; omega
    exact (gen l).symm
theorem sumF_all (l : List Mg) : sumF l l.length = l.length := by
  rw [sumF_is l _ (Nat.le_refl _), List.filter_eq_self.2]
  intro m hm
  unfold metB
  rw [List.take_length, List.any_eq_true]
  exact ⟨m, hm, by simp⟩
end Go.Proofs.Ytiajdaagamhbnaa

namespace Go.Proofs.Ytiajdaagamhbnaa
open Sh RowKit Go.MapKept Srt

section
variable {w V W : World} {Q : Value → World → Prop} {v u xv mv : Value} {lf tl : List Fl} {l : List Mg} {fl : Int}
set_option maxRecDepth 20000 in
theorem lg_in {j3 : Value → Value → Value → Value → Value → M} {i : Nat} (hr : rdS 14 (eR encF) V v lf) (hl : lf.length ≤ 1000) (hx : rdS 14 (eR encF) V xv tl) (hi : i < tl.length) : ∀ (m k : Nat) (w : World), k + m = lf.length → Below V.heap.size V w →
    (∀ w', Below V.heap.size V w' → j3 v mv xv (.int .i64 (i : Int)) (.int .i64 ((lngr tl[i].steps lf : Nat) : Int)) w' Q) →
    itr (fun _ _ _ _ _ _ => bot) (f6_b4 j3) (m + 1) v mv xv (.int .i64 (i : Int)) (.int .i64 ((lngr tl[i].steps (lf.take k) : Nat) : Int)) (.int .i64 (k : Int)) w Q := by
  obtain ⟨a, es, e1, e2, e3, e4⟩ := rdS_at hx hi
  have e3 : es = encF tl[i] := e3
  subst e3
  intro m
  induction m with
  | zero =>
    intro k w hk hb kk
    show f6_b4 _ _ _ _ _ _ _ _ w Q
    unfold f6_b4
    refine lnl_S hr ?_
    have c1 : ¬ (k : Int) < (lf.length : Int) := by omega
    simp only [↓reduceIte, ↓LL, LM, Value.cells, Nat.reduceAdd, Option.some.injEq, exists_eq_left', decide_true, decide_false, if_true, if_false, reduceCtorEq, cond_true, cond_false, c1]
    rw [List.take_of_length_le (by omega)]
    exact kk w hb
  | succ m ih =>
    intro k w hk hb kk
    show f6_b4 _ _ _ _ _ _ _ _ w Q
    unfold f6_b4
    refine lnl_S hr ?_
    have hkl : k < lf.length := by omega
    have c1 : (k : Int) < (lf.length : Int) := by omega
    have e5 : IntKind.i64.wrap ((k : Int) + 1) = ((k + 1 : Nat) : Int) := by rw [w64 (by omega) (by omega)]; omega
    have hb : Below V.heap.size V (drw w) := Below_drw hb
    have cs6 := cellsAt_get (cellsAt_below hb e2) (j := 6) (v := .int .i64 tl[i].steps) rfl
    obtain ⟨a', es', f1, f2, f3, f4⟩ := rdS_at hr hkl
    have f3 : es' = encF lf[k] := f3
    subst f3
    have ds6 := cellsAt_get (cellsAt_below hb f2) (j := 6) (v := .int .i64 lf[k].steps) rfl
    have hle := lngr_le tl[i].steps (lf.take k)
    have htk : lngr tl[i].steps (lf.take (k + 1)) = lngr tl[i].steps (lf.take k) + (if tl[i].steps < lf[k].steps then 1 else 0) := by rw [List.take_succ_eq_append_getElem hkl, lngr_one]
    have e6 : IntKind.i64.wrap (((lngr tl[i].steps (lf.take k) : Nat) : Int) + 1) = ((lngr tl[i].steps (lf.take k) + 1 : Nat) : Int) := by rw [List.length_take] at hle; rw [w64 (by omega) (by omega)]; omega
    have nxt := ih (k + 1) (drw w) (by omega) hb kk
    simp only [lt_e, cnd_e, c1, decide_true, cond_true, if_true, ↓reduceIte, dr_q, idv_e]
    generalize drw w = w1 at *
    by_cases c : tl[i].steps < lf[k].steps
    · rw [if_pos c] at htk
      rw [htk] at nxt
      simp only [↓reduceIte, ↓LL, LM, Value.cells, Nat.reduceAdd, Option.some.injEq, exists_eq_left', decide_true, decide_false, if_true, if_false, reduceCtorEq, cond_true, cond_false, c1, e4, f4, cs6, ds6, c, e6]
      unfold f6_j5
      simp only [↓reduceIte, ↓LL, LM, Value.cells, Nat.reduceAdd, Option.some.injEq, exists_eq_left', decide_true, decide_false, if_true, if_false, reduceCtorEq, cond_true, cond_false, e5]
      exact nxt
    · rw [if_neg c, Nat.add_zero] at htk
      rw [htk] at nxt
      simp only [↓reduceIte, ↓LL, LM, Value.cells, Nat.reduceAdd, Option.some.injEq, exists_eq_left', decide_true, decide_false, if_true, if_false, reduceCtorEq, cond_true, cond_false, c1, e4, f4, cs6, ds6, c]
      unfold f6_j5
      simp only [↓reduceIte, ↓LL, LM, Value.cells, Nat.reduceAdd, Option.some.injEq, exists_eq_left', decide_true, decide_false, if_true, if_false, reduceCtorEq, cond_true, cond_false, e5]
      exact nxt
set_option maxRecDepth 20000 in
theorem lg_out {j1 : Value → M} (hr : rdS 14 (eR encF) W v lf) (hl : lf.length ≤ 1000) (hx : rdS 14 (eR encF) W xv tl) (ht : tl.length ≤ 1000) (h1 : ∀ i (h : i < tl.length), lngr tl[i].steps lf ≤ i) (h2 : ∀ i (h : i < tl.length), 0 < i → tl[i].steps ≤ tl[i - 1].steps) : ∀ (m i : Nat) (w : World), i + m = tl.length → Below W.heap.size W w →
    (∀ w', Below W.heap.size W w' → j1 mv w' Q) → itr (fun _ _ _ _ => bot) (f6_b2 j1) (m + 1) v mv xv (.int .i64 (i : Int)) w Q := by
  intro m
  induction m with
  | zero =>
    intro i w hi hb kk
    show f6_b2 _ _ _ _ _ _ w Q
    unfold f6_b2
    refine lnl_S hx ?_
    have c1 : ¬ (i : Int) < (tl.length : Int) := by omega
    simp only [↓reduceIte, ↓LL, LM, Value.cells, Nat.reduceAdd, Option.some.injEq, exists_eq_left', decide_true, decide_false, if_true, if_false, reduceCtorEq, cond_true, cond_false, c1]
    exact kk w hb
  | succ m ih =>
    intro i w hi hb kk
    show f6_b2 _ _ _ _ _ _ w Q
    unfold f6_b2
    refine lnl_S hx ?_
    have hil : i < tl.length := by omega
    have c1 : (i : Int) < (tl.length : Int) := by omega
    have e5 : IntKind.i64.wrap ((i : Int) + 1) = ((i + 1 : Nat) : Int) := by rw [w64 (by omega) (by omega)]; omega
    simp only [lt_e, cnd_e, c1, decide_true, cond_true, if_true, ↓reduceIte, jn_e]
    refine ⟨_, lg_in (V := w) (i := i) (rdS_below eR_st hb hr) hl (rdS_below eR_st hb hx) hil lf.length 0 w (by omega) (Below.refl _ _) fun w1 b1 => ?_⟩
    have b01 := bt hb b1
    unfold f6_j3
    have hd : Below W.heap.size W (drw w1) := Below_drw b01
    have g1 : ¬ (i : Int) < ((lngr tl[i].steps lf : Nat) : Int) := by have := h1 i hil; omega
    have nxt := ih (i + 1) (drw w1) (by omega) hd kk
    rcases Nat.eq_zero_or_pos i with h0 | h0
    · have g2 : ¬ (0 : Int) < (i : Int) := by omega
      simp only [↓reduceIte, ↓LL, LM, Value.cells, Nat.reduceAdd, Option.some.injEq, exists_eq_left', decide_true, decide_false, if_true, if_false, reduceCtorEq, cond_true, cond_false, g1, g2, e5]
      exact nxt
    · have g2 : (0 : Int) < (i : Int) := by omega
      have e7 : IntKind.i64.wrap ((i : Int) - 1) = ((i - 1 : Nat) : Int) := by rw [w64 (by omega) (by omega)]; omega
      have hil2 : i - 1 < tl.length := by omega
      obtain ⟨a, es, q1, q2, q3, q4⟩ := rdS_at hx hil
      have q3 : es = encF tl[i] := q3
      subst q3
      obtain ⟨a', es', f1, f2, f3, f4⟩ := rdS_at hx hil2
      have f3 : es' = encF tl[i - 1] := f3
      subst f3
      have cs6 := cellsAt_get (cellsAt_below hd q2) (j := 6) (v := .int .i64 tl[i].steps) rfl
      have ds6 := cellsAt_get (cellsAt_below hd f2) (j := 6) (v := .int .i64 tl[i - 1].steps) rfl
      have g3 : ¬ tl[i - 1].steps < tl[i].steps := by have := h2 i hil h0; omega
      simp only [dr_q, idv_e]
      generalize drw w1 = w2 at *
      simp only [↓reduceIte, ↓LL, LM, Value.cells, Nat.reduceAdd, Option.some.injEq, exists_eq_left', decide_true, decide_false, if_true, if_false, reduceCtorEq, cond_true, cond_false, g1, g2, e7, q4, f4, cs6, ds6, g3, e5]
      exact nxt
set_option maxRecDepth 20000 in
theorem fs_in {j8 : Value → Value → Value → Value → M} {cv : Value} {i : Nat} (hm : rdS 6 (eR encM) V mv l) (hi : i < l.length) (h200 : i < 200) : ∀ (m k : Nat) (w : World), k + m = i → Below V.heap.size V w →
    (∀ w', Below V.heap.size V w' → j8 mv cv (.int .i64 (i : Int)) (.bool (!metB l i l[i].flow)) w' Q) →
    itr (fun _ _ _ _ _ => bot) (f6_b9 j8) (m + 1) mv cv (.int .i64 (i : Int)) (.bool (!metB l k l[i].flow)) (.int .i64 (k : Int)) w Q := by
  obtain ⟨a, es, e1, e2, e3, e4⟩ := rdS_at hm hi
  have e3 : es = encM l[i] := e3
  subst e3
  intro m
  induction m with
  | zero =>
    intro k w hk hb kk
    obtain rfl : k = i := by omega
    show f6_b9 _ _ _ _ _ _ _ w Q
    unfold f6_b9
    have c1 : ¬ (k : Int) < (k : Int) := by omega
    simp only [lt_e, cnd_e, c1, decide_false, cond_false, if_false, ↓reduceIte, Bool.false_eq_true]
    exact kk w hb
  | succ m ih =>
    intro k w hk hb kk
    show f6_b9 _ _ _ _ _ _ _ w Q
    unfold f6_b9
    have hkl : k < l.length := by omega
    have c1 : (k : Int) < (i : Int) := by omega
    have e5 : IntKind.i64.wrap ((k : Int) + 1) = ((k + 1 : Nat) : Int) := by rw [w64 (by omega) (by omega)]; omega
    have hb : Below V.heap.size V (drw w) := Below_drw hb
    have cs1 := cellsAt_get (cellsAt_below hb e2) (j := 1) (v := .int .i64 l[i].flow) rfl
    obtain ⟨a', es', f1, f2, f3, f4⟩ := rdS_at hm hkl
    have f3 : es' = encM l[k] := f3
    subst f3
    have ds1 := cellsAt_get (cellsAt_below hb f2) (j := 1) (v := .int .i64 l[k].flow) rfl
    have hsc := metB_succ hkl l[i].flow
    have nxt := ih (k + 1) (drw w) (by omega) hb kk
    rw [hsc] at nxt
    simp only [lt_e, cnd_e, c1, decide_true, cond_true, if_true, ↓reduceIte, dr_q, idv_e]
    generalize drw w = w1 at *
    cases hB : metB l k l[i].flow with
    | true =>
      rw [hB] at nxt
      simp only [Bool.true_or, Bool.not_true] at nxt
      simp only [Bool.not_true, ↓reduceIte, ↓LL, LM, Value.cells, Nat.reduceAdd, Option.some.injEq, exists_eq_left', decide_true, decide_false, if_true, if_false, reduceCtorEq, cond_true, cond_false, c1, e5]
      exact nxt
    | false =>
      rw [hB] at nxt
      simp only [Bool.false_or] at nxt
      simp only [Bool.not_false, ↓reduceIte, ↓LL, LM, Value.cells, Nat.reduceAdd, Option.some.injEq, exists_eq_left', decide_true, decide_false, if_true, if_false, reduceCtorEq, cond_true, cond_false, c1, f4, e4, cs1, ds1, e5, ne_eq]
      by_cases c : l[k].flow = l[i].flow
      · simp only [c, decide_true, Bool.not_true, not_true_eq_false, decide_false, ↓reduceIte, ↓LL, LM, Value.cells, Nat.reduceAdd, Option.some.injEq, exists_eq_left', decide_true, decide_false, if_true, if_false, reduceCtorEq, cond_true, cond_false] at nxt ⊢
        exact nxt
      · simp only [c, decide_false, Bool.not_false, not_false_eq_true, decide_true, ↓reduceIte, ↓LL, LM, Value.cells, Nat.reduceAdd, Option.some.injEq, exists_eq_left', decide_true, decide_false, if_true, if_false, reduceCtorEq, cond_true, cond_false] at nxt ⊢
        exact nxt
end
end Go.Proofs.Ytiajdaagamhbnaa

namespace Go.Proofs.Ytiajdaagamhbnaa
open Sh RowKit Go.MapKept Srt

section
variable {w V W : World} {Q : Value → World → Prop} {v u xv mv : Value} {lf tl : List Fl} {l : List Mg} {fl : Int}
set_option maxRecDepth 20000 in
theorem fs_out {j6 : Value → Value → M} (hm : rdS 6 (eR encM) W mv l) (hl : l.length * 56 ≤ 140737488355328) : ∀ (m i : Nat) (w : World), i + m = min l.length 200 → Below W.heap.size W w →
    (∀ w', Below W.heap.size W w' → j6 mv (.int .i64 ((sumF l (min l.length 200) : Nat) : Int)) w' Q) →
    itr (fun _ _ _ => bot) (f6_b7 j6) (m + 1) mv (.int .i64 ((sumF l i : Nat) : Int)) (.int .i64 (i : Int)) w Q := by
  intro m
  induction m with
  | zero =>
    intro i w hi hb kk
    obtain rfl : i = min l.length 200 := by omega
    show f6_b7 _ _ _ _ _ w Q
    unfold f6_b7
    refine lnl_S hm ?_
    by_cases c : ((min l.length 200 : Nat) : Int) < (l.length : Int)
    · have c2 : ¬ ((min l.length 200 : Nat) : Int) < 200 := by omega
      simp only [↓reduceIte, ↓LL, LM, Value.cells, Nat.reduceAdd, Option.some.injEq, exists_eq_left', decide_true, decide_false, if_true, if_false, reduceCtorEq, cond_true, cond_false, c, c2]
      exact kk w hb
    · simp only [↓reduceIte, ↓LL, LM, Value.cells, Nat.reduceAdd, Option.some.injEq, exists_eq_left', decide_true, decide_false, if_true, if_false, reduceCtorEq, cond_true, cond_false, c]
      exact kk w hb
  | succ m ih =>
    intro i w hi hb kk
    have hil : i < l.length := by omega
    have h200 : i < 200 := by omega
    show f6_b7 _ _ _ _ _ w Q
    unfold f6_b7
    refine lnl_S hm ?_
    have c1 : (i : Int) < (l.length : Int) := by omega
    have c2 : (i : Int) < 200 := by omega
    have e5 : IntKind.i64.wrap ((i : Int) + 1) = ((i + 1 : Nat) : Int) := by rw [w64 (by omega) (by omega)]; omega
    simp only [lt_e, gd_e, idv_e, pk_e, cnd_e, c1, c2, decide_true, cond_true, if_true, ↓reduceIte, jn_e]
    have hm1 := rdS_below eR_st hb hm
    refine ⟨_, fs_in (V := w) (cv := .int .i64 ((sumF l i : Nat) : Int)) (i := i) hm1 hil h200 i 0 w (by omega) (Below.refl _ _) fun w1 b1 => ?_⟩
    have b01 := bt hb b1
    unfold f6_j8
    have hsc := sumF_succ hil
    have hno := nOf_le l[i].flow l
    have hsl := sumF_le l i (by omega)
    have hsm : sumF l i ≤ 200 * l.length := Nat.le_trans hsl (Nat.mul_le_mul_right _ (by omega))
    have nxt : ∀ w', Below W.heap.size W w' → f6_j10 (itr (fun _ _ _ => bot) (f6_b7 j6) (m + 1)) mv (.int .i64 ((sumF l (i + 1) : Nat) : Int)) (.int .i64 (i : Int)) w' Q := by
      intro w' b'
      unfold f6_j10
      simp only [↓reduceIte, ↓LL, LM, Value.cells, Nat.reduceAdd, Option.some.injEq, exists_eq_left', decide_true, decide_false, if_true, if_false, reduceCtorEq, cond_true, cond_false, e5]
      exact ih (i + 1) w' (by omega) b' kk
    obtain ⟨a, es, e1, e2, e3, e4⟩ := rdS_at hm hil
    have e3 : es = encM l[i] := e3
    subst e3
    have cs1 := cellsAt_get (cellsAt_below b01 e2) (j := 1) (v := .int .i64 l[i].flow) rfl
    cases hB : metB l i l[i].flow with
    | true =>
      rw [hB, if_pos rfl, Nat.add_zero] at hsc
      rw [hsc] at nxt
      simp only [Bool.not_true, ↓reduceIte, ↓LL, LM, Value.cells, Nat.reduceAdd, Option.some.injEq, exists_eq_left', decide_true, decide_false, if_true, if_false, reduceCtorEq, cond_true, cond_false]
      exact nxt w1 b01
    | false =>
      rw [hB, if_neg (by simp)] at hsc
      rw [hsc] at nxt
      simp only [Bool.not_false, ↓reduceIte, ↓LL, LM, Value.cells, Nat.reduceAdd, Option.some.injEq, exists_eq_left', decide_true, decide_false, if_true, if_false, reduceCtorEq, cond_true, cond_false, e4, cs1]
      refine f22_s (rdS_below eR_st b01 hm) hl fun w2 v2 b2 r2 => ?_
      try simp only [↓reduceIte, ↓LL, LM, Value.cells, Nat.reduceAdd, Option.some.injEq, exists_eq_left', decide_true, decide_false, if_true, if_false, reduceCtorEq, cond_true, cond_false]
      refine lnl_S r2 ?_
      have e8 : (srt leM (ofF l[i].flow l)).length = nOf l[i].flow l := srt_len _
      rw [e8]
      have e9 : IntKind.i64.wrap (((sumF l i : Nat) : Int) + ((nOf l[i].flow l : Nat) : Int)) = ((sumF l i + nOf l[i].flow l : Nat) : Int) := by rw [w64 (by omega) (by omega)]; omega
      simp only [↓reduceIte, ↓LL, LM, Value.cells, Nat.reduceAdd, Option.some.injEq, exists_eq_left', decide_true, decide_false, if_true, if_false, reduceCtorEq, cond_true, cond_false, e9]
      exact nxt w2 (bt b01 b2)
set_option maxRecDepth 20000 in
theorem f6_s {n : Int} (hr : rdS 14 (eR encF) W v lf) (hm : rdS 6 (eR encM) W mv l) (hl : l.length * 56 ≤ 140737488355328) (kk : ∀ w', Below W.heap.size W w' → Q (.bool true) w') : f6 v (.int .i64 n) mv W Q := by
  unfold f6
  rw [cl_e]
  refine f7_s fun w1 b1 => ?_
  simp only [↓reduceIte, ↓LL, LM, Value.cells, Nat.reduceAdd, Option.some.injEq, exists_eq_left', decide_true, decide_false, if_true, if_false, reduceCtorEq, cond_true, cond_false]
  refine f8_s (rdS_below eR_st b1 hr) fun v1 r1 => ?_
  have hll : (lf.take 150).length ≤ 150 := by rw [List.length_take]; omega
  generalize lf.take 150 = lf at *
  try rw [cl_e]
  refine f19_s r1 (by omega) fun w2 x b2 rx => ?_
  have b02 := bt b1 b2
  have r2 := rdS_below eR_st b2 r1
  have hlim := limL_le n lf.length
  obtain ⟨tl, ht⟩ : ∃ tl, tl = (srt leF lf).take (limL n lf.length) := ⟨_, rfl⟩
  rw [← ht] at rx
  have htl : tl.length = limL n lf.length := by rw [ht, List.length_take, srt_len]; omega
  have h1 : ∀ i (h : i < tl.length), lngr tl[i].steps lf ≤ i := fun i h => by
    subst ht
    rw [List.getElem_take]
    exact lngr_at lf i (by rw [htl] at h; rw [srt_len]; omega)
  have h2 : ∀ i (h : i < tl.length), 0 < i → tl[i].steps ≤ tl[i - 1].steps := fun i h h0 => by
    subst ht
    rw [List.getElem_take, List.getElem_take]
    exact srt_steps lf i h0 (by rw [htl] at h; rw [srt_len]; omega)
  have htn := limL_if n lf.length
  clear ht
  refine lnl_S rx ?_
  rw [htl]
  simp only [↓reduceIte, ↓LL, LM, Value.cells, Nat.reduceAdd, Option.some.injEq, exists_eq_left', decide_true, decide_false, if_true, if_false, reduceCtorEq, cond_true, cond_false]
  refine lnl_S r2 ?_
  simp only [↓reduceIte, ↓LL, LM, Value.cells, Nat.reduceAdd, Option.some.injEq, exists_eq_left', decide_true, decide_false, if_true, if_false, reduceCtorEq, cond_true, cond_false, htn, ne_eq, not_true_eq_false]
  refine ⟨_, lg_out (W := w2) r2 (by omega) rx (by omega) h1 h2 tl.length 0 w2 (by omega) (Below.refl _ _) fun w3 b3 => ?_⟩
  have b03 := bt b02 b3
  unfold f6_j1
  rw [jn_e]
  refine ⟨_, fs_out (W := w3) (rdS_below eR_st b03 hm) hl (min l.length 200) 0 w3 (by omega) (Below.refl _ _) fun w4 b4 => ?_⟩
  unfold f6_j6
  refine lnl_S (rdS_below eR_st (bt b03 b4) hm) ?_
  by_cases c : (200 : Int) < (l.length : Int)
  · simp only [↓reduceIte, ↓LL, LM, Value.cells, Nat.reduceAdd, Option.some.injEq, exists_eq_left', decide_true, decide_false, if_true, if_false, reduceCtorEq, cond_true, cond_false, c]
    exact kk w4 (bt b03 b4)
  · have hmin : min l.length 200 = l.length := by omega
    rw [hmin, sumF_all]
    simp only [gt_e, gd_e, idv_e, pk_e, c, decide_false, Bool.false_eq_true, if_false, if_true, ↓reduceIte]
    refine lnl_S (rdS_below eR_st (bt b03 b4) hm) ?_
    simp only [↓reduceIte, ↓LL, LM, Value.cells, Nat.reduceAdd, Option.some.injEq, exists_eq_left', decide_true, decide_false, if_true, if_false, reduceCtorEq, cond_true, cond_false]
    exact kk w4 (bt b03 b4)
end
end Go.Proofs.Ytiajdaagamhbnaa

namespace Go.Proofs.Ytiajdaagamhbnaa
namespace Sh
open RowKit
section
variable {H : Type} {enc : TypeId × Value → H} {P : Program}
theorem trodAll_below (hl : laidOutB P = true) {W W' : World} (hb : Below W.heap.size W W') : ∀ (ts : List TypeId) (vs : List Value) (ds : List (DataW H)) (ps : List MemPlace),
    (∀ t ∈ ts, P.readableRec t = true ∧ t < P.types.size) → DataW.TrodAll enc P W 0 (fun _ => true) true ts vs ds ps → (∀ x ∈ ps, x.block < W.heap.size) →
    DataW.TrodAll enc P W' 0 (fun b => decide (b < W.heap.size)) true ts vs ds ps := by
  intro ts
  induction ts with
  | nil =>
    intro vs ds ps _ h _
    match vs, ds, h with
    | [], [], h => exact h
  | cons t ts ih =>
    intro vs ds ps ht h hp
    match vs, ds, h with
    | v :: vs, d :: ds, ⟨p, q, h1, h2, h3⟩ =>
      subst h3
      exact ⟨p, q, Below.trod hl (ht t (by simp)).1 (ht t (by simp)).2 h1 hb (fun x hx => hp x (by simp [hx])), ih vs ds q (fun u hu => ht u (by simp [hu])) h2 (fun x hx => hp x (by simp [hx])), rfl⟩
theorem trodAll_len : ∀ (ts : List TypeId) (vs : List Value) (ds : List (DataW H)) (ps : List MemPlace) {W : World}, DataW.TrodAll enc P W 0 (fun _ => true) true ts vs ds ps → ds.length = ts.length := by
  intro ts
  induction ts with
  | nil => intro vs ds ps W h; match vs, ds, h with | [], [], h => rfl
  | cons t ts ih => intro vs ds ps W h; match vs, ds, h with | v :: vs, d :: ds, ⟨p, q, h1, h2, h3⟩ => simp [ih vs ds q h2]
theorem law_post {fn : Func} {s : ChangeSpec} {apart : Bool} {W W' : World} {args : Array Value} {ds gs : List (DataW H)} {before : List MemPlace} {tb : TypeId} (hv : s.vars = []) (hl : laidOutB P = true)
    (hp : ∀ t ∈ fn.params.toList, P.readableRec t = true ∧ t < P.types.size) (hr : fn.resultTypes = #[tb]) (hb : P.underlying tb = some .bool)
    (hs : ∀ ds : List (DataW H), ds.length = fn.params.toList.length → (s.fn H ds).results = [.lit (.bool true)] ∧ (s.fn H ds).args = ds ∧ (s.fn H ds).vars = [])
    (hW : DataW.Whole enc P fn.params.toList s.vars apart W args.toList ds gs before) (h : Below W.heap.size W W') :
    s.post enc P fn apart true false false W args (.bool true) W' := by
  have hW0 := hW
  obtain ⟨p, q, hA, hV, rfl, hfz, hnd⟩ := hW
  rw [hv] at hV
  have hg : gs = [] ∧ q = [] := by
    cases gs with
    | nil => exact ⟨rfl, hV⟩
    | cons g gs => exact hV.elim
  obtain ⟨rfl, rfl⟩ := hg
  obtain ⟨e1, e2, e3⟩ := hs ds (trodAll_len _ _ _ _ hA)
  refine ⟨ds, [], p ++ [], [], p, [], hW0, ?_, ?_, ?_, Below.frame h _, fun h => by cases h⟩
  · rw [hr, List.append_nil, e1]
    exact ⟨[], [], ⟨1, by simp [DataW.trod, hb, Value.cells]⟩, rfl, rfl⟩
  · rw [List.append_nil, e2]
    exact trodAll_below hl h _ _ _ _ hp hA (fun x hx => by have := hW0.lt x (by simp [hx]); simpa using this)
  · rw [List.append_nil, hv, e3]
    rfl
theorem law_lifted {C : Checked} {os : Os} {f : FuncId} {fn : Func} {s : ChangeSpec} {conds : List PathCond} {tb : TypeId}
    (own : ownKnob C.prog.godebug = none) (started : os.Started) (noInit : C.prog.inits.idxOf? f = none) (hfn : C.prog.funcs[f]? = some fn)
    (witness : ∃ (w : World) (tape : Tape) (i : Input), w.os = os ∧ (w.forCall tape i).Shaped C.prog ∧ i.vars = [] ∧ Input.okWide C.prog (w.forCall tape i) .any w.heap.size f i ∧
      s.pre6 enc C.prog fn conds false (w.forCall tape i).memory i.args ∧ ({} : Assume).holds C.prog (lone (Frame.enter C.prog f i.args .normal) [] (w.forCall tape i)))
    (hv : s.vars = []) (hl : laidOutB C.prog = true) (hp : fn.params.toList.all (fun t => C.prog.readableRec t && decide (t < C.prog.types.size)) = true) (hr : fn.resultTypes = #[tb]) (hb : C.prog.underlying tb = some .bool)
    (hs : ∀ ds : List (DataW H), ds.length = fn.params.toList.length → (s.fn H ds).results = [.lit (.bool true)] ∧ (s.fn H ds).args = ds ∧ (s.fn H ds).vars = [])
    (contract : ∀ (W : World) (base : Nat) (args : Array Value) (ds : List (DataW H)) (p : List MemPlace),
      (∀ (j : Nat) t v, fn.params[j]? = some t → args[j]? = some v → Value.okWide C.prog W .any base t v) →
      DataW.TrodAll enc C.prog W 0 (fun _ => true) true fn.params.toList args.toList ds p →
      (DataW.weightsEach C.prog fn.params.toList ds).all (· ≤ reachBytes) = true →
      Calls C.prog f args W (Rt fun v W' => v = .bool true ∧ Below W.heap.size W W')) :
    ReturnsInHanded {} C os f .any (s.pre6 enc C.prog fn conds false) (s.post enc C.prog fn false true false false) := by
  refine returnsInHanded_of_change_sized own started noInit hfn witness ?_
  intro W base args ds gs before hval hW _ hz _
  have hp' : ∀ t ∈ fn.params.toList, C.prog.readableRec t = true ∧ t < C.prog.types.size := fun t ht => by
    have := List.all_eq_true.1 hp t ht
    simpa using this
  obtain ⟨p, q, hA, hV, hq⟩ := hW
  have hW : DataW.Whole enc C.prog fn.params.toList s.vars false W args.toList ds gs before := ⟨p, q, hA, hV, hq⟩
  have hg : gs = [] := by
    rw [hv] at hV
    cases gs with
    | nil => rfl
    | cons g gs => exact hV.elim
  subst hg
  have hvt : s.plain.varTypes C.prog = [] := by
    simp [ChangeSpec.plain, DataSpec.varTypes, hv]
  rw [hvt, List.append_nil, List.append_nil] at hz
  refine (contract W base args ds p hval hA hz).mono fun e W' he => ?_
  cases e with
  | returned v =>
    obtain ⟨hv', hbel⟩ := he
    subst hv'
    exact ⟨_, rfl, law_post hv hl hp' hr hb hs hW hbel⟩
  | panicked c => exact he.elim
  | outgrown => exact he.elim
end
end Sh
end Go.Proofs.Ytiajdaagamhbnaa

namespace Go.Proofs.Ytiajdaagamhbnaa
namespace Sh
open RowKit ChangeShapes
/-- all arguments, told by R -/
def OpensA (P : Program) (ts : List TypeId) (α : Type) (R : World → List Value → α → Prop) (bulk : α → Nat) : Prop :=
  ∀ {H : Type} (enc : TypeId × Value → H) (W : World) (vs : List Value) (ds : List (DataW H)) (ps : List MemPlace) (base : Nat),
    (∀ (j : Nat) t v, ts[j]? = some t → vs[j]? = some v → Value.okWide P W .any base t v) →
    DataW.TrodAll enc P W 0 (fun _ => true) true ts vs ds ps → (DataW.weightsEach P ts ds).all (· ≤ reachBytes) = true → ∃ a, R W vs a ∧ bulk a ≤ Rows.uptoBulkAll ds
section
variable {P : Program}
theorem oa_nil : OpensA P [] Unit (fun _ vs _ => vs = []) (fun _ => 0) := by
  intro H enc W vs ds ps base hv h _
  match vs, ds, h with
  | [], [], _ => exact ⟨(), rfl, Nat.zero_le _⟩
theorem OpensA.mono {ts : List TypeId} {α β : Type} {R : World → List Value → α → Prop} {S : World → List Value → β → Prop} {b : α → Nat} {c : β → Nat} (h : OpensA P ts α R b)
    (f : ∀ W vs a, R W vs a → ∃ x, S W vs x ∧ c x ≤ b a) : OpensA P ts β S c := by
  intro H enc W vs ds ps base hv hd hw
  obtain ⟨a, h1, h2⟩ := h enc W vs ds ps base hv hd hw
  obtain ⟨y, h3, h4⟩ := f W vs a h1
  exact ⟨y, h3, Nat.le_trans h4 h2⟩
theorem oa_one {t : TypeId} {ts : List TypeId} {α β : Type} {R : RepT α} {S : World → List Value → β → Prop} {b : α → Nat} {c : β → Nat} (h : Opens P t α R b) (hs : isSc P t = true) (h1 : ∀ w cs a, R w cs a → ∃ v, cs = [v])
    (hr : OpensA P ts β S c) : OpensA P (t :: ts) (α × β) (fun w vs x => ∃ v r, vs = v :: r ∧ R w [v] x.1 ∧ S w r x.2) (fun x => b x.1 + c x.2) := by
  intro H enc W vs ds ps base hv hd hw
  match vs, ds, hd with
  | v :: vs, d :: ds, ⟨p, q, k1, k2, k3⟩ =>
    simp only [DataW.weightsEach, List.all_append, Bool.and_eq_true] at hw
    obtain ⟨a, e1, e2⟩ := open_one h hs h1 (hv 0 t v rfl rfl) k1 hw.1
    obtain ⟨a', e3, e4⟩ := hr enc W vs ds q base (fun j t v g1 g2 => hv (j + 1) t v g1 g2) k2 hw.2
    exact ⟨(a, a'), ⟨v, vs, rfl, e1, e3⟩, by simp only [Rows.uptoBulkAll]; omega⟩
end
section
variable {H : Type} {enc : TypeId × Value → H}
theorem law_from {C : Checked} {os : Os} {f : FuncId} {fn : Func} {s : ChangeSpec} {conds : List PathCond} {tb : TypeId} {α : Type} {R : World → List Value → α → Prop} {b : α → Nat}
    (own : ownKnob C.prog.godebug = none) (started : os.Started) (noInit : C.prog.inits.idxOf? f = none) (hfn : C.prog.funcs[f]? = some fn)
    (witness : ∃ (w : World) (tape : Tape) (i : Input), w.os = os ∧ (w.forCall tape i).Shaped C.prog ∧ i.vars = [] ∧ Input.okWide C.prog (w.forCall tape i) .any w.heap.size f i ∧
      s.pre6 enc C.prog fn conds false (w.forCall tape i).memory i.args ∧ ({} : Assume).holds C.prog (lone (Frame.enter C.prog f i.args .normal) [] (w.forCall tape i)))
    (hv : s.vars = []) (hl : laidOutB C.prog = true) (hp : fn.params.toList.all (fun t => C.prog.readableRec t && decide (t < C.prog.types.size)) = true) (hr : fn.resultTypes = #[tb]) (hb : C.prog.underlying tb = some .bool)
    (hs : ∀ ds : List (DataW H), ds.length = fn.params.toList.length → (s.fn H ds).results = [.lit (.bool true)] ∧ (s.fn H ds).args = ds ∧ (s.fn H ds).vars = [])
    (oa : OpensA C.prog fn.params.toList α R b)
    (law : ∀ (W : World) (vs : List Value) (a : α), R W vs a → Calls C.prog f vs.toArray W (Rt fun v W' => v = .bool true ∧ Below W.heap.size W W')) :
    ReturnsInHanded {} C os f .any (s.pre6 enc C.prog fn conds false) (s.post enc C.prog fn false true false false) := by
  refine law_lifted own started noInit hfn witness hv hl hp hr hb hs ?_
  intro W base args ds p hval hA hz
  obtain ⟨a, h1, _⟩ := oa enc W args.toList ds p base (fun j t v h1 h2 => hval j t v (by simpa using h1) (by simpa using h2)) hA hz
  exact law W args.toList a h1
end
end Sh
end Go.Proofs.Ytiajdaagamhbnaa

namespace Go.Proofs.Ytiajdaagamhbnaa
open Sh RowKit
theorem u2 : Try.prog.underlying 2 = some (.int .i64) := by kernel_rfl
theorem u3 : Try.prog.underlying 3 = some (.int .i64) := by kernel_rfl
theorem u4 : Try.prog.underlying 4 = some .bool := by kernel_rfl
theorem u9 : Try.prog.underlying 9 = some .string := by kernel_rfl
theorem u48 : Try.prog.underlying 48 = some (.int .i64) := by kernel_rfl
theorem u22 : Try.prog.underlying 22 = some (.slice 55) := by kernel_rfl
theorem u51 : Try.prog.underlying 51 = some (.slice 50) := by kernel_rfl
theorem xsc22 : isSc Try.prog 22 = true := by kernel_rfl
theorem xsc3 : isSc Try.prog 3 = true := by kernel_rfl
theorem len2 {cs : List Value} (h : cs.length = 2) : ∃ a b, cs = [a, b] := by
  match cs, h with
  | [a, b], _ => exact ⟨a, b, rfl⟩
theorem len3 {cs : List Value} (h : cs.length = 3) : ∃ a b c, cs = [a, b, c] := by
  match cs, h with
  | [a, b, c], _ => exact ⟨a, b, c, rfl⟩
theorem len14 {cs : List Value} (h : cs.length = 14) : ∃ a b c d e f g i j k l m n o, cs = [a, b, c, d, e, f, g, i, j, k, l, m, n, o] := by
  match cs, h with
  | [a, b, c, d, e, f, g, i, j, k, l, m, n, o], _ => exact ⟨a, b, c, d, e, f, g, i, j, k, l, m, n, o, rfl⟩
theorem one_cell {x y : Value} (h : [x] = [y]) : x = y := (List.cons.inj h).1
theorem op50 : Opens Try.prog 50 Vl (eR encV) (fun _ => 1) := by
  refine Opens.mono (op_struct Try.underlying50 (n := 3) (by kernel_rfl) (opf_cons (n := 1) (by kernel_rfl) (op_int u48) (opf_cons (n := 1) (by kernel_rfl) (op_int u2)
    (opf_cons (n := 1) (by kernel_rfl) (op_str u9) opf_nil)))) ?_
  rintro w cs ⟨a, b, n, ⟨⟩⟩ ⟨hl, ⟨h0, h0'⟩, ⟨h1, h1'⟩, ⟨h2, h2'⟩, -⟩
  obtain ⟨c0, c1, c2, rfl⟩ := len3 hl
  have e0 := one_cell (x := c0) h0
  have e1 := one_cell (x := c1) h1
  have e2 := one_cell (x := c2) h2
  exact ⟨⟨a, b, n⟩, by rw [e0, e1, e2]; rfl, by simp⟩
/-- a frame -/
structure Fr where
  pc : Int
  rp : Option Addr
  rl : Nat
  rc : Nat
def frR : RepT Fr := fun w cs f => cs = [.int .i64 f.pc, .slice f.rp f.rl f.rc] ∧ ∃ rl : List Vl, rl.length ≤ 281474976710656 ∧ rdS 3 (eR encV) w (.slice f.rp f.rl f.rc) rl
theorem by50 : Try.prog.bytesOf 50 = 32 := by kernel_rfl
theorem op53 : Opens Try.prog 53 Fr frR (fun _ => 0) := by
  refine Opens.mono (op_struct Try.underlying53 (n := 2) (by kernel_rfl) (opf_cons (n := 1) (by kernel_rfl) (op_int u3) (opf_cons (n := 1) (by kernel_rfl) (op_slice u51 (n := 3) (by kernel_rfl) op50) opf_nil))) ?_
  rintro w cs ⟨a, l, ⟨⟩⟩ ⟨hl, ⟨h0, h0'⟩, ⟨v, hv, hr, hs⟩, -⟩
  obtain ⟨c0, c1, rfl⟩ := len2 hl
  have e0 := one_cell (x := c0) h0
  have e1 := one_cell (x := c1) hv
  obtain ⟨p, c, e2⟩ := rdS_len hr
  refine ⟨⟨a, p, l.length, c⟩, ⟨by rw [e0, e1, e2], l, by rw [by50] at hs; have hs : l.length * 32 ≤ reachBytes := hs; unfold reachBytes at hs; omega, by rw [e2] at hr; exact hr⟩, Nat.zero_le _⟩
/-- a workflow in an argument: its program's number is one, its registers can be read -/
def flR : RepT Fl := fun w cs f => cs = encF f ∧ (Lit.int .i64 f.prog).wf = true ∧ ∃ rl : List Vl, rl.length ≤ 281474976710656 ∧ rdS 3 (eR encV) w f.regs rl
theorem op55 : Opens Try.prog 55 Fl flR (fun _ => 0) := by
  refine Opens.mono (op_struct Try.underlying55 (n := 14) (by kernel_rfl) (opf_cons (n := 1) (by kernel_rfl) (op_int u3) (opf_cons (n := 1) (by kernel_rfl) (op_int u3) (opf_cons (n := 3) (by kernel_rfl) op50
    (opf_cons (n := 1) (by kernel_rfl) (op_int u3) (opf_cons (n := 1) (by kernel_rfl) (op_int u3) (opf_cons (n := 1) (by kernel_rfl) (op_int u2) (opf_cons (n := 3) (by kernel_rfl) op50 (opf_cons (n := 2) (by kernel_rfl) op53 (opf_cons (n := 1) (by kernel_rfl) (op_bool u4) opf_nil)))))))))) ?_
  rintro w cs ⟨a0, a1, a2, a3, a4, a5, a6, a7, a8, ⟨⟩⟩ ⟨hl, ⟨h0, h0'⟩, ⟨h1, h1'⟩, h2, ⟨h3, h3'⟩, ⟨h4, h4'⟩, ⟨h5, h5'⟩, h6, ⟨h7, h7'⟩, h8, -⟩
  obtain ⟨c0, c1, c2, c3, c4, c5, c6, c7, c8, c9, c10, c11, c12, c13, rfl⟩ := len14 hl
  have e0 := one_cell (x := c0) h0
  have e1 := one_cell (x := c1) h1
  have e2 : [c2, c3, c4] = encV a2 := h2
  have e3 := one_cell (x := c5) h3
  have e4 := one_cell (x := c6) h4
  have e5 := one_cell (x := c7) h5
  have e6 : [c8, c9, c10] = encV a6 := h6
  have e7 : [c11, c12] = [.int .i64 a7.pc, .slice a7.rp a7.rl a7.rc] := h7
  have e8 := one_cell (x := c13) h8
  simp only [encV, List.cons.injEq, and_true] at e2 e6 e7
  obtain ⟨rfl, rfl, rfl⟩ := e2
  obtain ⟨rfl, rfl, rfl⟩ := e6
  obtain ⟨rfl, rfl⟩ := e7
  exact ⟨⟨a0, a1, a2, a3, a4, a5, a6, a7.pc, a7.rp, a7.rl, a7.rc, a8⟩, ⟨by rw [e0, e1, e3, e4, e5, e8]; rfl, h1', h7'⟩, Nat.zero_le _⟩
theorem flR_eq {w : World} {v : Value} {l : List Fl} (h : rdS 14 flR w v l) : rdS 14 (eR encF) w v l := rdS_mono (fun _ _ h => h.1) h
def b3 : List Fl × List Fl → Nat := fun _ => 0
def b4 : List Fl → Nat := fun _ => 0
end Go.Proofs.Ytiajdaagamhbnaa

namespace Go.Proofs.Ytiajdaagamhbnaa
open Sh RowKit
theorem u44 : Try.prog.underlying 44 = some (.slice 57) := by kernel_rfl
theorem xsc44 : isSc Try.prog 44 = true := by kernel_rfl
theorem len6 {cs : List Value} (h : cs.length = 6) : ∃ a b c d e f, cs = [a, b, c, d, e, f] := by
  match cs, h with
  | [a, b, c, d, e, f], _ => exact ⟨a, b, c, d, e, f, rfl⟩
theorem op57 : Opens Try.prog 57 Mg (eR encM) (fun _ => 0) := by
  refine Opens.mono (op_struct Try.underlying57 (n := 6) (by kernel_rfl) (opf_cons (n := 1) (by kernel_rfl) (op_int u3) (opf_cons (n := 1) (by kernel_rfl) (op_int u3) (opf_cons (n := 1) (by kernel_rfl) (op_int u3) (opf_cons (n := 3) (by kernel_rfl) op50 opf_nil))))) ?_
  rintro w cs ⟨a0, a1, a2, a3, ⟨⟩⟩ ⟨hl, ⟨h0, h0'⟩, ⟨h1, h1'⟩, ⟨h2, h2'⟩, h3, -⟩
  obtain ⟨c0, c1, c2, c3, c4, c5, rfl⟩ := len6 hl
  have e0 := one_cell (x := c0) h0
  have e1 := one_cell (x := c1) h1
  have e2 := one_cell (x := c2) h2
  have e3 : [c3, c4, c5] = encV a3 := h3
  simp only [encV, List.cons.injEq, and_true] at e3
  obtain ⟨rfl, rfl, rfl⟩ := e3
  exact ⟨⟨a0, a1, a2, a3⟩, by rw [e0, e1, e2]; rfl, Nat.zero_le _⟩
theorem by57 : Try.prog.bytesOf 57 = 56 := by kernel_rfl
def R5 : World → List Value → List Fl × Int × List Mg → Prop := fun W vs x => ∃ v u, vs = [v, .int .i64 x.2.1, u] ∧ rdS 14 flR W v x.1 ∧ rdS 6 (eR encM) W u x.2.2 ∧ x.2.2.length * 56 ≤ 140737488355328
def b5 : List Fl × Int × List Mg → Nat := fun _ => 0
theorem oa5 : OpensA Try.prog [22, 3, 44] (List Fl × Int × List Mg) R5 b5 := by
  refine OpensA.mono (oa_one (op_slice u22 (n := 14) (by kernel_rfl) op55) xsc22 (fun w cs a h => ⟨_, h.choose_spec.1⟩) (oa_one (op_int u3) xsc3 (fun w cs a h => ⟨_, h.1⟩) (oa_one (op_slice u44 (n := 6) (by kernel_rfl) op57) xsc44 (fun w cs a h => ⟨_, h.choose_spec.1⟩) oa_nil))) ?_
  rintro W vs ⟨l, k, m, ⟨⟩⟩ ⟨v, r, rfl, ⟨v', hv, hr, hl⟩, v2, r2, rfl, ⟨h2, _⟩, v3, r3, rfl, ⟨v3', hv3, hr3, hl3⟩, rfl⟩
  rw [by57] at hl3
  exact ⟨(l, k, m), ⟨v, v3, by rw [one_cell h2], by rw [one_cell hv]; exact hr, by rw [one_cell hv3]; exact hr3, by have hl3 : m.length * 56 ≤ reachBytes := hl3; show m.length * 56 ≤ _; unfold reachBytes at hl3; omega⟩, Nat.zero_le _⟩
def R6 := R5
def b6 := b5
theorem oa6 : OpensA Try.prog [22, 3, 44] (List Fl × Int × List Mg) R6 b6 := oa5
end Go.Proofs.Ytiajdaagamhbnaa

namespace Go.Proofs.Ytiajdaagamhbnaa
open Go.ChangeShapes Go.WideShapes Go.ChangeAt Go.RowKit
open Sh
theorem law6 (W : World) (vs : List Value) (a : List Fl × Int × List Mg) (h : R6 W vs a) : Calls Try.prog 6 vs.toArray W (Rt fun v W' => v = .bool true ∧ Below W.heap.size W W') := by
  obtain ⟨v, u, rfl, hr, hm, hl⟩ := h
  exact s6 _ _ _ _ _ (f6_s (flR_eq hr) hm hl fun w' h => ⟨rfl, h⟩)
theorem own : ownKnob Try.prog.godebug = none := by kernel_rfl
set_option maxRecDepth 100000 in
theorem lifted6 (os : Os) (started : os.Started) (H : Type) (enc : TypeId × Value → H) :
    ReturnsInHanded {} Try.checked os 6 .any (Rows.reportLongestSpec.pre6 enc Try.prog Try.f6 Rows.reportLongestRow.domain false) (Rows.reportLongestSpec.post enc Try.prog Try.f6 false true false false) := by
  refine law_from (C := Try.checked) (tb := 4) (R := R6) (b := b6) own started (by kernel_rfl) Try.func6
    (ChangeSpec.witness6 (enc := enc) (C := Try.checked) false ⟨#[], #[.slice none 0 0, .int .i64 0, .slice none 0 0], []⟩ 8 (by kernel_rfl) (by kernel_rfl) (by kernel_rfl) (by kernel_rfl))
    rfl (by kernel_rfl) (by kernel_rfl) rfl Try.underlying4 (fun ds hd => ?_) ?_ law6
  · match ds, hd with
    | [d0, d1, d2], _ => exact ⟨rfl, rfl, rfl⟩
  · show OpensA Try.prog Try.f6.params.toList _ R6 b6
    rw [Try.params6]; exact oa6
theorem reportLongest_holds : Rows.ReportLongestSaid :=
  OpenClaim.holds_of_wide 6 Try.f6 rfl rfl rfl rfl rfl rfl rfl ⟨rfl, rfl, rfl, rfl, rfl⟩ rfl rfl rfl rfl rfl (by kernel_rfl) Try.func6 (by kernel_rfl)
    (of_decide_eq_true (by kernel_rfl)) (by unfold Func.isWrapper; first | (rw [if_pos (by decide +kernel)]; kernel_rfl) | (rw [if_neg (by decide +kernel)]; exact ⟨rfl, rfl⟩))
    (fun os started H enc _ => lifted6 os started H enc)
#print axioms reportLongest_holds
end Go.Proofs.Ytiajdaagamhbnaa
