/- The call of SpaceBack returns true for every input, and its arguments read behind it as they read before. -/
import Derived.Test.YtongpnolikkknaaGreatDoorZ4
set_option linter.unusedVariables false
set_option linter.unusedSimpArgs false
set_option linter.unusedSectionVars false
set_option maxRecDepth 20000
set_option maxHeartbeats 4000000
namespace Go.Proofs.YtongpnolikkknaaGreatDoor
open Sh RowKit Go.MapKept
def nowL (U : List Nat) (hd : ByteArray) (F : Int → Option ByteArray) (L : List ByteArray) : List ByteArray := (List.range L.length).map fun (i : Nat) => if i = 0 then firstW U hd else (F (i : Int)).getD (L.getD i ⟨#[]⟩)
theorem nowL_len (U : List Nat) (hd : ByteArray) (F : Int → Option ByteArray) (L : List ByteArray) : (nowL U hd F L).length = L.length := by unfold nowL; simp
theorem nowL_get {U : List Nat} {hd : ByteArray} {F : Int → Option ByteArray} {L : List ByteArray} {i : Nat} (hi : i < L.length) : (nowL U hd F L).getD i ⟨#[]⟩ = if i = 0 then firstW U hd else (F (i : Int)).getD (L.getD i ⟨#[]⟩) := by
  rw [List.getD_eq_getElem?_getD, List.getElem?_eq_getElem (by rw [nowL_len]; exact hi)]
  show (nowL U hd F L)[i]'(by rw [nowL_len]; exact hi) = _
  unfold nowL
  rw [List.getElem_map, List.getElem_range]
theorem nowL_at {U : List Nat} {hd : ByteArray} {F : Int → Option ByteArray} {L : List ByteArray} {i : Nat} (h : i < (nowL U hd F L).length) : (nowL U hd F L)[i] = if i = 0 then firstW U hd else (F (i : Int)).getD (L.getD i ⟨#[]⟩) := by simp [nowL]
theorem nowL_put {U : List Nat} {hd : ByteArray} {F : Int → Option ByteArray} {L : List ByteArray} {n : Nat} {s : ByteArray} (h0 : 0 < n) : nowL U hd (putF F (n : Int) s) L = (nowL U hd F L).set n s := by
  refine List.ext_getElem (by rw [List.length_set, nowL_len, nowL_len]) fun i h1 h2 => ?_
  rw [List.getElem_set, nowL_at, nowL_at]
  by_cases c : n = i
  · subst c
    rw [if_neg (by omega), if_pos rfl]
    unfold putF
    rw [if_pos rfl]; rfl
  · rw [if_neg c]
    by_cases c0 : i = 0
    · rw [if_pos c0, if_pos c0]
    · rw [if_neg c0, if_neg c0]
      unfold putF
      rw [if_neg (by omega)]
theorem nowL_set0 {U U' : List Nat} {hd hd' : ByteArray} {F : Int → Option ByteArray} {L : List ByteArray} : nowL U' hd' F L = (nowL U hd F L).set 0 (firstW U' hd') := by
  refine List.ext_getElem (by rw [List.length_set, nowL_len, nowL_len]) fun i h1 h2 => ?_
  rw [List.getElem_set, nowL_at, nowL_at]
  by_cases c : 0 = i
  · rw [if_pos c.symm, if_pos c]
  · rw [if_neg (by omega), if_neg c, if_neg (by omega)]
theorem nowL_new {L : List ByteArray} (h1 : 1 ≤ L.length) (hs : ∀ s ∈ L, s.size = 256) : nowL (U0 (L.getD 0 ⟨#[]⟩)) ((L.getD 0 ⟨#[]⟩).extract 20 (L.getD 0 ⟨#[]⟩).size) (fun _ => none) L = L := by
  refine List.ext_getElem (nowL_len _ _ _ _) fun i h2 h3 => ?_
  rw [nowL_at]
  by_cases c : i = 0
  · subst c
    rw [if_pos rfl, first_U0 (hs _ (List.mem_of_getElem? (getD_some (by omega)))), List.getD_eq_getElem?_getD, List.getElem?_eq_getElem h3]; rfl
  · rw [if_neg c]
    show L.getD i _ = _
    rw [List.getD_eq_getElem?_getD, List.getElem?_eq_getElem h3]; rfl
structure Rel (X : P8) (U : List Nat) (hd : ByteArray) (F : Int → Option ByteArray) (ov : Bool) (L : List ByteArray) (PN : List Nt) : Prop where
  xo : X.ov = ov
  xn : ov = false → X.now = nowL U hd F L
  xb : ov = false → X.base = L
  xt : ov = false → X.nts = PN.map fun x => nowL x.U x.hd x.F L
def Pg8 (B N : Nat) (w : World) (t c : Nat) (X : P8) (G : Pg) (k : Int) (S : Nat → Prop) : Prop :=
  ∃ mp q mb p b v u U hd F vn PN ov C E D, Pn B N w t c mp q mb p b v u U hd F vn PN ov C E G D ∧ GoodK C.K G.L ∧ HB C (100 * k) ∧ Dg D G k ∧ (∀ s ∈ G.L, s.size = 256) ∧ Rel X U hd F ov G.L PN ∧ (PN.length : Int) ≤ k ∧ ∀ j, S j ↔ fpN t c mp q mb p b v u vn PN E j
theorem FOk.put {N : Nat} {F : Int → Option ByteArray} {n : Int} {s : ByteArray} (h : FOk N F) (h0 : 0 < n) (h1 : n < (N : Int)) (hs : s.size = 256) : FOk N (putF F n s) := by
  intro m x hx
  unfold putF at hx
  split at hx
  · rename_i e
    cases hx
    exact ⟨by omega, by omega, hs⟩
  · exact h m x hx
theorem filt_map {α : Type} {l : List Nat} {a b P : Nat → Bool} {f g : Nat → α} (h : ∀ n ∈ l, P n = (b n && a n)) (hf : ∀ n ∈ l, P n = true → f n = g n) : ((l.filter a).filter b).map f = (l.filter P).map g := by
  induction l with
  | nil => rfl
  | cons n l ih =>
    have ih := ih (fun m hm => h m (List.mem_cons_of_mem _ hm)) fun m hm => hf m (List.mem_cons_of_mem _ hm)
    have h0 := h n (List.mem_cons_self ..)
    have f0 := hf n (List.mem_cons_self ..)
    cases ha : a n with
    | false =>
      rw [ha, Bool.and_false] at h0
      rw [List.filter_cons_of_neg (by rw [ha]; decide), List.filter_cons_of_neg (by rw [h0]; decide)]
      exact ih
    | true =>
      rw [ha, Bool.and_true] at h0
      rw [List.filter_cons_of_pos ha]
      cases hb : b n with
      | false =>
        rw [hb] at h0
        rw [List.filter_cons_of_neg (by rw [hb]; decide), List.filter_cons_of_neg (by rw [h0]; decide)]
        exact ih
      | true =>
        rw [hb] at h0
        rw [List.filter_cons_of_pos hb, List.filter_cons_of_pos h0, List.map_cons, List.map_cons, ih, f0 h0]
section
variable {B N : Nat} {W w w' : World} {t c mp q mb p b m : Nat} {U : List Nat} {hd : ByteArray} {F : Int → Option ByteArray} {vn v u vk va vl : Value} {PN : List Nt} {ov : Bool} {C : Ca} {E : List (Nat × Ch)} {G : Pg} {D : Dv} {Q : Value → World → Prop} {K : Value → M} {X : P8} {k : Int} {S T : Nat → Prop} {L : List ByteArray}
theorem Rel.n0 (h : Rel X U hd F false L PN) (h1 : 1 ≤ L.length) : n0 X = firstW U hd := by
  unfold Go.Proofs.YtongpnolikkknaaGreatDoor.n0
  rw [h.xn rfl, nowL_get (by omega), if_pos rfl]
theorem Rel.thr (h : Rel X U hd F ov L PN) (hU : UOk U) (h1 : 1 ≤ L.length) (n : Int) : thrB U L.length ov n = thr8 X n := by
  unfold thr8
  rw [h.xo]
  cases ov with
  | true => unfold thrB; rw [if_pos rfl, if_pos rfl]
  | false => rw [h.n0 h1, U0_first hU, h.xn rfl, nowL_len]
theorem Rel.rd (h : Rel X U hd F ov L PN) (hU : UOk U) (h1 : 1 ≤ L.length) (n : Int) : rdW U F L ov n = rd8 X n := by
  unfold rdW rd8
  rw [h.thr hU h1]
  by_cases ce : thr8 X n = 0
  · rw [if_neg (fun hn => hn ce), if_neg (fun hn => hn ce)]
    obtain ⟨ho, n0, n1, _⟩ := thr_ok (by rw [h.thr hU h1]; exact ce : thrB U L.length ov n = 0)
    subst ho
    obtain ⟨n, rfl⟩ := Int.eq_ofNat_of_zero_le (show 0 ≤ n by omega)
    rw [Int.toNat_natCast, h.xn rfl, nowL_get (by omega), if_neg (by omega)]
  · rw [if_pos ce, if_pos ce]
theorem range_succ0 (M : Nat) : List.range (M + 1) = 0 :: (List.range M).map Nat.succ := List.range_succ_eq_map
theorem Rel.chs (h : Rel X U hd F false L PN) (hU : UOk U) (hL : L.length = N) (h1 : 1 ≤ N) (fo : FOk N F) : chsD N U hd F L = (ch8 X).map fun (j : Nat) => ((j : Int), X.now.getD j ⟨#[]⟩) := by
  have e0 := h.n0 (by omega)
  have en := h.xn rfl
  have eb := h.xb rfl
  have ech : ch8 X = chL X N := by unfold ch8; rw [if_neg (by rw [h.xo]; intro h; cases h), en, nowL_len, hL]
  rw [ech]
  obtain ⟨M, rfl⟩ : ∃ M, N = M + 1 := ⟨N - 1, by omega⟩
  unfold chsD chL keysF chK
  rw [range_succ0]
  have hF0 : (F ((0 : Nat) : Int)).isSome = false := by
    cases hf : F ((0 : Nat) : Int) with
    | none => rfl
    | some s => exact absurd (fo _ s hf).1 (by decide)
  rw [List.filter_cons_of_neg (by rw [hF0]; decide)]
  have main : ((((List.range M).map Nat.succ).filter fun (i : Nat) => (F (i : Int)).isSome).filter (cK U F L)).map (fun (n : Nat) => ((n : Int), fG F (n : Int))) = (((List.range M).map Nat.succ).filter (chP X)).map fun (j : Nat) => ((j : Int), X.now.getD j ⟨#[]⟩) := by
    have hmem : ∀ n ∈ (List.range M).map Nat.succ, 0 < n ∧ n < L.length := fun n hn => by
      obtain ⟨i, hi, rfl⟩ := List.mem_map.1 hn
      have := List.mem_range.1 hi
      exact ⟨Nat.succ_pos _, by rw [hL]; exact Nat.succ_lt_succ this⟩
    have hP : ∀ n ∈ (List.range M).map Nat.succ, chP X n = (cK U F L n && (F (n : Int)).isSome) := fun n hn => by
      obtain ⟨a0, a1⟩ := hmem n hn
      unfold chP cK fG
      rw [e0, U0_first hU, en, eb, nowL_get a1, if_neg (by omega), decide_eq_false (show ¬ n = 0 by omega), Bool.false_or]
      cases F (n : Int) with
      | none =>
        show (isB U n && decide (L.getD n ⟨#[]⟩ ≠ L.getD n ⟨#[]⟩)) = _
        rw [decide_eq_false (fun hne => hne rfl)]
        simp
      | some s =>
        show (isB U n && decide (s ≠ L.getD n ⟨#[]⟩)) = ((isB U n && decide (L.getD n ⟨#[]⟩ ≠ s)) && true)
        rw [Bool.and_true]
        congr 1
        exact decide_eq_decide.2 ⟨fun h e => h e.symm, fun h e => h e.symm⟩
    refine filt_map hP fun n hn hp => ?_
    obtain ⟨a0, a1⟩ := hmem n hn
    rw [hP n hn] at hp
    unfold fG
    rw [en, nowL_get a1, if_neg (by omega)]
    cases hf : F (n : Int) with
    | none => rw [hf] at hp; simp at hp
    | some s => rfl
  rw [main]
  have hP0 : chP X 0 = decide (L.getD 0 ⟨#[]⟩ ≠ firstW U hd) := by
    unfold chP
    rw [decide_eq_true rfl, Bool.true_or, Bool.true_and, en, eb, nowL_get (by omega), if_pos rfl]
    exact decide_eq_decide.2 ⟨fun h e => h e.symm, fun h e => h e.symm⟩
  unfold ch0
  by_cases hc : L.getD 0 ⟨#[]⟩ = firstW U hd
  · rw [if_neg (fun hn => hn hc)]
    rw [decide_eq_false (fun hn => hn hc)] at hP0
    rw [List.filter_cons_of_neg (by rw [hP0]; decide)]; rfl
  · rw [if_pos hc]
    rw [decide_eq_true hc] at hP0
    rw [List.filter_cons_of_pos hP0, List.map_cons, en, nowL_get (by omega), if_pos rfl]; rfl
theorem Pg8.lt (h : Pg8 B N w t c X G k S) : ∀ j, S j → B ≤ j ∧ j < w.heap.size := by
  obtain ⟨mp, q, mb, p, b, v, u, U, hd, F, vn, PN, ov, C, E, D, h1, h2, h3, h4, h5, h6, h7, h8⟩ := h
  exact fun j hj => h1.lt j ((h8 j).1 hj)
theorem HB.mono {k k' : Int} (h : HB C k) (hk : k ≤ k') : HB C k' := by unfold HB at h ⊢; omega
theorem Pg8.mono (h : Pg8 B N w t c X G k S) {k' : Int} (hk : k ≤ k') : Pg8 B N w t c X G k' S := by
  obtain ⟨mp, q, mb, p, b, v, u, U, hd, F, vn, PN, ov, C, E, D, h1, h2, h3, h4, h5, h6, h7, h8⟩ := h
  exact ⟨mp, q, mb, p, b, v, u, U, hd, F, vn, PN, ov, C, E, D, h1, h2, h3.mono (by omega), h4.mono hk, h5, h6, by omega, h8⟩
theorem Pg8.chg (h : Pg8 B N w t c X G k S) (hc : ChgS T w w') (hT : ∀ j, S j → ¬ T j) : Pg8 B N w' t c X G k S := by
  obtain ⟨mp, q, mb, p, b, v, u, U, hd, F, vn, PN, ov, C, E, D, h1, h2, h3, h4, h5, h6, h7, h8⟩ := h
  exact ⟨mp, q, mb, p, b, v, u, U, hd, F, vn, PN, ov, C, E, D, h1.chg hc fun j hj => hT j ((h8 j).2 hj), h2, h3, h4, h5, h6, h7, h8⟩
theorem Pg8.below (h : Pg8 B N w t c X G k S) (hb : Below w.heap.size w w') : Pg8 B N w' t c X G k S := h.chg (T := fun _ => False) (ChgS.of_below hb) fun _ _ hf => hf
theorem Pg8.read {n : Int} (h : Pg8 B N w t c X G k S) (h1 : 1 ≤ N) (hN : N ≤ 40) (k0 : 0 ≤ k) (k1 : k ≤ 3000)
    (kk : ∀ w' S', Pg8 B N w' t c X G (k + 1) S' → (∀ j, S' j → S j ∨ w.heap.size ≤ j) → ChgS S w w' → Q (.tuple #[.string (rd8 X n).1, .int .i64 (rd8 X n).2]) w') : f65 (pv t) (.int .i64 n) w Q := by
  obtain ⟨mp, q, mb, p, b, v, u, U, hd, F, vn, PN, ov, C, E, D, a1, a2, a3, a4, a5, a6, a7, a8⟩ := h
  have gl := a1.gl
  refine f65_s a1.wk (by omega) a2 a3 (by omega) fun w2 C2 E2 hw hg hb hE hc => ?_
  rw [a6.rd a1.wk.wk.ok (by omega)]
  have hp := a1.step hw a1.hh a1.fo gl hE (hc.mono fun j hj => .inl hj)
  refine kk w2 (fpN t c mp q mb p b v u vn PN E2) ⟨mp, q, mb, p, b, v, u, U, hd, F, vn, PN, ov, C2, E2, D, hp, hg, hb.mono (by omega), a4.mono (by omega), a5, a6, by omega, fun j => Iff.rfl⟩ (fun j hj => ?_) (hc.mono fun j hj => (a8 j).2 (.inl hj))
  rcases hj with hj | hj
  · rcases hE j hj with hj | hj
    · exact .inl ((a8 j).2 (.inl hj))
    · exact .inr hj
  · exact .inl ((a8 j).2 (.inr hj))
theorem Pg8.write {n : Int} {s : ByteArray} (h : Pg8 B N w t c X G k S) (h1 : 1 ≤ N) (hN : N ≤ 40) (k0 : 0 ≤ k) (k1 : k ≤ 3000)
    (kk : ∀ w' S', Pg8 B N w' t c (wrX X n s) G (k + 1) S' → (∀ j, S' j → S j ∨ w.heap.size ≤ j) → ChgS S w w' → Q (.int .i64 (wrE X n s)) w') : f67 (pv t) (.int .i64 n) (.string s) w Q := by
  have hmono := h.mono (show k ≤ k + 1 by omega)
  obtain ⟨mp, q, mb, p, b, v, u, U, hd, F, vn, PN, ov, C, E, D, a1, a2, a3, a4, a5, a6, a7, a8⟩ := h
  have gl := a1.gl
  have ht := a6.thr a1.wk.wk.ok (by omega) n
  refine f67_s a1.wk (by omega) (fun hne w2 b2 => ?_) (fun he hs w2 b2 => ?_) (fun he hs w2 hw hc => ?_)
  · rw [ht] at hne ⊢
    have e1 := wrE_1 (s := s) hne
    rw [← e1]
    rw [wrX_1 (by rw [e1]; exact hne)] at kk
    exact kk w2 S (hmono.below b2) (fun j hj => .inl hj) (ChgS.of_below b2)
  · rw [ht] at he
    have e1 := wrE_2 he hs
    rw [wrX_1 (by rw [e1]; decide), e1] at kk
    exact kk w2 S (hmono.below b2) (fun j hj => .inl hj) (ChgS.of_below b2)
  · obtain ⟨ho, n0, n1, _⟩ := thr_ok he
    rw [ht] at he
    have e1 := wrE_0 he hs
    rw [wrX_0 e1, e1] at kk
    subst ho
    obtain ⟨n, rfl⟩ := Int.eq_ofNat_of_zero_le (show 0 ≤ n by omega)
    rw [Int.toNat_natCast] at kk
    have hp := a1.step hw a1.hh (a1.fo.put n0 (by omega) hs) gl (fun j hj => .inl hj) (hc.mono fun j hj => .inr hj)
    refine kk w2 S ⟨mp, q, mb, p, b, v, u, U, hd, _, vn, PN, false, C, E, D, hp, a2, a3.mono (by omega), a4.mono (by omega), a5, ⟨a6.xo, fun _ => ?_, a6.xb, a6.xt⟩, by omega, a8⟩ (fun j hj => .inl hj) (hc.mono fun j hj => (a8 j).2 (.inr (.inl hj)))
    show X.now.set n s = _
    rw [a6.xn rfl, nowL_put (by omega)]
theorem Pg8.drop {n : Int} (h : Pg8 B N w t c X G k S) (h1 : 1 ≤ N) (hN : N ≤ 40) (k0 : 0 ≤ k) (k1 : k ≤ 3000)
    (kk : ∀ w' S', Pg8 B N w' t c (drX X n) G (k + 1) S' → (∀ j, S' j → S j ∨ w.heap.size ≤ j) → ChgS S w w' → Q (.int .i64 (thr8 X n)) w') : f20 (pv t) (.int .i64 n) w Q := by
  have hmono := h.mono (show k ≤ k + 1 by omega)
  obtain ⟨mp, q, mb, p, b, v, u, U, hd, F, vn, PN, ov, C, E, D, a1, a2, a3, a4, a5, a6, a7, a8⟩ := h
  have gl := a1.gl
  have ht := a6.thr a1.wk.wk.ok (by omega) n
  refine f20_s a1.wk (by omega) (fun hne w2 b2 => ?_) (fun he w2 hw hc => ?_)
  · rw [ht] at hne ⊢
    rw [drX_1 hne] at kk
    exact kk w2 S (hmono.below b2) (fun j hj => .inl hj) (ChgS.of_below b2)
  · obtain ⟨ho, n0, n1, _⟩ := thr_ok he
    rw [ht] at he
    rw [drX_0 he, he] at kk
    subst ho
    have hp := a1.step hw a1.hh a1.fo gl (fun j hj => .inl hj) (hc.mono fun j hj => .inr hj)
    refine kk w2 S ⟨mp, q, mb, p, b, v, u, _, hd, _, vn, PN, false, C, E, D, hp, a2, a3.mono (by omega), a4.mono (by omega), a5, ⟨a6.xo, fun _ => ?_, a6.xb, a6.xt⟩, by omega, a8⟩ (fun j hj => .inl hj) (hc.mono fun j hj => (a8 j).2 (.inr (.inl hj)))
    show X.now.set 0 (trnS (Go.Proofs.YtongpnolikkknaaGreatDoor.n0 X) n.toNat) = _
    rw [a6.n0 (by omega), trnS_first a1.wk.wk.ok, a6.xn rfl]
    exact (nowL_set0 (U := U) (hd := hd)).symm
theorem Pg8.take (h : Pg8 B N w t c X G k S) (h1 : 1 ≤ N) (hN : N ≤ 40) (k0 : 0 ≤ k) (k1 : k ≤ 3000)
    (k13 : X.ov = true → Pg8 B N w t c X G (k + 1) S → Q (.tuple #[.int .i64 0, .int .i64 13]) w)
    (kf : X.ov = false → ∀ n, Fre (U0 (n0 X)) N n → ∀ w' S', Pg8 B N w' t c (tkX X n) G (k + 1) S' → (∀ j, S' j → S j ∨ w.heap.size ≤ j) → ChgS S w w' → Q (.tuple #[.int .i64 ((n : Nat) : Int), .int .i64 0]) w')
    (k8 : X.ov = false → (∀ j, 1 ≤ j → j < N → isB (U0 (n0 X)) j = true) → ∀ w' S', Pg8 B N w' t c X G (k + 1) S' → (∀ j, S' j → S j ∨ w.heap.size ≤ j) → ChgS S w w' → Q (.tuple #[.int .i64 0, .int .i64 8]) w') : f18 (pv t) w Q := by
  have hmono := h.mono (show k ≤ k + 1 by omega)
  obtain ⟨mp, q, mb, p, b, v, u, U, hd, F, vn, PN, ov, C, E, D, a1, a2, a3, a4, a5, a6, a7, a8⟩ := h
  have gl := a1.gl
  refine f18_s a1.wk (by omega) (fun ho => k13 (a6.xo.trans ho) hmono) (fun ho n n1 n2 nf nall w2 hw hc => ?_) (fun ho nall w2 b2 => ?_)
  · subst ho
    have hU : U0 (Go.Proofs.YtongpnolikkknaaGreatDoor.n0 X) = U := by rw [a6.n0 (by omega), U0_first a1.wk.wk.ok]
    have hp := a1.step hw a1.hh (a1.fo.put (by omega) (by omega) (zs_size 256)) gl (fun j hj => .inl hj) (hc.mono fun j hj => .inr hj)
    refine kf a6.xo n ⟨n1, by omega, by rw [hU]; exact nf, by rw [hU]; exact nall⟩ w2 S ⟨mp, q, mb, p, b, v, u, _, hd, _, vn, PN, false, C, E, D, hp, a2, a3.mono (by omega), a4.mono (by omega), a5, ⟨a6.xo, fun _ => ?_, a6.xb, a6.xt⟩, by omega, a8⟩ (fun j hj => .inl hj) (hc.mono fun j hj => (a8 j).2 (.inr (.inl hj)))
    show (X.now.set 0 (trnS (Go.Proofs.YtongpnolikkknaaGreatDoor.n0 X) n)).set n (zs 256) = _
    rw [a6.n0 (by omega), trnS_first a1.wk.wk.ok, a6.xn rfl, nowL_put (by omega)]
    exact congrArg (·.set n (zs 256)) (nowL_set0 (U := U) (hd := hd)).symm
  · subst ho
    have hU : U0 (Go.Proofs.YtongpnolikkknaaGreatDoor.n0 X) = U := by rw [a6.n0 (by omega), U0_first a1.wk.wk.ok]
    exact k8 a6.xo (by rw [hU]; intro j j1 j2; exact nall j j1 (by omega)) w2 S (hmono.below b2) (fun j hj => .inl hj) (ChgS.of_below b2)
theorem Pg8.head (h : Pg8 B N w t c X G k S) (h1 : 1 ≤ N) (kk : Q (.string (hd8 X)) w) : f60 (pv t) w Q := by
  obtain ⟨mp, q, mb, p, b, v, u, U, hd, F, vn, PN, ov, C, E, D, a1, a2, a3, a4, a5, a6, a7, a8⟩ := h
  refine f60_s a1.wk.wk ?_
  have gl := a1.gl
  unfold hd8 at kk
  rw [a6.xo] at kk
  cases ov with
  | true =>
    rw [if_pos rfl] at kk ⊢
    exact kk
  | false =>
    rw [if_neg (by decide), a6.n0 (by omega), ext_first a1.wk.wk.ok] at kk
    rw [if_neg (by decide)]
    exact kk
theorem Pg8.setHead {s : ByteArray} (h : Pg8 B N w t c X G k S) (h1 : 1 ≤ N) (k0 : 0 ≤ k)
    (kk : ∀ w' S', Pg8 B N w' t c (shX X s) G (k + 1) S' → (∀ j, S' j → S j ∨ w.heap.size ≤ j) → ChgS S w w' → Q (.int .i64 (shE X s)) w') : f68 (pv t) (.string s) w Q := by
  have hmono := h.mono (show k ≤ k + 1 by omega)
  obtain ⟨mp, q, mb, p, b, v, u, U, hd, F, vn, PN, ov, C, E, D, a1, a2, a3, a4, a5, a6, a7, a8⟩ := h
  have gl := a1.gl
  refine f68_s a1.wk (fun ho => ?_) (fun ho hs => ?_) (fun ho hs w2 hw hc => ?_)
  · have e1 := shE_13 (s := s) (a6.xo.trans ho)
    rw [shX_1 (by rw [e1]; decide), e1] at kk
    exact kk w S hmono (fun j hj => .inl hj) (ChgS.refl _ _)
  · have e1 := shE_3 (s := s) (a6.xo.trans ho) hs
    rw [shX_1 (by rw [e1]; decide), e1] at kk
    exact kk w S hmono (fun j hj => .inl hj) (ChgS.refl _ _)
  · have e1 := shE_0 (s := s) (a6.xo.trans ho) hs
    rw [shX_0 e1, e1] at kk
    subst ho
    have hp := a1.step hw (by rw [ByteArray.size_append, zs_size]; omega) a1.fo gl (fun j hj => .inl hj) (hc.mono fun j hj => .inr hj)
    refine kk w2 S ⟨mp, q, mb, p, b, v, u, _, _, _, vn, PN, false, C, E, D, hp, a2, a3.mono (by omega), a4.mono (by omega), a5, ⟨a6.xo, fun _ => ?_, a6.xb, a6.xt⟩, by omega, a8⟩ (fun j hj => .inl hj) (hc.mono fun j hj => (a8 j).2 (.inr (.inl hj)))
    show X.now.set 0 ((Go.Proofs.YtongpnolikkknaaGreatDoor.n0 X).extract 0 20 ++ s ++ zs (236 - s.size)) = _
    rw [a6.n0 (by omega), head_first a1.wk.wk.ok, ByteArray.append_assoc, a6.xn rfl]
    exact (nowL_set0 (U := U) (hd := hd)).symm
theorem Pg8.save (h : Pg8 B N w t c X G k S) (h1 : 1 ≤ N) (k0 : 0 ≤ k) (k1 : k ≤ 3000) (hB : B ≤ w.heap.size)
    (kk : ∀ w' S', Pg8 B N w' t c (svX X) G (k + 1) S' → (∀ j, S' j → S j ∨ w.heap.size ≤ j) → ChgS S w w' → Q (.int .i64 (svE X)) w') : f64 (pv t) w Q := by
  have hmono := h.mono (show k ≤ k + 1 by omega)
  obtain ⟨mp, q, mb, p, b, v, u, U, hd, F, vn, PN, ov, C, E, D, a1, a2, a3, a4, a5, a6, a7, a8⟩ := h
  have gl := a1.gl
  refine f64_s a1 hB (by omega) (fun ho => ?_) (fun ho w2 vn2 m2 hp fr zm hc => ?_)
  · have e1 : svE X = 0 := by unfold svE; rw [if_pos (a6.xo.trans ho)]
    have e2 : svX X = X := by unfold svX; rw [if_pos (a6.xo.trans ho)]
    rw [e1, e2] at kk
    exact kk w S hmono (fun j hj => .inl hj) (ChgS.refl _ _)
  · have hov : ¬ X.ov = true := by rw [a6.xo, ho]; intro h; cases h
    have e1 : svE X = (PN.length : Nat) := by
      unfold svE
      rw [if_neg hov, a6.xt ho, List.length_map]
    have e2 : svX X = { X with nts := X.nts ++ [X.now] } := by unfold svX; rw [if_neg hov]
    rw [e1, e2] at kk
    refine kk w2 (fpN t c mp q mb p b v u vn2 (PN ++ [⟨U, hd, m2, F⟩]) E) ⟨mp, q, mb, p, b, v, u, U, hd, F, vn2, _, ov, C, E, D, hp, a2, a3.mono (by omega), a4.mono (by omega), a5, ⟨a6.xo, a6.xn, a6.xb, fun ho => ?_⟩, by rw [List.length_append]; simp only [List.length_cons, List.length_nil]; omega, fun j => Iff.rfl⟩ (fun j hj => ?_) (hc.mono fun j hj => ?_)
    · show X.nts ++ [X.now] = _
      rw [List.map_append, ← a6.xt ho, a6.xn ho]; rfl
    · rcases hj with hj | hj | hj | ⟨x, hx, hj⟩
      · exact .inl ((a8 j).2 (.inl hj))
      · exact .inl ((a8 j).2 (.inr (.inl hj)))
      · rcases fr j hj with hj | hj
        · exact .inl ((a8 j).2 (.inr (.inr (.inl hj))))
        · exact .inr hj
      · rcases List.mem_append.1 hx with hx | hx
        · exact .inl ((a8 j).2 (.inr (.inr (.inr ⟨x, hx, hj⟩))))
        · rw [List.mem_singleton.1 hx] at hj
          have hj : m2 = j := hj
          exact .inr (by omega)
    · rcases hj with hj | hj
      · exact (a8 j).2 (.inr (.inl (.inl hj)))
      · exact (a8 j).2 (.inr (.inr (.inl hj)))
theorem Pg8.back {n : Int} (h : Pg8 B N w t c X G k S) (h1 : 1 ≤ N) (k0 : 0 ≤ k) (k1 : k ≤ 3000) (hB : B ≤ w.heap.size)
    (kk : ∀ w' S', Pg8 B N w' t c (bkX X n) G (k + 1) S' → (∀ j, S' j → S j ∨ w.heap.size ≤ j) → ChgS S w w' → Q (.int .i64 (bkE X n)) w') : f66 (pv t) (.int .i64 n) w Q := by
  have hmono := h.mono (show k ≤ k + 1 by omega)
  obtain ⟨mp, q, mb, p, b, v, u, U, hd, F, vn, PN, ov, C, E, D, a1, a2, a3, a4, a5, a6, a7, a8⟩ := h
  have gl := a1.gl
  refine f66_s a1 hB (by omega) (fun ho => ?_) (fun ho hn => ?_) (fun ho i hi e w2 vn2 m2 hp eb zm hc => ?_)
  · have e1 := bkE_13 (k := n) (a6.xo.trans ho)
    rw [bkX_1 (by rw [e1]; decide), e1] at kk
    exact kk w S hmono (fun j hj => .inl hj) (ChgS.refl _ _)
  · have e1 := bkE_7 (k := n) (a6.xo.trans ho) (by rw [a6.xt ho, List.length_map]; exact hn)
    rw [bkX_1 (by rw [e1]; decide), e1] at kk
    exact kk w S hmono (fun j hj => .inl hj) (ChgS.refl _ _)
  · subst e
    have hnl : X.nts.length = PN.length := by rw [a6.xt ho, List.length_map]
    have e1 := bkE_0 (k := (i : Int)) (a6.xo.trans ho) (by omega) (by omega)
    rw [bkX_0 e1, e1, Int.toNat_natCast] at kk
    refine kk w2 (fpN t c m2 q mb p b v u vn2 (PN.take (i + 1)) E) ⟨m2, q, mb, p, b, v, u, _, _, _, vn2, _, ov, C, E, D, hp, a2, a3.mono (by omega), a4.mono (by omega), a5, ⟨a6.xo, fun ho => ?_, a6.xb, fun ho => ?_⟩, by rw [List.length_take]; omega, fun j => Iff.rfl⟩ (fun j hj => ?_) (hc.mono fun j hj => (a8 j).2 (.inr (.inl (.inl hj))))
    · show X.nts.getD i [] = _
      rw [a6.xt ho, List.getD_eq_getElem?_getD, List.getElem?_map, List.getElem?_eq_getElem hi]; rfl
    · show X.nts.take (i + 1) = _
      rw [a6.xt ho, List.map_take]
    · rcases hj with hj | (hj | hj) | hj | ⟨x, hx, hj⟩
      · exact .inl ((a8 j).2 (.inl hj))
      · exact .inl ((a8 j).2 (.inr (.inl (.inl hj))))
      · have hj : j = m2 := hj
        exact .inr (by omega)
      · exact .inl ((a8 j).2 (.inr (.inr (.inl (by rw [← eb]; exact hj)))))
      · exact .inl ((a8 j).2 (.inr (.inr (.inr ⟨x, List.mem_of_mem_take hx, hj⟩))))
theorem Pg8.used (h : Pg8 B N w t c X G k S) (h1 : 1 ≤ N) (hN : N ≤ 40) (kk : ∀ w', Pg8 B N w' t c X G k S → Below w.heap.size w w' → Q (.int .i64 ((us8 X : Nat) : Int)) w') : f19 (pv t) w Q := by
  have h0 := h
  obtain ⟨mp, q, mb, p, b, v, u, U, hd, F, vn, PN, ov, C, E, D, a1, a2, a3, a4, a5, a6, a7, a8⟩ := h
  have gl := a1.gl
  unfold us8 at kk
  refine f19_s a1.wk (by omega) (fun ho => ?_) (fun ho w2 b2 => ?_)
  · rw [if_pos (a6.xo.trans ho)] at kk
    exact kk w h0 (Below.refl _ _)
  · subst ho
    have hU : U0 (Go.Proofs.YtongpnolikkknaaGreatDoor.n0 X) = U := by rw [a6.n0 (by omega), U0_first a1.wk.wk.ok]
    rw [if_neg (by rw [a6.xo]; decide), hU, a6.xn rfl, nowL_len] at kk
    exact kk w2 (h0.below b2) b2
theorem Pg8.changed (h : Pg8 B N w t c X G k S) (h1 : 1 ≤ N) (hN : N ≤ 40) (k0 : 0 ≤ k) (k1 : k ≤ 3000) (hB : B ≤ w.heap.size)
    (kk : ∀ w' S' v', Pg8 B N w' t c X G (k + 1) S' → (∀ j, S' j → S j ∨ w.heap.size ≤ j) → ChgS S w w' → ownI w.heap.size 3 .i64 w' v' ((ch8 X).map fun (j : Nat) => (j : Int)) → (∀ g, v'.ownBlock = some g → ¬ S' g) → Q v' w') : f62 (pv t) w Q := by
  have hmono := h.mono (show k ≤ k + 1 by omega)
  have hlt := h.lt
  obtain ⟨mp, q, mb, p, b, v, u, U, hd, F, vn, PN, ov, C, E, D, a1, a2, a3, a4, a5, a6, a7, a8⟩ := h
  have gl := a1.gl
  refine f62_s a1.wk gl h1 (by omega) a1.fo (by have := a1.hh; omega) a2 a3 (by omega) hB (fun ho => ?_) (fun ho w2 C2 E2 vl hw hg hb hE hc o2 s2 => ?_)
  · have e1 : ch8 X = [] := by unfold ch8; rw [if_pos (a6.xo.trans ho)]
    rw [e1] at kk
    exact kk w S _ hmono (fun j hj => .inl hj) (ChgS.refl _ _) ownI_nil fun g hg => by cases hg
  · subst ho
    have hp := a1.step hw a1.hh a1.fo gl hE (hc.mono fun j hj => .inl hj)
    have ec := a6.chs a1.wk.wk.ok gl h1 a1.fo
    rw [ec, List.map_map] at o2
    refine kk w2 (fpN t c mp q mb p b v u vn PN E2) vl ⟨mp, q, mb, p, b, v, u, U, hd, F, vn, PN, false, C2, E2, D, hp, hg, hb.mono (by omega), a4.mono (by omega), a5, a6, by omega, fun j => Iff.rfl⟩ (fun j hj => ?_) (hc.mono fun j hj => (a8 j).2 (.inl hj)) o2 fun g hg hn => ?_
    · rcases hj with hj | hj
      · rcases hE j hj with hj | hj
        · exact .inl ((a8 j).2 (.inl hj))
        · exact .inr hj
      · exact .inl ((a8 j).2 (.inr hj))
    · rcases hn with hn | hn
      · exact s2 g hg hn
      · have := (hlt g ((a8 g).2 (.inr hn))).2
        have := (ownI_lt o2 g hg).1
        omega
theorem Pg8.commit (h : Pg8 B N w t c X G k S) (h1 : 1 ≤ N) (hN : N ≤ 40) (k0 : 0 ≤ k) (k1 : k ≤ 3000) (hB : B ≤ w.heap.size)
    (kk : ∀ w' S' G', Pg8 B N w' t c (cmX X) G' (k + 1) S' → G'.L = cmL X G.L → (∀ j, S' j → S j ∨ w.heap.size ≤ j) → ChgS S w w' → Q (.int .i64 (cmE8 X)) w') : f69 (pv t) w Q := by
  have hmono := h.mono (show k ≤ k + 1 by omega)
  obtain ⟨mp, q, mb, p, b, v, u, U, hd, F, vn, PN, ov, C, E, D, a1, a2, a3, a4, a5, a6, a7, a8⟩ := h
  have gl := a1.gl
  have fpS : ∀ E2, (∀ j, fpX c q mb p b v u E2 j → fpX c q mb p b v u E j ∨ w.heap.size ≤ j) → ∀ j, fpN t c mp q mb p b v u vn PN E2 j → S j ∨ w.heap.size ≤ j := fun E2 hE j hj => by
    rcases hj with hj | hj
    · rcases hE j hj with hj | hj
      · exact .inl ((a8 j).2 (.inl hj))
      · exact .inr hj
    · exact .inl ((a8 j).2 (.inr hj))
  have fpC : ∀ {w2}, ChgS (fun j => fpX c q mb p b v u E j ∨ fpW t mp j) w w2 → ChgS S w w2 := fun hc => hc.mono fun j hj => by
    rcases hj with hj | hj
    · exact (a8 j).2 (.inl hj)
    · exact (a8 j).2 (.inr (.inl hj))
  refine f69_s a1 h1 (by omega) a2 a3 (by omega) a4 k1 hB (fun ho => ?_) (fun ho hl w2 C2 E2 hp hg hb hE hc => ?_) (fun ho hl w2 C2 E2 G2 D2 hp eL hg hb hd2 hE hc => ?_)
  · have e1 : cmE8 X = 13 := by unfold cmE8; rw [if_pos (a6.xo.trans ho)]
    have e2 : cmX X = X := by unfold cmX; rw [if_neg (by rw [e1]; decide)]
    have e3 : cmL X G.L = G.L := by unfold cmL; rw [if_neg (by rw [e1]; decide)]
    rw [e1, e2, e3] at kk
    exact kk w S G hmono rfl (fun j hj => .inl hj) (ChgS.refl _ _)
  · subst ho
    rw [a6.chs a1.wk.wk.ok gl h1 a1.fo, List.length_map] at hl
    have hov : ¬ X.ov = true := by rw [a6.xo]; intro h; cases h
    have e1 : cmE8 X = 3 := by unfold cmE8; rw [if_neg hov, if_pos hl]
    have e2 : cmX X = X := by unfold cmX; rw [if_neg (by rw [e1]; decide)]
    have e3 : cmL X G.L = G.L := by unfold cmL; rw [if_neg (by rw [e1]; decide)]
    rw [e1, e2, e3] at kk
    exact kk w2 (fpN t c mp q mb p b v u vn PN E2) G ⟨mp, q, mb, p, b, v, u, U, hd, F, vn, PN, false, C2, E2, D, hp, hg, hb.mono (by omega), a4.mono (by omega), a5, a6, by omega, fun j => Iff.rfl⟩ rfl (fpS E2 hE) (fpC hc)
  · subst ho
    have ech := a6.chs a1.wk.wk.ok gl h1 a1.fo
    have hl' : (ch8 X).length ≤ 31 := by rw [ech, List.length_map] at hl; exact hl
    have hov : ¬ X.ov = true := by rw [a6.xo]; intro h; cases h
    have e1 : cmE8 X = 0 := by unfold cmE8; rw [if_neg hov, if_neg (by omega)]
    have e2 : cmX X = { X with ov := true } := by unfold cmX; rw [if_pos e1]
    have e3 : cmL X G.L = setL G.L (chsD N U hd F G.L) := by unfold cmL; rw [if_pos e1, stD_setL, ech]
    rw [e1, e2, e3] at kk
    have hsz := setL_sz (cs := chsD N U hd F G.L) a5 (chs_ok a1.wk.wk.ok a1.hh a1.fo h1 G.L).2.2
    exact kk w2 (fpN t c mp q mb p b v u vn PN E2) G2 ⟨mp, q, mb, p, b, v, u, U, hd, F, vn, PN, true, C2, E2, D2, hp, hg, hb.mono (by omega), hd2, by rw [eL]; exact hsz, ⟨rfl, (fun h => by cases h), (fun h => by cases h), (fun h => by cases h)⟩, by omega, fun j => Iff.rfl⟩ eL (fpS E2 hE) (fpC hc)
/-- work begun -/
theorem pg8_new (hw : Wk B w t c mp q mb p b v u (U0 (G.L.getD 0 ⟨#[]⟩)) ((G.L.getD 0 ⟨#[]⟩).extract 20 (G.L.getD 0 ⟨#[]⟩).size) (fun _ => none) (.slice none 0 0) false C E G D) (hg : GoodK C.K G.L) (hb : HB C (100 * k)) (hd' : Dg D G k) (hs : ∀ s ∈ G.L, s.size = 256) (gl : G.L.length = N) (h1 : 1 ≤ N) (k0 : 0 ≤ k) :
    ∃ S, Pg8 B N w t c ⟨G.L, G.L, [], false⟩ G k S ∧ ∀ j, S j ↔ (fpX c q mb p b v u E j ∨ fpW t mp j) := by
  have h0 := hs _ (List.mem_of_getElem? (getD_some (L := G.L) (n := 0) (by omega)))
  refine ⟨fpN t c mp q mb p b v u (.slice none 0 0) [] E, ⟨mp, q, mb, p, b, v, u, _, _, _, _, [], false, C, E, D, ⟨hw, ?_, (fun n s h => by cases h), gl, ownE_nil, (fun x hx => by simp at hx), (fun g hg => by cases hg)⟩, hg, hb, hd', hs, ⟨rfl, fun _ => ?_, fun _ => rfl, fun _ => rfl⟩, by simpa using k0, fun j => Iff.rfl⟩, fun j => ⟨fun hj => ?_, fun hj => ?_⟩⟩
  · rw [ByteArray.size_extract]; omega
  · exact (nowL_new (by omega) hs).symm
  · rcases hj with hj | hj | hj | ⟨x, hx, hj⟩
    · exact .inl hj
    · exact .inr hj
    · cases hj
    · simp at hx
  · rcases hj with hj | hj
    · exact .inl hj
    · exact .inr (.inl hj)
theorem Pg8.begin (h : Pg8 B N w t c X G k S) (h1 : 1 ≤ N) (hN : N ≤ 40) (k0 : 0 ≤ k) (k1 : k ≤ 3000)
    (kk : ∀ w' t' S', Pg8 B N w' t' c ⟨G.L, G.L, [], false⟩ G (k + 1) S' → (∀ j, S' j → S j ∨ w.heap.size ≤ j) → ChgS S w w' → Q (.tuple #[pv t', .int .i64 0]) w') : f16 (pv c) w Q := by
  obtain ⟨mp, q, mb, p, b, v, u, U, hd, F, vn, PN, ov, C, E, D, a1, a2, a3, a4, a5, a6, a7, a8⟩ := h
  have gl := a1.gl
  obtain ⟨b1, b2, b3, b4⟩ := a3
  refine begin_s a1.wk.cp a2 a5 (by omega) b1 (by omega) b3 (by omega) fun w2 t2 mp2 E2 hw hg hE hc zt zm => ?_
  obtain ⟨S2, hp, hS⟩ := pg8_new (k := k + 1) hw hg (HB.mono (k := 100 * k + 1) (rdC_bd ⟨b1, b2, b3, b4⟩) (show 100 * k + 1 ≤ 100 * (k + 1) by omega)) (a4.mono (by omega)) a5 gl h1 (by omega)
  refine kk w2 t2 S2 hp (fun j hj => ?_) (hc.mono fun j hj => (a8 j).2 (.inl hj))
  rcases (hS j).1 hj with hj | hj | hj
  · rcases hE j hj with hj | hj
    · exact .inl ((a8 j).2 (.inl hj))
    · exact .inr hj
  · have hj : j = t2 := hj
    exact .inr (by omega)
  · have hj : j = mp2 := hj
    exact .inr (by omega)
theorem Pg8.pages (h : Pg8 B N w t c X G k S) (kk : Q (.int .i64 ((N : Nat) : Int)) w) : f28 (pv c) w Q := by
  obtain ⟨mp, q, mb, p, b, v, u, U, hd, F, vn, PN, ov, C, E, D, a1, a2, a3, a4, a5, a6, a7, a8⟩ := h
  refine a1.wk.pages ?_
  rw [a1.gl]
  exact kk
end
end Go.Proofs.YtongpnolikkknaaGreatDoor

set_option maxRecDepth 20000
set_option maxHeartbeats 4000000
namespace Go.Proofs.YtongpnolikkknaaGreatDoor
open Sh RowKit Go.MapKept
structure Op8 where
  k : Int
  n : Int
  b : Int
def oOp8 : RepT Op8 := fun _ cs x => cs = [.int .i64 x.k, .int .i64 x.n, .int .u8 x.b]
theorem oOp8_st : Stable oOp8 := fun _ _ _ _ _ h => h
theorem buildW8 (p1 : Option Addr) (l1 c1 : Nat) (p2 : Option Addr) (l2 c2 : Nat) (w : World) : (Instr.build 151 #[(0, .slice p1 l1 c1), (1, .slice p2 l2 c2)]).run Tryz.prog w = .ok (.agg #[.slice p1 l1 c1, .slice p2 l2 c2, .slice none 0 0, .bool false]) w := by
  kernel_rfl
structure Nk (X : P8) (N : Nat) (k : Int) : Prop where
  le : (X.nts.length : Int) ≤ k
  nl : ∀ l ∈ X.nts, l.length = N ∧ ∀ s ∈ l, s.size = 256
structure Bt (B N : Nat) (w : World) (x c t rp r : Nat) (up vb vn vo : Value) (vs : List Value) (X : P8) (M : List (List ByteArray)) (G : Pg) (k : Int) (S : Nat → Prop) : Prop where
  xB : B ≤ x
  hx : w.heap[x]? = some (.cells #[pv c, pv t, pv rp, pv r] 96 (0, 0))
  pg : Pg8 B N w t c X G k S
  rf : RfAt B w rp up G.L
  r8 : R8 B w r vb vn vo vs { X with nts := M }
  ok : Ok8 X N
  nk : Nk X N k
  mkk : Nk { X with nts := M } N k
  sx : ∀ j, S j → j ≠ x ∧ ¬ fpR rp up j ∧ ¬ fp8 r vb vn vo vs j
  rx : ∀ j, fpR rp up j → j ≠ x ∧ ¬ fp8 r vb vn vo vs j
  dx : ∀ j, fp8 r vb vn vo vs j → j ≠ x
def BF (x rp r : Nat) (up vb vn vo : Value) (vs : List Value) (S : Nat → Prop) : Nat → Prop := fun j => S j ∨ fpR rp up j ∨ fp8 r vb vn vo vs j ∨ j = x
def StpR (K : Int) (X X' : P8) (G G' : Pg) : Prop := (um K 8 ≠ 7 → X'.ov = X.ov ∧ X'.base = X.base ∧ G' = G) ∧ (um K 8 ≠ 7 → um K 8 ≠ 6 → ∃ l, X'.nts = X.nts ++ l)
theorem wrX_fr {X : P8} {n : Int} {s : ByteArray} : (wrX X n s).ov = X.ov ∧ (wrX X n s).base = X.base ∧ (wrX X n s).nts = X.nts := by unfold wrX; split <;> exact ⟨rfl, rfl, rfl⟩
theorem drX_fr {X : P8} {n : Int} : (drX X n).ov = X.ov ∧ (drX X n).base = X.base ∧ (drX X n).nts = X.nts := by unfold drX; split <;> exact ⟨rfl, rfl, rfl⟩
theorem shX_fr {X : P8} {s : ByteArray} : (shX X s).ov = X.ov ∧ (shX X s).base = X.base ∧ (shX X s).nts = X.nts := by unfold shX; split <;> exact ⟨rfl, rfl, rfl⟩
theorem svX_fr {X : P8} : (svX X).ov = X.ov ∧ (svX X).base = X.base ∧ (svX X).now = X.now ∧ ((svX X).nts = X.nts ∨ (svX X).nts = X.nts ++ [X.now]) := by unfold svX; split <;> exact ⟨rfl, rfl, rfl, by first | exact .inl rfl | exact .inr rfl⟩
theorem bkX_fr {X : P8} {k : Int} : (bkX X k).ov = X.ov ∧ (bkX X k).base = X.base := by unfold bkX; split <;> exact ⟨rfl, rfl⟩
theorem cmX_fr {X : P8} : (cmX X).base = X.base ∧ (cmX X).now = X.now ∧ (cmX X).nts = X.nts := by unfold cmX; split <;> exact ⟨rfl, rfl, rfl⟩
theorem Nk.mono {X X' : P8} {N : Nat} {k : Int} (h : Nk X N k) (e : X'.nts = X.nts) : Nk X' N (k + 1) := ⟨by rw [e]; have := h.le; omega, by rw [e]; exact h.nl⟩
theorem Nk.save {X : P8} {N : Nat} {k : Int} (h : Nk X N k) (ok : Ok8 X N) : Nk (svX X) N (k + 1) := by
  rcases svX_fr (X := X) with ⟨_, _, _, e | e⟩
  · exact h.mono e
  · refine ⟨by rw [e, List.length_append]; have := h.le; simp only [List.length_cons, List.length_nil]; omega, ?_⟩
    rw [e]
    intro l hl
    rcases List.mem_append.1 hl with hl | hl
    · exact h.nl l hl
    · rw [List.mem_singleton.1 hl]
      exact ⟨ok.len, ok.sz⟩
theorem bkE_ok {X : P8} {k : Int} (h : bkE X k = 0) : X.ov = false ∧ 0 ≤ k ∧ k < (X.nts.length : Int) := by
  unfold bkE at h
  split at h
  · cases h
  · rename_i ho
    split at h
    · cases h
    · rename_i hk
      exact ⟨by simpa using ho, by omega, by omega⟩
theorem bkX_ok {X : P8} {N : Nat} {k j : Int} (ok : Ok8 X N) (h : Nk X N k) : Ok8 (bkX X j) N ∧ Nk (bkX X j) N (k + 1) := by
  by_cases e : bkE X j = 0
  · obtain ⟨_, j0, j1⟩ := bkE_ok e
    rw [bkX_0 e]
    obtain ⟨j, rfl⟩ := Int.eq_ofNat_of_zero_le j0
    rw [Int.toNat_natCast]
    have hj : j < X.nts.length := by omega
    have eg : X.nts.getD j [] = X.nts[j] := by rw [List.getD_eq_getElem?_getD, List.getElem?_eq_getElem hj]; rfl
    have hm := h.nl _ (List.getElem_mem hj)
    refine ⟨⟨ok.l1, ok.l2, ?_, ?_, ok.bl⟩, ⟨?_, fun l hl => h.nl l (List.mem_of_mem_take hl)⟩⟩
    · show (X.nts.getD j []).length = N
      rw [eg]; exact hm.1
    · show ∀ s ∈ X.nts.getD j [], s.size = 256
      rw [eg]; exact hm.2
    · show ((X.nts.take (j + 1)).length : Int) ≤ k + 1
      have := h.le
      rw [List.length_take]
      omega
  · rw [bkX_1 e]
    exact ⟨ok, h.mono rfl⟩
theorem svX_ok {X : P8} {N : Nat} (ok : Ok8 X N) : Ok8 (svX X) N := by
  obtain ⟨e1, e2, e3, _⟩ := svX_fr (X := X)
  exact ⟨ok.l1, ok.l2, by rw [e3]; exact ok.len, by rw [e3]; exact ok.sz, by rw [e2]; exact ok.bl⟩
theorem cmX_ok {X : P8} {N : Nat} (ok : Ok8 X N) : Ok8 (cmX X) N := by
  obtain ⟨e1, e2, e3⟩ := cmX_fr (X := X)
  exact ⟨ok.l1, ok.l2, by rw [e2]; exact ok.len, by rw [e2]; exact ok.sz, by rw [e1]; exact ok.bl⟩
section
variable {B N : Nat} {W w w' w1 w2 : World} {x c t rp r : Nat} {up vb vn vo v vn' vo' : Value} {vs vs' : List Value} {Q : Value → World → Prop} {K : Value → Sh.M} {X X' : P8} {M M' : List (List ByteArray)} {G G' : Pg} {k : Int} {S S1 T : Nat → Prop} {L : List ByteArray}
theorem f58_s (hp : RfAt B w rp up L) (hl : L.length ≤ 1000) (kk : ∀ w' r vb vn, R8 w.heap.size w' r vb vn (.slice none 0 0) [] ⟨L, L, [], false⟩ → Below w.heap.size w w' → Q (pv r) w') : f58 (pv rp) w Q := by
  unfold f58
  have c0 : (drw w).cell? ⟨rp, 0, none⟩ = some up := hp.c0
  have c0' : w.cell? ⟨rp, 0, none⟩ = some up := hp.c0
  have hpd : RfAt B (drw w) rp up L := hp.below ⟨rfl, rfl, rfl, Nat.le_refl _, fun _ _ => rfl⟩
  try simp only [↓reduceIte, ↓LL, LM, Value.cells, Nat.reduceAdd, Option.some.injEq, exists_eq_left', decide_true, decide_false, if_true, if_false, reduceCtorEq, cond_true, cond_false, c0, c0']
  refine cpS hpd.hu (by omega) fun v1 w1 o1 b1 => ?_
  refine ⟨by rw [Kld_e]; exact cell_below b1 c0, ?_⟩
  refine cpS (hpd.below b1).hu (by omega) fun v2 w2 o2 b2 => ?_
  have o1' := ownV_below o1 b2
  obtain ⟨p1, c1, e1⟩ := ownV_len o1
  obtain ⟨p2, c2, e2⟩ := ownV_len o2
  have f1 := ownV_lt o1
  have f2 := ownV_lt o2
  subst e1
  subst e2
  rw [smr_run (buildW8 _ _ _ _ _ _ w2)]
  have b3 := b_psh w2 (.cells #[.slice p1 (L.map Value.string).length c1, .slice p2 (L.map Value.string).length c2, .slice none 0 0, .bool false] 151)
  have k3 := blk_psh_new (w := w2) (o := .cells #[.slice p1 (L.map Value.string).length c1, .slice p2 (L.map Value.string).length c2, .slice none 0 0, .bool false] 151)
  try simp only [↓reduceIte, ↓LL, LM, Value.cells, Nat.reduceAdd, Option.some.injEq, exists_eq_left', decide_true, decide_false, if_true, if_false, reduceCtorEq, cond_true, cond_false]
  generalize psh w2 (.cells #[.slice p1 (L.map Value.string).length c1, .slice p2 (L.map Value.string).length c2, .slice none 0 0, .bool false] 151) = w3 at *
  have z1 : w.heap.size ≤ w1.heap.size := b1.size
  have z2 := b2.size
  refine kk w3 w2.heap.size _ _ ⟨by omega, k3, ownV_below o1' b3, ownV_weak (ownV_below o2 b3) z1, ownV_nil, rfl, fun i v l h1 h2 => by simp at h1, fun g hg hn => ?_, fun v hv => by simp at hv⟩ ((of_drw' (bt b1 b2)).trans (b3.mono (by omega)))
  have := (f1 g hg).2.1
  have := (f2 g hn).1
  omega
theorem fill8_loop {n : Nat} {y : Int} (hn : n ≤ 1000) : ∀ (d m i : Nat) (w : World) (v : Value) (l : List Int), i + d = n → d < m → Below W.heap.size W w → ownI W.heap.size 5 .u8 w v l → l.length = n →
    (∀ w' s, s.size = n → Below W.heap.size W w' → Q (.string s) w') →
    itr (fun _ _ _ _ => bot) (f95_b2 f95_j1) m (.int .u8 y) (.int .i64 ((n : Nat) : Int)) v (.int .i64 (i : Int)) w Q := by
  intro d
  induction d with
  | zero =>
    intro m i w v l hi hm hb ho hl kk
    obtain ⟨m, rfl⟩ : ∃ x, m = x + 1 := ⟨m - 1, by omega⟩
    show f95_b2 f95_j1 _ _ _ _ _ w Q
    unfold f95_b2
    have c : ¬ (i : Int) < ((n : Nat) : Int) := by omega
    try simp only [↓reduceIte, ↓LL, LM, Value.cells, Nat.reduceAdd, Option.some.injEq, exists_eq_left', decide_true, decide_false, if_true, if_false, reduceCtorEq, cond_true, cond_false, c]
    unfold f95_j1
    refine cvb sl61 ud5 str9 (rdP_rd (ownI_rdP ho)) ?_
    try simp only [↓reduceIte, ↓LL, LM, Value.cells, Nat.reduceAdd, Option.some.injEq, exists_eq_left', decide_true, decide_false, if_true, if_false, reduceCtorEq, cond_true, cond_false]
    exact kk w _ (by rw [son_size]; exact hl) hb
  | succ d ih =>
    intro m i w v l hi hm hb ho hl kk
    obtain ⟨m, rfl⟩ : ∃ x, m = x + 1 := ⟨m - 1, by omega⟩
    show f95_b2 f95_j1 _ _ _ _ _ w Q
    unfold f95_b2
    have c : (i : Int) < ((n : Nat) : Int) := by omega
    have h3 : IntKind.i64.wrap ((i : Int) + 1) = ((i + 1 : Nat) : Int) := by rw [w64 (by omega) (by omega)]; rfl
    try simp only [↓reduceIte, ↓LL, LM, Value.cells, Nat.reduceAdd, Option.some.injEq, exists_eq_left', decide_true, decide_false, if_true, if_false, reduceCtorEq, cond_true, cond_false, c]
    refine ia_st ho (by omega) fun w' ho' hu => ?_
    obtain ⟨g, hg1, hg2, hg3, hu⟩ := hu
    try simp only [↓reduceIte, ↓LL, LM, Value.cells, Nat.reduceAdd, Option.some.injEq, exists_eq_left', decide_true, decide_false, if_true, if_false, reduceCtorEq, cond_true, cond_false, h3]
    exact ih m (i + 1) w' v _ (by omega) (by omega) (hb.trans (hu.below hg2)) ho' (by rw [List.length_set]; exact hl) kk
theorem f95_s {n : Nat} {y : Int} (hn : n ≤ 1000) (kk : ∀ w' s, s.size = n → Below w.heap.size w w' → Q (.string s) w') : f95 (.int .u8 y) (.int .i64 ((n : Nat) : Int)) w Q := by
  unfold f95
  refine mkI (n := n) (B := w.heap.size) sl61 (by omega) (by omega) (Nat.le_refl _) fun v w1 ho hb => ?_
  try simp only [↓reduceIte, ↓LL, LM, Value.cells, Nat.reduceAdd, Option.some.injEq, exists_eq_left', decide_true, decide_false, if_true, if_false, reduceCtorEq, cond_true, cond_false]
  exact ⟨_, fill8_loop (W := w) hn n (n + 1) 0 w1 v _ (by omega) (by omega) hb ho (by rw [List.length_replicate]) kk⟩
theorem f56_s {a n y : Int} (kk : ∀ w', Below w.heap.size w w' → Q (.int .i64 (um a 8)) w') : f56 (.agg #[.int .i64 a, .int .i64 n, .int .u8 y]) w Q := by
  unfold f56
  have b1 := b_psh w (.cells #[.int .i64 a, .int .i64 n, .int .u8 y] 92)
  have k1 := blk_psh_new (w := w) (o := .cells #[.int .i64 a, .int .i64 n, .int .u8 y] 92)
  try simp only [↓reduceIte, ↓LL, LM, Value.cells, Nat.reduceAdd, Option.some.injEq, exists_eq_left', decide_true, decide_false, if_true, if_false, reduceCtorEq, cond_true, cond_false]
  generalize psh w (.cells #[.int .i64 a, .int .i64 n, .int .u8 y] 92) = w1 at *
  have c0 : w1.cell? ⟨w.heap.size, 0, none⟩ = some (.int .i64 a) := by rw [cell_of_blk k1]; rfl
  have h := um_bd a (show (0 : Int) < 8 by decide)
  have e1 : (IntKind.u64.wrap a).tmod 8 = um a 8 := rfl
  have e2 : IntKind.i64.wrap (um a 8) = um a 8 := w64 (by omega) (by omega)
  have z : ¬ (8 : Int) = 0 := by decide
  try simp only [↓reduceIte, ↓LL, LM, Value.cells, Nat.reduceAdd, Option.some.injEq, exists_eq_left', decide_true, decide_false, if_true, if_false, reduceCtorEq, cond_true, cond_false, ne_eq, z, true_and, c0, e1, e2]
  exact kk w1 b1
theorem Bt.below (h : Bt B N w x c t rp r up vb vn vo vs X M G k S) (hb : Below w.heap.size w w') : Bt B N w' x c t rp r up vb vn vo vs X M G k S := ⟨h.xB, stay hb h.hx, h.pg.below hb, h.rf.below hb, h.r8.below hb, h.ok, h.nk, h.mkk, h.sx, h.rx, h.dx⟩
theorem Bt.drw (h : Bt B N w x c t rp r up vb vn vo vs X M G k S) : Bt B N (Sh.drw w) x c t rp r up vb vn vo vs X M G k S := h.below ⟨rfl, rfl, rfl, Nat.le_refl _, fun _ _ => rfl⟩
theorem Bt.mono (h : Bt B N w x c t rp r up vb vn vo vs X M G k S) {k' : Int} (hk : k ≤ k') : Bt B N w x c t rp r up vb vn vo vs X M G k' S := ⟨h.xB, h.hx, h.pg.mono hk, h.rf, h.r8, h.ok, ⟨by have := h.nk.le; omega, h.nk.nl⟩, ⟨by have := h.mkk.le; omega, h.mkk.nl⟩, h.sx, h.rx, h.dx⟩
theorem Bt.xlt (h : Bt B N w x c t rp r up vb vn vo vs X M G k S) : x < w.heap.size := blk_lt h.hx
theorem Bt.rlt (h : Bt B N w x c t rp r up vb vn vo vs X M G k S) : ∀ j, fpR rp up j → B ≤ j ∧ j < w.heap.size := by
  rintro j (rfl | hj)
  · exact ⟨h.rf.rB, blk_lt h.rf.hr⟩
  · exact ⟨(ownV_lt h.rf.hu j hj).1, (ownV_lt h.rf.hu j hj).2.1⟩
theorem Bt.mid (h : Bt B N w x c t rp r up vb vn vo vs X M G k S) (hc : ChgS S w w1) : w1.heap[x]? = some (.cells #[pv c, pv t, pv rp, pv r] 96 (0, 0)) ∧ RfAt B w1 rp up G.L ∧ R8 B w1 r vb vn vo vs { X with nts := M } :=
  ⟨hc.keep h.hx fun hn => (h.sx x hn).1 rfl, h.rf.chg hc fun j hj hn => (h.sx j hn).2.1 hj, h.r8.chg hc fun j hj hn => (h.sx j hn).2.2 hj⟩
theorem Bt.fin (h : Bt B N w x c t rp r up vb vn vo vs X M G k S) (hc1 : ChgS S w w1) (hp : Pg8 B N w1 t c X' G (k + 1) S1) (hS : ∀ j, S1 j → S j ∨ w.heap.size ≤ j) (hr : R8 B w2 r vb vn' vo' vs' { X' with nts := M' }) (hf : ∀ j, fp8 r vb vn' vo' vs' j → fp8 r vb vn vo vs j ∨ w1.heap.size ≤ j) (hc2 : ChgS (fp8 r vb vn vo vs) w1 w2) (ok' : Ok8 X' N) (nk' : Nk X' N (k + 1)) (mk' : Nk { X' with nts := M' } N (k + 1)) :
    Bt B N w2 x c t rp r up vb vn' vo' vs' X' M' G (k + 1) S1 ∧ ChgS (BF x rp r up vb vn vo vs S) w w2 ∧ ∀ j, BF x rp r up vb vn' vo' vs' S1 j → BF x rp r up vb vn vo vs S j ∨ w.heap.size ≤ j := by
  obtain ⟨m1, m2, m3⟩ := h.mid hc1
  have z1 := hc1.size
  have xl := h.xlt
  have rl := h.rlt
  have dl := h.r8.lt
  have sl := hp.lt
  refine ⟨⟨h.xB, hc2.keep m1 fun hn => h.dx x hn rfl, hp.chg hc2 fun j hj hn => ?_, m2.chg hc2 fun j hj hn => (h.rx j hj).2 hn, hr, ok', nk', mk', fun j hj => ⟨?_, ?_, ?_⟩, fun j hj => ⟨(h.rx j hj).1, fun hn => ?_⟩, fun j hj => ?_⟩, (hc1.mono fun j hj => .inl hj).trans (hc2.mono fun j hj => .inr (.inr (.inl hj))) fun _ _ h => h, fun j hj => ?_⟩
  · rcases hS j hj with hj | hj
    · exact (h.sx j hj).2.2 hn
    · have := (dl j hn).2
      omega
  · rcases hS j hj with hj | hj
    · exact (h.sx j hj).1
    · omega
  · rcases hS j hj with hj | hj
    · exact (h.sx j hj).2.1
    · intro hn
      have := (rl j hn).2
      omega
  · intro hn
    rcases hf j hn with hn | hn
    · rcases hS j hj with hj | hj
      · exact (h.sx j hj).2.2 hn
      · have := (dl j hn).2
        omega
    · have := (sl j hj).2
      omega
  · rcases hf j hn with hn | hn
    · exact (h.rx j hj).2 hn
    · have := (rl j hj).2
      omega
  · rcases hf j hj with hj | hj
    · exact h.dx j hj
    · omega
  · rcases hj with hj | hj | hj | hj
    · rcases hS j hj with hj | hj
      · exact .inl (.inl hj)
      · exact .inr hj
    · exact .inl (.inr (.inl hj))
    · rcases hf j hj with hj | hj
      · exact .inl (.inr (.inr (.inl hj)))
      · exact .inr (by omega)
    · exact .inl (.inr (.inr (.inr hj)))
theorem Bt.bfB (h : Bt B N w x c t rp r up vb vn vo vs X M G k S) : ∀ j, BF x rp r up vb vn vo vs S j → B ≤ j ∧ j < w.heap.size := by
  rintro j (hj | hj | hj | rfl)
  · exact h.pg.lt j hj
  · exact h.rlt j hj
  · exact h.r8.lt j hj
  · exact ⟨h.xB, h.xlt⟩
theorem Ok8.y (h : Ok8 X N) : Ok8 { X with nts := M } N := ⟨h.l1, h.l2, h.len, h.sz, h.bl⟩
theorem wrX_y {n : Int} {s : ByteArray} : wrX { X with nts := M } n s = { wrX X n s with nts := M } := by unfold wrX; rw [show wrE { X with nts := M } n s = wrE X n s from rfl]; split <;> rfl
theorem drX_y {n : Int} : drX { X with nts := M } n = { drX X n with nts := M } := by unfold drX; rw [show thr8 { X with nts := M } n = thr8 X n from rfl]; split <;> rfl
theorem shX_y {s : ByteArray} : shX { X with nts := M } s = { shX X s with nts := M } := by unfold shX; rw [show shE { X with nts := M } s = shE X s from rfl]; split <;> rfl
theorem svX_y : svX { X with nts := M } = { svX X with nts := (svX { X with nts := M }).nts } := by
  unfold svX
  by_cases h : X.ov = true
  · rw [if_pos h, if_pos (show ({ X with nts := M } : P8).ov = true from h)]
  · rw [if_neg h, if_neg (show ¬ ({ X with nts := M } : P8).ov = true from h)]
theorem cmX_y : cmX { X with nts := M } = { cmX X with nts := M } := by unfold cmX; rw [show cmE8 { X with nts := M } = cmE8 X from rfl]; split <;> rfl
theorem Nk.monoM {X' : P8} {k : Int} (h : Nk { X with nts := M } N k) : Nk { X' with nts := M } N (k + 1) := ⟨by have := h.le; show (M.length : Int) ≤ k + 1; have e : (({ X with nts := M } : P8).nts.length : Int) = M.length := rfl; omega, h.nl⟩
theorem f57_s {a n y : Int} (h : Bt B N w x c t rp r up vb vn vo vs X M G k S) (h1 : 1 ≤ N) (hN : N ≤ 40) (k0 : 0 ≤ k) (k1 : k ≤ 3000) (hB : B ≤ w.heap.size) (hM : um a 8 = 6 → M = X.nts)
    (kk : ∀ w' z rp' up' vn' vo' vs' X' M' G' S', Bt B N w' x c t rp' r up' vb vn' vo' vs' X' M' G' (k + 1) S' → (∀ j, BF x rp' r up' vb vn' vo' vs' S' j → BF x rp r up vb vn vo vs S j ∨ w.heap.size ≤ j) → ChgS (BF x rp r up vb vn vo vs S) w w' → StpR a X X' G G' → (M = X.nts → z = true ∧ M' = X'.nts) → Q (.bool z) w') : f57 (pv x) (.agg #[.int .i64 a, .int .i64 n, .int .u8 y]) w Q := by
  unfold f57
  have b1 := b_psh w (.cells #[.int .i64 a, .int .i64 n, .int .u8 y] 92)
  have q1 := blk_psh_new (w := w) (o := .cells #[.int .i64 a, .int .i64 n, .int .u8 y] 92)
  try simp only [↓reduceIte, ↓LL, LM, Value.cells, Nat.reduceAdd, Option.some.injEq, exists_eq_left', decide_true, decide_false, if_true, if_false, reduceCtorEq, cond_true, cond_false]
  generalize psh w (.cells #[.int .i64 a, .int .i64 n, .int .u8 y] 92) = w1 at *
  refine ldn_box q1 rfl ?_
  try simp only [↓reduceIte, ↓LL, LM, Value.cells, Nat.reduceAdd, Option.some.injEq, exists_eq_left', decide_true, decide_false, if_true, if_false, reduceCtorEq, cond_true, cond_false]
  refine f56_s fun w2 b2 => ?_
  have b12 := bt b1 b2
  have q2 := stay b2 q1
  have h2 := h.below b12
  have z2 := b12.size
  have hbd := um_bd a (show (0 : Int) < 8 by decide)
  have sb : ¬ S w.heap.size := fun hn => by have := (h.pg.lt _ hn).2; omega
  have db : ¬ fp8 r vb vn vo vs w.heap.size := fun hn => by have := (h.r8.lt _ hn).2; omega
  have fin : ∀ (w' : World) z rp' up' vn' vo' vs' X' M' G' S', Bt B N w' x c t rp' r up' vb vn' vo' vs' X' M' G' (k + 1) S' → (∀ j, BF x rp' r up' vb vn' vo' vs' S' j → BF x rp r up vb vn vo vs S j ∨ w2.heap.size ≤ j) → ChgS (BF x rp r up vb vn vo vs S) w2 w' → StpR a X X' G G' → (M = X.nts → z = true ∧ M' = X'.nts) → Q (.bool z) w' := fun w' z rp' up' vn' vo' vs' X' M' G' S' hb h3 hw hs hz => kk w' z rp' up' vn' vo' vs' X' M' G' S' hb (fun j hj => (h3 j hj).imp id fun hj => Nat.le_trans z2 hj) ((ChgS.of_below b12).trans hw fun _ _ h => h) hs hz
  clear kk
  have hB2 : B ≤ w2.heap.size := Nat.le_trans hB z2
  have pc : ∀ (w' : World), w'.heap[w.heap.size]? = some (.cells #[.int .i64 a, .int .i64 n, .int .u8 y] 92 (0, 0)) → w'.cell? ⟨w.heap.size, 1, none⟩ = some (.int .i64 n) ∧ w'.cell? ⟨w.heap.size, 2, none⟩ = some (.int .u8 y) := fun w' h => ⟨by rw [cell_of_blk h]; rfl, by rw [cell_of_blk h]; rfl⟩
  have xc : ∀ (w' : World), w'.heap[x]? = some (.cells #[pv c, pv t, pv rp, pv r] 96 (0, 0)) → w'.cell? ⟨x, 1, none⟩ = some (pv t) ∧ w'.cell? ⟨x, 2, none⟩ = some (pv rp) ∧ w'.cell? ⟨x, 3, none⟩ = some (pv r) := fun w' h => ⟨by rw [cell_of_blk h]; rfl, by rw [cell_of_blk h]; rfl, by rw [cell_of_blk h]; rfl⟩
  obtain ⟨p1, p2⟩ := pc w2 q2
  obtain ⟨x1, x2, x3⟩ := xc w2 h2.hx
  have h2d := h2.drw
  have p1d : (drw w2).cell? ⟨w.heap.size, 1, none⟩ = some (.int .i64 n) := p1
  have x1d : (drw w2).cell? ⟨x, 1, none⟩ = some (pv t) := x1
  have x2d : (drw w2).cell? ⟨x, 2, none⟩ = some (pv rp) := x2
  have x3d : (drw w2).cell? ⟨x, 3, none⟩ = some (pv r) := x3
  have bdr : ∀ {w' : World}, Below B (drw w2) w' → Below B w2 w' := fun h => ⟨h.os, h.tape, h.output, h.size, h.block⟩
  have eqs1 : ∀ s : ByteArray, decide (s = s) = true := fun s => decide_eq_true rfl
  have eqi1 : ∀ s : Int, decide (s = s) = true := fun s => decide_eq_true rfl
  have nof : ∀ {vn' : Value}, ∀ j, fp8 r vb vn vo vs j → fp8 r vb vn vo vs j ∨ vn'.ownBlock = some j := fun j hj => .inl hj
  by_cases c0 : um a 8 = 0
  · try simp only [↓reduceIte, ↓LL, LM, Value.cells, Nat.reduceAdd, Option.some.injEq, exists_eq_left', decide_true, decide_false, if_true, if_false, reduceCtorEq, cond_true, cond_false, c0, x1, x1d, p1, p1d]
    refine h2d.pg.read h1 hN k0 k1 fun w3 S3 hp hS hc => ?_
    obtain ⟨m1, m2, m3⟩ := h2d.mid hc
    have q3 := hc.keep (show (drw w2).heap[w.heap.size]? = _ from q2) sb
    obtain ⟨p3, _⟩ := pc _ q3
    obtain ⟨_, _, x33⟩ := xc _ m1
    have p3d : (drw w3).cell? ⟨w.heap.size, 1, none⟩ = some (.int .i64 n) := p3
    have x33d : (drw w3).cell? ⟨x, 3, none⟩ = some (pv r) := x33
    try simp only [↓reduceIte, ↓LL, LM, Value.cells, Nat.reduceAdd, Option.some.injEq, exists_eq_left', decide_true, decide_false, if_true, if_false, reduceCtorEq, cond_true, cond_false, get0, get1, p3, p3d, x33, x33d]
    refine f94_s m3.drw h2.ok.y ?_
    rw [show rd8 { X with nts := M } n = rd8 X n from rfl]
    try simp only [↓reduceIte, ↓LL, LM, Value.cells, Nat.reduceAdd, Option.some.injEq, exists_eq_left', decide_true, decide_false, if_true, if_false, reduceCtorEq, cond_true, cond_false, get0, get1, eqs1, eqi1]
    obtain ⟨f1, f2, f3⟩ := h2d.fin hc hp hS m3.drw (fun j hj => .inl hj) (ChgS.refl _ _).drw h2.ok (h2.nk.mono rfl) h2.mkk.monoM
    exact fin _ true rp up vn vo vs X M G S3 f1 f3 f2.of_drw ⟨fun _ => ⟨rfl, rfl, rfl⟩, fun _ _ => ⟨[], by rw [List.append_nil]⟩⟩ fun e => ⟨rfl, e⟩
  by_cases c1 : um a 8 = 1
  · have wr : ∀ (w3 : World) (s : ByteArray), Below w2.heap.size w2 w3 → f57_j1 (pv x) (.pointer (some ⟨w.heap.size, 0, none⟩)) (.string s) w3 Q := by
      intro w3 s b3
      unfold f57_j1
      have h3 := (h2.below b3).drw
      have q3 := stay b3 q2
      obtain ⟨p3, _⟩ := pc _ q3
      obtain ⟨x13, _, x33⟩ := xc _ (h2.below b3).hx
      have p3d : (drw w3).cell? ⟨w.heap.size, 1, none⟩ = some (.int .i64 n) := p3
      have x13d : (drw w3).cell? ⟨x, 1, none⟩ = some (pv t) := x13
      have x33d : (drw w3).cell? ⟨x, 3, none⟩ = some (pv r) := x33
      have hB3 : B ≤ (drw w3).heap.size := Nat.le_trans hB2 b3.size
      try simp only [↓reduceIte, ↓LL, LM, Value.cells, Nat.reduceAdd, Option.some.injEq, exists_eq_left', decide_true, decide_false, if_true, if_false, reduceCtorEq, cond_true, cond_false, p3, p3d, x13, x13d, x33, x33d]
      refine h3.pg.write h1 hN k0 k1 fun w4 S4 hp hS hc => ?_
      obtain ⟨m1, m2, m3⟩ := h3.mid hc
      have q4 := hc.keep (show (drw w3).heap[w.heap.size]? = _ from q3) sb
      obtain ⟨p4, _⟩ := pc _ q4
      obtain ⟨_, _, x34⟩ := xc _ m1
      refine ⟨by rw [Kld_e]; exact p4, ?_⟩
      refine ⟨by rw [Kld_e]; exact x34, ?_⟩
      refine f96_s m3 h2.ok.y fun w5 hr5 hc5 => ?_
      rw [show wrE { X with nts := M } n s = wrE X n s from rfl]
      rw [wrX_y] at hr5
      try simp only [↓reduceIte, ↓LL, LM, Value.cells, Nat.reduceAdd, Option.some.injEq, exists_eq_left', decide_true, decide_false, if_true, if_false, reduceCtorEq, cond_true, cond_false, eqi1]
      obtain ⟨e1, e2, e3⟩ := wrX_fr (X := X) (n := n) (s := s)
      obtain ⟨f1, f2, f3⟩ := h3.fin hc hp hS hr5 (fun j hj => .inl hj) (hc5.mono fun j hj => .inr (.inr (.inl hj))) (wrX_ok h2.ok) (h2.nk.mono e3) h2.mkk.monoM
      exact fin _ true rp up vn vo vs _ M G S4 f1 (fun j hj => (f3 j hj).imp id fun hj => Nat.le_trans b3.size hj) ((ChgS.of_below b3).trans f2.of_drw fun _ _ h => h) ⟨fun _ => ⟨e1, e2, rfl⟩, fun _ _ => ⟨[], by rw [e3, List.append_nil]⟩⟩ fun e => ⟨rfl, e.trans e3.symm⟩
    try simp only [↓reduceIte, ↓LL, LM, Value.cells, Nat.reduceAdd, Option.some.injEq, exists_eq_left', decide_true, decide_false, if_true, if_false, reduceCtorEq, cond_true, cond_false, c0, c1, p2]
    refine f95_s (n := 256) (by decide) fun w3 s hs b3 => ?_
    have q3 := stay b3 q2
    obtain ⟨_, p3⟩ := pc _ q3
    by_cases cy : y = 1
    · try simp only [↓reduceIte, ↓LL, LM, Value.cells, Nat.reduceAdd, Option.some.injEq, exists_eq_left', decide_true, decide_false, if_true, if_false, reduceCtorEq, cond_true, cond_false, p3, cy]
      rw [cy] at p3
      try simp only [↓reduceIte, ↓LL, LM, Value.cells, Nat.reduceAdd, Option.some.injEq, exists_eq_left', decide_true, decide_false, if_true, if_false, reduceCtorEq, cond_true, cond_false, p3]
      refine f95_s (n := 9) (by decide) fun w4 s2 hs2 b4 => ?_
      try simp only [↓reduceIte, ↓LL, LM, Value.cells, Nat.reduceAdd, Option.some.injEq, exists_eq_left', decide_true, decide_false, if_true, if_false, reduceCtorEq, cond_true, cond_false]
      exact wr w4 s2 (bt b3 b4)
    · try simp only [↓reduceIte, ↓LL, LM, Value.cells, Nat.reduceAdd, Option.some.injEq, exists_eq_left', decide_true, decide_false, if_true, if_false, reduceCtorEq, cond_true, cond_false, p3, cy]
      exact wr w3 s b3
  by_cases c2 : um a 8 = 2
  · try simp only [↓reduceIte, ↓LL, LM, Value.cells, Nat.reduceAdd, Option.some.injEq, exists_eq_left', decide_true, decide_false, if_true, if_false, reduceCtorEq, cond_true, cond_false, c0, c1, c2, x1]
    refine h2.pg.take h1 hN k0 k1 (fun ho hp => ?_) (fun ho m hm w3 S3 hp hS hc => ?_) (fun ho hall w3 S3 hp hS hc => ?_)
    · try simp only [↓reduceIte, ↓LL, LM, Value.cells, Nat.reduceAdd, Option.some.injEq, exists_eq_left', decide_true, decide_false, if_true, if_false, reduceCtorEq, cond_true, cond_false, get0, get1, x3]
      refine f97_s h2.r8 h2.ok.y (fun _ => ?_) (fun ho' => by rw [ho] at ho'; cases ho') (fun ho' => by rw [ho] at ho'; cases ho')
      try simp only [↓reduceIte, ↓LL, LM, Value.cells, Nat.reduceAdd, Option.some.injEq, exists_eq_left', decide_true, decide_false, if_true, if_false, reduceCtorEq, cond_true, cond_false, get0, get1]
      obtain ⟨f1, f2, f3⟩ := h2.fin (ChgS.refl _ _) hp (fun j hj => .inl hj) h2.r8 (fun j hj => .inl hj) (ChgS.refl _ _) h2.ok (h2.nk.mono rfl) h2.mkk.monoM
      exact fin _ true rp up vn vo vs X M G S f1 f3 f2 ⟨fun _ => ⟨rfl, rfl, rfl⟩, fun _ _ => ⟨[], by rw [List.append_nil]⟩⟩ fun e => ⟨rfl, e⟩
    · obtain ⟨m1, m2, m3⟩ := h2.mid hc
      obtain ⟨_, _, x33⟩ := xc _ m1
      try simp only [↓reduceIte, ↓LL, LM, Value.cells, Nat.reduceAdd, Option.some.injEq, exists_eq_left', decide_true, decide_false, if_true, if_false, reduceCtorEq, cond_true, cond_false, get0, get1, x33]
      refine f97_s m3 h2.ok.y (fun ho' => by rw [ho] at ho'; cases ho') (fun _ m' hm' w4 hr4 hc4 => ?_) (fun _ hall => absurd ((hall m hm.1 hm.2.1).symm.trans hm.2.2.1) (by decide))
      have := hm.uniq hm'
      subst this
      try simp only [↓reduceIte, ↓LL, LM, Value.cells, Nat.reduceAdd, Option.some.injEq, exists_eq_left', decide_true, decide_false, if_true, if_false, reduceCtorEq, cond_true, cond_false, get0, get1, eqi1]
      obtain ⟨f1, f2, f3⟩ := h2.fin (M' := M) hc hp hS hr4 (fun j hj => .inl hj) (hc4.mono fun j hj => .inr (.inr (.inl hj))) (tkX_ok h2.ok) (h2.nk.mono rfl) h2.mkk.monoM
      exact fin _ true rp up vn vo vs _ M G S3 f1 f3 f2 ⟨fun _ => ⟨rfl, rfl, rfl⟩, fun _ _ => ⟨[], by rw [List.append_nil]; rfl⟩⟩ fun e => ⟨rfl, e⟩
    · obtain ⟨m1, m2, m3⟩ := h2.mid hc
      obtain ⟨_, _, x33⟩ := xc _ m1
      try simp only [↓reduceIte, ↓LL, LM, Value.cells, Nat.reduceAdd, Option.some.injEq, exists_eq_left', decide_true, decide_false, if_true, if_false, reduceCtorEq, cond_true, cond_false, get0, get1, x33]
      refine f97_s m3 h2.ok.y (fun ho' => by rw [ho] at ho'; cases ho') (fun _ m' hm' w4 hr4 hc4 => absurd ((hall m' hm'.1 hm'.2.1).symm.trans hm'.2.2.1) (by decide)) (fun _ _ => ?_)
      try simp only [↓reduceIte, ↓LL, LM, Value.cells, Nat.reduceAdd, Option.some.injEq, exists_eq_left', decide_true, decide_false, if_true, if_false, reduceCtorEq, cond_true, cond_false, get0, get1]
      obtain ⟨f1, f2, f3⟩ := h2.fin hc hp hS m3 (fun j hj => .inl hj) (ChgS.refl _ _) h2.ok (h2.nk.mono rfl) h2.mkk.monoM
      exact fin _ true rp up vn vo vs X M G S3 f1 f3 f2 ⟨fun _ => ⟨rfl, rfl, rfl⟩, fun _ _ => ⟨[], by rw [List.append_nil]⟩⟩ fun e => ⟨rfl, e⟩
  by_cases c3 : um a 8 = 3
  · try simp only [↓reduceIte, ↓LL, LM, Value.cells, Nat.reduceAdd, Option.some.injEq, exists_eq_left', decide_true, decide_false, if_true, if_false, reduceCtorEq, cond_true, cond_false, c0, c1, c2, c3, x1, x1d, x3, x3d, p1, p1d]
    refine h2d.pg.drop h1 hN k0 k1 fun w3 S3 hp hS hc => ?_
    obtain ⟨m1, m2, m3⟩ := h2d.mid hc
    have q3 := hc.keep (show (drw w2).heap[w.heap.size]? = _ from q2) sb
    obtain ⟨p3, _⟩ := pc _ q3
    obtain ⟨_, _, x33⟩ := xc _ m1
    refine ⟨by rw [Kld_e]; exact p3, ?_⟩
    refine ⟨by rw [Kld_e]; exact x33, ?_⟩
    refine f98_s m3 h2.ok.y fun w4 hr4 hc4 => ?_
    rw [show thr8 { X with nts := M } n = thr8 X n from rfl]
    rw [drX_y] at hr4
    try simp only [↓reduceIte, ↓LL, LM, Value.cells, Nat.reduceAdd, Option.some.injEq, exists_eq_left', decide_true, decide_false, if_true, if_false, reduceCtorEq, cond_true, cond_false, eqi1]
    obtain ⟨e1, e2, e3⟩ := drX_fr (X := X) (n := n)
    obtain ⟨f1, f2, f3⟩ := h2d.fin hc hp hS hr4 (fun j hj => .inl hj) (hc4.mono fun j hj => .inr (.inr (.inl hj))) (drX_ok h2.ok) (h2.nk.mono e3) h2.mkk.monoM
    exact fin _ true rp up vn vo vs _ M G S3 f1 f3 f2.of_drw ⟨fun _ => ⟨e1, e2, rfl⟩, fun _ _ => ⟨[], by rw [e3, List.append_nil]⟩⟩ fun e => ⟨rfl, e.trans e3.symm⟩
  by_cases c4 : um a 8 = 4
  · have e1 : (if (if n < 0 then (0 : Int) else n) > 300 then (300 : Int) else (if n < 0 then (0 : Int) else n)) = ((min n.toNat 300 : Nat) : Int) := by
      by_cases hn : n < 0
      · rw [if_pos hn]; omega
      · rw [if_neg hn]
        split <;> omega
    have e1' : (if (300 : Int) < (if n < 0 then (0 : Int) else n) then (300 : Int) else (if n < 0 then (0 : Int) else n)) = ((min n.toNat 300 : Nat) : Int) := e1
    try simp only [↓reduceIte, ↓LL, LM, Value.cells, Nat.reduceAdd, Option.some.injEq, exists_eq_left', decide_true, decide_false, if_true, if_false, reduceCtorEq, cond_true, cond_false, c0, c1, c2, c3, c4, p1, p2, e1, e1']
    refine f95_s (n := min n.toNat 300) (by omega) fun w3 s hs b3 => ?_
    have h3 := (h2.below b3).drw
    obtain ⟨x13, _, x33⟩ := xc _ (h2.below b3).hx
    have x13d : (drw w3).cell? ⟨x, 1, none⟩ = some (pv t) := x13
    have x33d : (drw w3).cell? ⟨x, 3, none⟩ = some (pv r) := x33
    have hB3 : B ≤ (drw w3).heap.size := Nat.le_trans hB2 b3.size
    try simp only [↓reduceIte, ↓LL, LM, Value.cells, Nat.reduceAdd, Option.some.injEq, exists_eq_left', decide_true, decide_false, if_true, if_false, reduceCtorEq, cond_true, cond_false, x13, x13d, x33, x33d]
    refine h3.pg.setHead h1 k0 fun w4 S4 hp hS hc => ?_
    obtain ⟨m1, m2, m3⟩ := h3.mid hc
    obtain ⟨_, _, x34⟩ := xc _ m1
    refine ⟨by rw [Kld_e]; exact x34, ?_⟩
    refine f99_s m3 h2.ok.y fun w5 hr5 hc5 => ?_
    rw [show shE { X with nts := M } s = shE X s from rfl]
    rw [shX_y] at hr5
    try simp only [↓reduceIte, ↓LL, LM, Value.cells, Nat.reduceAdd, Option.some.injEq, exists_eq_left', decide_true, decide_false, if_true, if_false, reduceCtorEq, cond_true, cond_false, eqi1]
    obtain ⟨e1, e2, e3⟩ := shX_fr (X := X) (s := s)
    obtain ⟨f1, f2, f3⟩ := h3.fin hc hp hS hr5 (fun j hj => .inl hj) (hc5.mono fun j hj => .inr (.inr (.inl hj))) (shX_ok h2.ok) (h2.nk.mono e3) h2.mkk.monoM
    exact fin _ true rp up vn vo vs _ M G S4 f1 (fun j hj => (f3 j hj).imp id fun hj => Nat.le_trans b3.size hj) ((ChgS.of_below b3).trans f2.of_drw fun _ _ h => h) ⟨fun _ => ⟨e1, e2, rfl⟩, fun _ _ => ⟨[], by rw [e3, List.append_nil]⟩⟩ fun e => ⟨rfl, e.trans e3.symm⟩
  by_cases c5 : um a 8 = 5
  · try simp only [↓reduceIte, ↓LL, LM, Value.cells, Nat.reduceAdd, Option.some.injEq, exists_eq_left', decide_true, decide_false, if_true, if_false, reduceCtorEq, cond_true, cond_false, c0, c1, c2, c3, c4, c5, x1, x1d, x3, x3d]
    refine h2d.pg.save h1 k0 k1 hB2 fun w3 S3 hp hS hc => ?_
    obtain ⟨m1, m2, m3⟩ := h2d.mid hc
    obtain ⟨_, _, x33⟩ := xc _ m1
    refine ⟨by rw [Kld_e]; exact x33, ?_⟩
    refine f100_s m3 h2.ok.y (Nat.le_trans hB2 hc.size) (by have := h2.mkk.le; show M.length ≤ 100000; have e : (({ X with nts := M } : P8).nts.length : Int) = M.length := rfl; omega) fun w4 vo4 vs4 hr4 hf4 hc4 => ?_
    have hmk := h2.mkk.save h2.ok.y
    rw [svX_y] at hr4
    rw [svX_y] at hmk
    try simp only [↓reduceIte, ↓LL, LM, Value.cells, Nat.reduceAdd, Option.some.injEq, exists_eq_left', decide_true, decide_false, if_true, if_false, reduceCtorEq, cond_true, cond_false]
    obtain ⟨e1, e2, e3, e4⟩ := svX_fr (X := X)
    obtain ⟨f1, f2, f3⟩ := h2d.fin hc hp hS hr4 hf4 hc4 (svX_ok h2.ok) (h2.nk.save h2.ok) hmk
    refine fin _ _ rp up vn vo4 vs4 _ _ G S3 f1 f3 f2.of_drw ⟨fun _ => ⟨e1, e2, rfl⟩, fun _ _ => ?_⟩ fun e => by subst e; exact ⟨decide_eq_true rfl, rfl⟩
    rcases e4 with e4 | e4
    · exact ⟨[], by rw [e4, List.append_nil]⟩
    · exact ⟨[X.now], e4⟩
  by_cases c6 : um a 8 = 6
  · try simp only [↓reduceIte, ↓LL, LM, Value.cells, Nat.reduceAdd, Option.some.injEq, exists_eq_left', decide_true, decide_false, if_true, if_false, reduceCtorEq, cond_true, cond_false, c0, c1, c2, c3, c4, c5, c6, x1, x1d, x3, x3d, p1, p1d]
    have hM := hM c6
    subst hM
    refine h2d.pg.back h1 k0 k1 hB2 fun w3 S3 hp hS hc => ?_
    obtain ⟨m1, m2, m3⟩ := h2d.mid hc
    have q3 := hc.keep (show (drw w2).heap[w.heap.size]? = _ from q2) sb
    obtain ⟨p3, _⟩ := pc _ q3
    obtain ⟨_, _, x33⟩ := xc _ m1
    refine ⟨by rw [Kld_e]; exact p3, ?_⟩
    refine ⟨by rw [Kld_e]; exact x33, ?_⟩
    refine f101_s m3 (Nat.le_trans hB2 hc.size) (fun l hl => by have := (h2.nk.nl l hl).1; omega) (by have := h2.nk.le; show X.nts.length ≤ 100000; omega) fun w4 vn4 vo4 vs4 hr4 hf4 hc4 => ?_
    try simp only [↓reduceIte, ↓LL, LM, Value.cells, Nat.reduceAdd, Option.some.injEq, exists_eq_left', decide_true, decide_false, if_true, if_false, reduceCtorEq, cond_true, cond_false, eqi1]
    obtain ⟨e1, e2⟩ := bkX_fr (X := X) (k := n)
    obtain ⟨o1, o2⟩ := bkX_ok (j := n) h2.ok h2.nk
    obtain ⟨f1, f2, f3⟩ := h2d.fin (X' := bkX X n) (M' := (bkX X n).nts) hc hp hS hr4 hf4 hc4 o1 o2 o2
    exact fin _ true rp up vn4 vo4 vs4 _ _ G S3 f1 f3 f2.of_drw ⟨fun _ => ⟨e1, e2, rfl⟩, fun _ h6 => absurd c6 h6⟩ fun _ => ⟨rfl, rfl⟩
  · have c7 : um a 8 = 7 := by omega
    try simp only [↓reduceIte, ↓LL, LM, Value.cells, Nat.reduceAdd, Option.some.injEq, exists_eq_left', decide_true, decide_false, if_true, if_false, reduceCtorEq, cond_true, cond_false, c0, c1, c2, c3, c4, c5, c6, x1]
    refine h2.pg.commit h1 hN k0 k1 hB2 fun w3 S3 G3 hp eG hS hc => ?_
    obtain ⟨m1, m2, m3⟩ := h2.mid hc
    obtain ⟨_, x23, x33⟩ := xc _ m1
    have x23d : (drw w3).cell? ⟨x, 2, none⟩ = some (pv rp) := x23
    have x33d : (drw w3).cell? ⟨x, 3, none⟩ = some (pv r) := x33
    have m2d : RfAt B (drw w3) rp up G.L := m2.below ⟨rfl, rfl, rfl, Nat.le_refl _, fun _ _ => rfl⟩
    have gl : G.L.length = N := by
      obtain ⟨_, _, _, _, _, _, _, _, _, _, _, _, _, _, _, _, a1, _⟩ := h.pg
      exact a1.gl
    have z3 := hc.size
    have sl := hp.lt
    have xl := h2.xlt
    have dl := h2.r8.lt
    have rl := h2.rlt
    try simp only [↓reduceIte, ↓LL, LM, Value.cells, Nat.reduceAdd, Option.some.injEq, exists_eq_left', decide_true, decide_false, if_true, if_false, reduceCtorEq, cond_true, cond_false, x23, x23d, x33, x33d]
    refine f102_s m3.drw h2.ok.y m2d gl (Nat.le_trans hB2 z3) fun w4 rp4 up4 hr4 hrf4 hf4 hc4 _ => ?_
    rw [show cmE8 { X with nts := M } = cmE8 X from rfl]
    rw [show cmL { X with nts := M } G.L = cmL X G.L from rfl] at hrf4
    rw [cmX_y] at hr4
    have hc4 : ChgS (fp8 r vb vn vo vs) w3 w4 := hc4.of_drw
    have hf4 : ∀ j, fpR rp4 up4 j → fpR rp up j ∨ w3.heap.size ≤ j := hf4
    have hx4 := hc4.keep m1 fun hn => h2.dx x hn rfl
    try simp only [↓reduceIte, ↓LL, LM, Value.cells, Nat.reduceAdd, Option.some.injEq, exists_eq_left', decide_true, decide_false, if_true, if_false, reduceCtorEq, cond_true, cond_false, get0, get1]
    refine st_box (o := 2) (v := pv rp4) hx4 (by show 2 < 4; decide) rfl fun w5 hx5 u5 => ?_
    have hx5 : w5.heap[x]? = some (.cells #[pv c, pv t, pv rp4, pv r] 96 (0, 0)) := hx5
    have hc5 : ChgS (fun j => j = x) w4 w5 := ChgS.of_upd u5 rfl
    obtain ⟨e1, e2, e3⟩ := cmX_fr (X := X)
    have sd : ∀ j, S3 j → ¬ fp8 r vb vn vo vs j := fun j hj hn => by
      rcases hS j hj with hj | hj
      · exact (h2.sx j hj).2.2 hn
      · have := (dl j hn).2
        omega
    have sx' : ∀ j, S3 j → j ≠ x := fun j hj => by
      rcases hS j hj with hj | hj
      · exact (h2.sx j hj).1
      · omega
    have rx' : ∀ j, fpR rp4 up4 j → j ≠ x ∧ ¬ fp8 r vb vn vo vs j := fun j hj => by
      rcases hf4 j hj with hj | hj
      · exact h2.rx j hj
      · exact ⟨by omega, fun hn => by have := (dl j hn).2; omega⟩
    try simp only [↓reduceIte, ↓LL, LM, Value.cells, Nat.reduceAdd, Option.some.injEq, exists_eq_left', decide_true, decide_false, if_true, if_false, reduceCtorEq, cond_true, cond_false, eqi1]
    refine fin w5 true rp4 up4 vn vo vs (cmX X) M G3 S3 ⟨h.xB, hx5, (hp.chg hc4 sd).chg hc5 sx', ?_, hr4.chg hc5 fun j hj => h2.dx j hj, cmX_ok h2.ok, h2.nk.mono e3, h2.mkk.monoM, fun j hj => ⟨sx' j hj, fun hn => ?_, sd j hj⟩, rx', h2.dx⟩ ?_ ?_ ⟨fun h7 => absurd c7 h7, fun h7 => absurd c7 h7⟩ fun e => ⟨rfl, e.trans e3.symm⟩
    · rw [eG]
      exact hrf4.chg hc5 fun j hj => (rx' j hj).1
    · rcases hf4 j hn with hn | hn
      · rcases hS j hj with hj | hj
        · exact (h2.sx j hj).2.1 hn
        · have := (rl j hn).2
          omega
      · have := (sl j hj).2
        omega
    · intro j hj
      rcases hj with hj | hj | hj | hj
      · exact (hS j hj).imp .inl id
      · rcases hf4 j hj with hj | hj
        · exact .inl (.inr (.inl hj))
        · exact .inr (Nat.le_trans z3 hj)
      · exact .inl (.inr (.inr (.inl hj)))
      · exact .inl (.inr (.inr (.inr hj)))
    · refine ((hc.mono fun j hj => .inl hj).trans (T := BF x rp r up vb vn vo vs S) (hc4.mono fun j hj => .inr (.inr (.inl hj))) fun _ _ h => h).trans (T := BF x rp r up vb vn vo vs S) (hc5.mono fun j hj => .inr (.inr (.inr hj))) fun _ _ h => h
end
end Go.Proofs.YtongpnolikkknaaGreatDoor

set_option maxRecDepth 20000
set_option maxHeartbeats 4000000
namespace Go.Proofs.YtongpnolikkknaaGreatDoor
open Sh RowKit Go.MapKept
theorem buildB8 (c rp : Nat) (w : World) : (Instr.build 96 #[(0, pv c), (2, pv rp)]).run Tryz.prog w = .ok (.agg #[pv c, .pointer none, pv rp, .pointer none]) w := by
  kernel_rfl
section
variable {B N : Nat} {W w w' w1 w2 : World} {x c t rp r : Nat} {up vb vn vo v vn' vo' vs : Value} {vl vl' : List Value} {Q : Value → World → Prop} {K : Value → Sh.M} {X X' : P8} {M M' : List (List ByteArray)} {G G' : Pg} {k : Int} {S S1 T : Nat → Prop} {L : List ByteArray}
theorem f55_s {Wr : World} {α : Type} {R : RepT α} {l : List α} (h : rdS 3 R Wr v l) (kk : ∀ v', rdS 3 R Wr v' (l.take 200) → Q v' w) : f55 v w Q := by
  unfold f55
  have lv := lnl_S h
  have e : (if (200 : Int) < ((l.length : Nat) : Int) then (200 : Int) else ((l.length : Nat) : Int)) = ((min l.length 200 : Nat) : Int) := by split <;> omega
  try simp only [↓reduceIte, ↓LL, LM, Value.cells, Nat.reduceAdd, Option.some.injEq, exists_eq_left', decide_true, decide_false, if_true, if_false, reduceCtorEq, cond_true, cond_false, lv, e]
  have hs := sll_S (w := Wr) (Q := Q) (K := fun v' _ _ => Q v' w) (j := .i64) h (k := min l.length 200) (by omega) fun v' hv' => by
    refine kk v' ?_
    have : l.take (min l.length 200) = l.take 200 := by
      rcases Nat.le_total l.length 200 with c | c
      · rw [Nat.min_eq_left c, List.take_of_length_le (Nat.le_refl _), List.take_of_length_le c]
      · rw [Nat.min_eq_right c]
    rw [← this]
    exact hv'
  exact hs
theorem Bt.cells (h : Bt B N w x c t rp r up vb vn vo vl X M G k S) : w.cell? ⟨x, 0, none⟩ = some (pv c) ∧ w.cell? ⟨x, 1, none⟩ = some (pv t) ∧ w.cell? ⟨x, 2, none⟩ = some (pv rp) ∧ w.cell? ⟨x, 3, none⟩ = some (pv r) := ⟨by rw [cell_of_blk h.hx]; rfl, by rw [cell_of_blk h.hx]; rfl, by rw [cell_of_blk h.hx]; rfl, by rw [cell_of_blk h.hx]; rfl⟩
/-- the program's and the document's work begun on the same pages -/
theorem begun {w5 : World} {r' t' : Nat} {S' : Nat → Prop} (hxB : B ≤ x) (hx : w5.heap[x]? = some (.cells #[pv c, pv t', pv rp, pv r'] 96 (0, 0))) (hp : Pg8 B N w5 t' c ⟨G.L, G.L, [], false⟩ G k S') (hrf : RfAt B w5 rp up G.L) (h8 : R8 B w5 r' vb vn (.slice none 0 0) [] ⟨G.L, G.L, [], false⟩) (h1 : 1 ≤ N) (hN : N ≤ 160) (hs : ∀ s ∈ G.L, s.size = 256) (gl : G.L.length = N) (k0 : 0 ≤ k)
    (sx : ∀ j, S' j → j ≠ x ∧ ¬ fpR rp up j ∧ ¬ fp8 r' vb vn (.slice none 0 0) [] j) (rx : ∀ j, fpR rp up j → j ≠ x ∧ ¬ fp8 r' vb vn (.slice none 0 0) [] j) (dx : ∀ j, fp8 r' vb vn (.slice none 0 0) [] j → j ≠ x) :
    Bt B N w5 x c t' rp r' up vb vn (.slice none 0 0) [] ⟨G.L, G.L, [], false⟩ [] G k S' :=
  ⟨hxB, hx, hp, hrf, h8, ⟨h1, hN, gl, hs, gl⟩, ⟨k0, fun l hl => by simp at hl⟩, ⟨k0, fun l hl => by simp at hl⟩, sx, rx, dx⟩
theorem Pg8.gl (h : Pg8 B N w t c X G k S) : G.L.length = N ∧ ∀ s ∈ G.L, s.size = 256 := by
  obtain ⟨_, _, _, _, _, _, _, _, _, _, _, _, _, _, _, _, a1, _, _, _, a5, _⟩ := h
  exact ⟨a1.gl, a5⟩
theorem f54_s (h1 : 1 ≤ N) (hN : N ≤ 40) (kk : ∀ w' x c t rp r up vb vn G S, Bt w.heap.size N w' x c t rp r up vb vn (.slice none 0 0) [] ⟨G.L, G.L, [], false⟩ [] G 1 S → Below w.heap.size w w' → Q (.tuple #[pv x, .bool true]) w') : f54 (.int .i64 ((N : Nat) : Int)) w Q := by
  unfold f54
  refine f17_s (n := N) h1 (by omega) fun w1 c q mb p b v u hc1 b1 => ?_
  try simp only [↓reduceIte, ↓LL, LM, Value.cells, Nat.reduceAdd, Option.some.injEq, exists_eq_left', decide_true, decide_false, if_true, if_false, reduceCtorEq, cond_true, cond_false]
  refine f41_s (n := N) (by omega) fun w2 rp up b2 hrf => ?_
  have hc2 := hc1.below b2
  have z1 := b1.size
  have z2 := b2.size
  try simp only [↓reduceIte, ↓LL, LM, Value.cells, Nat.reduceAdd, Option.some.injEq, exists_eq_left', decide_true, decide_false, if_true, if_false, reduceCtorEq, cond_true, cond_false]
  rw [smr_run (buildB8 _ _ w2)]
  have b3 := b_psh w2 (.cells #[pv c, .pointer none, pv rp, .pointer none] 96)
  have k3 := blk_psh_new (w := w2) (o := .cells #[pv c, .pointer none, pv rp, .pointer none] 96)
  try simp only [↓reduceIte, ↓LL, LM, Value.cells, Nat.reduceAdd, Option.some.injEq, exists_eq_left', decide_true, decide_false, if_true, if_false, reduceCtorEq, cond_true, cond_false]
  generalize psh w2 (.cells #[pv c, .pointer none, pv rp, .pointer none] 96) = w3 at *
  have z3 := blk_lt k3
  have hc3 := hc2.below b3
  have c0 : w3.cell? ⟨w2.heap.size, 0, none⟩ = some (pv c) := by rw [cell_of_blk k3]; rfl
  try simp only [↓reduceIte, ↓LL, LM, Value.cells, Nat.reduceAdd, Option.some.injEq, exists_eq_left', decide_true, decide_false, if_true, if_false, reduceCtorEq, cond_true, cond_false, c0]
  have lN : (⟨List.replicate N (zs 256), false, 0⟩ : Pg).L.length = N := rep_len N
  have gsz : ∀ s ∈ (⟨List.replicate N (zs 256), false, 0⟩ : Pg).L, s.size = 256 := rep_256 N
  have rdy := rdy_new h1 (show N ≤ 160 by omega) (Nat.le_refl (126 + 4 * N))
  have all := new_all (126 + 4 * N)
  have lt1 := hc1.lt
  have fB := hc1.fpB
  refine begin_s hc3 (fun x hx => by simp at hx) gsz (by rw [lN]; exact h1) (Int.le_refl 0) (by decide) (Int.le_refl 0) (by decide) fun w4 t mp E' hw hg hE hcw zt zm => ?_
  have dg : Dg (newD (126 + 4 * N)) ⟨List.replicate N (zs 256), false, 0⟩ 1 := ⟨rdy, all, rfl, rfl, Int.le_refl 0, by show (0 : Int) ≤ _; decide, Int.le_refl 0, by show (0 : Int) ≤ 1; decide⟩
  obtain ⟨S, hp, hS⟩ := pg8_new (N := N) (k := 1) hw hg (HB.mono (k := 0 + 1) (rdC_bd ⟨Int.le_refl 0, Int.le_refl 0, Int.le_refl 0, Int.le_refl 0⟩) (by decide)) dg gsz lN h1 (by decide)
  generalize hGd : (⟨List.replicate N (zs 256), false, 0⟩ : Pg) = G at *
  have gL : G.L = List.replicate N (zs 256) := by rw [← hGd]
  have hSb : ∀ j, S j → j < w1.heap.size ∨ w3.heap.size ≤ j := fun j hj => by
    rcases (hS j).1 hj with hj | hj | hj
    · rcases hE j hj with hj | hj
      · exact .inl (lt1 j hj)
      · exact .inr hj
    · have hj : j = t := hj
      exact .inr (by omega)
    · have hj : j = mp := hj
      exact .inr (by omega)
  have k4 := hcw.keep k3 fun hn => by have := lt1 _ hn; omega
  have hrl : ∀ j, fpR rp up j → w1.heap.size ≤ j ∧ j < w2.heap.size := by
    rintro j (rfl | hj)
    · exact ⟨hrf.rB, blk_lt hrf.hr⟩
    · exact ⟨(ownV_lt hrf.hu j hj).1, (ownV_lt hrf.hu j hj).2.1⟩
  have rf4 : RfAt w1.heap.size w4 rp up (List.replicate N (zs 256)) := (hrf.below b3).chg hcw fun j hj hn => by
    have := lt1 _ hn
    have := (hrl j hj).1
    omega
  try simp only [↓reduceIte, ↓LL, LM, Value.cells, Nat.reduceAdd, Option.some.injEq, exists_eq_left', decide_true, decide_false, if_true, if_false, reduceCtorEq, cond_true, cond_false, get0, get1]
  refine st_box (o := 1) (v := pv t) k4 (by show 1 < 4; decide) rfl fun w5 k5 u5 => ?_
  have k5 : w5.heap[w2.heap.size]? = some (.cells #[pv c, pv t, pv rp, .pointer none] 96 (0, 0)) := k5
  have hc5 : ChgS (fun j => j = w2.heap.size) w4 w5 := ChgS.of_upd u5 rfl
  have c2 : w5.cell? ⟨w2.heap.size, 2, none⟩ = some (pv rp) := by rw [cell_of_blk k5]; rfl
  have rf5 := rf4.chg hc5 fun j hj hn => by
    have := (hrl j hj).2
    have hn : j = w2.heap.size := hn
    omega
  have hp5 := hp.chg hc5 fun j hj hn => by
    have hn : j = w2.heap.size := hn
    rcases hSb j hj with hj | hj <;> omega
  try simp only [↓reduceIte, ↓LL, LM, Value.cells, Nat.reduceAdd, Option.some.injEq, exists_eq_left', decide_true, decide_false, if_true, if_false, reduceCtorEq, cond_true, cond_false, c2]
  refine f58_s rf5 (by rw [List.length_replicate]; omega) fun w6 r vb vn h86 b6 => ?_
  have k6 := stay b6 k5
  have rf6 := rf5.below b6
  have hp6 := hp5.below b6
  have l86 := h86.lt
  have z34 := hcw.size
  have z45 := hc5.size
  try simp only [↓reduceIte, ↓LL, LM, Value.cells, Nat.reduceAdd, Option.some.injEq, exists_eq_left', decide_true, decide_false, if_true, if_false, reduceCtorEq, cond_true, cond_false]
  refine st_box (o := 3) (v := pv r) k6 (by show 3 < 4; decide) rfl fun w7 k7 u7 => ?_
  have k7 : w7.heap[w2.heap.size]? = some (.cells #[pv c, pv t, pv rp, pv r] 96 (0, 0)) := k7
  have hc7 : ChgS (fun j => j = w2.heap.size) w6 w7 := ChgS.of_upd u7 rfl
  have sl6 := hp5.lt
  have dd : ∀ j, fp8 r vb vn (.slice none 0 0) [] j → w5.heap.size ≤ j := fun j hj => (l86 j hj).1
  try simp only [↓reduceIte, ↓LL, LM, Value.cells, Nat.reduceAdd, Option.some.injEq, exists_eq_left', decide_true, decide_false, if_true, if_false, reduceCtorEq, cond_true, cond_false]
  rw [pn_ne ptW]
  try simp only [↓reduceIte, ↓LL, LM, Value.cells, Nat.reduceAdd, Option.some.injEq, exists_eq_left', decide_true, decide_false, if_true, if_false, reduceCtorEq, cond_true, cond_false, Option.isNone]
  refine kk w7 w2.heap.size c t rp r up vb vn G S (begun (by omega) k7 (hp6.chg hc7 fun j hj hn => ?_) ?_ ?_ h1 (by omega) gsz lN (by decide) (fun j hj => ⟨?_, fun hn => ?_, fun hn => ?_⟩) (fun j hj => ⟨?_, fun hn => ?_⟩) fun j hj => ?_) ?_
  · have hn : j = w2.heap.size := hn
    rcases hSb j hj with hj | hj <;> omega
  · rw [gL]
    exact (rf6.weak z1).chg hc7 fun j hj hn => by
      have := (hrl j hj).2
      have hn : j = w2.heap.size := hn
      omega
  · have h8 : R8 w5.heap.size w7 r vb vn (.slice none 0 0) [] ⟨List.replicate N (zs 256), List.replicate N (zs 256), [], false⟩ := h86.chg hc7 fun j hj hn => by
      have := dd j hj
      have hn : j = w2.heap.size := hn
      omega
    rw [gL]
    exact ⟨by have := h8.rB; omega, h8.hr, ownV_weak h8.hb (by omega), ownV_weak h8.hn (by omega), ownV_nil, rfl, fun i v l h1 h2 => by simp at h1, h8.sb, h8.sv⟩
  · rcases hSb j hj with hj | hj <;> omega
  · have := hrl j hn
    rcases hSb j hj with hj | hj <;> omega
  · have := dd j hn
    have := (sl6 j hj).2
    omega
  · have := (hrl j hj).2
    omega
  · have := dd j hn
    have := (hrl j hj).2
    omega
  · have := dd j hj
    omega
  · have q1 : Below w.heap.size w w3 := (b1.trans (b2.mono z1)).trans (b3.mono (by omega))
    have q2 : Below w.heap.size w3 w4 := hcw.below (fun j hj => fB j hj) (by omega)
    exact (((q1.trans q2).trans (u5.below (by omega))).trans (b6.mono (by omega))).trans (u7.below (by omega))
theorem Bt.bl (h : Bt B N w x c t rp r up vb vn vo vl X M G k S) (hB : B ≤ w.heap.size) (hc : ChgS (BF x rp r up vb vn vo vl S) w w') : Below B w w' := hc.below (fun j hj => (h.bfB j hj).1) hB
end
end Go.Proofs.YtongpnolikkknaaGreatDoor

namespace Go.Proofs.YtongpnolikkknaaGreatDoor
open Sh RowKit Go.MapKept
theorem ulO8 : Tryz.prog.underlying 86 = some (.slice 92) := by kernel_rfl
theorem scO8 : isSc Tryz.prog 86 = true := by kernel_rfl
theorem op_o8 : Opens Tryz.prog 92 Op8 oOp8 (fun _ => 0) := by
  refine Opens.mono (op_struct Tryz.underlying92 (n := 3) (by kernel_rfl) (opf_cons (n := 1) (by kernel_rfl) (op_int ui) (opf_cons (n := 1) (by kernel_rfl) (op_int ui) (opf_cons (n := 1) (by kernel_rfl) (op_int uu8) opf_nil)))) ?_
  rintro w cs ⟨a, t, c, ⟨⟩⟩ ⟨hl, ⟨h0, _⟩, ⟨h1, _⟩, ⟨h2, _⟩, -⟩
  obtain ⟨c0, c1, c2, rfl⟩ := len3 hl
  have e0 := one_cell (x := c0) h0
  have e1 := one_cell (x := c1) h1
  have e2 := one_cell (x := c2) h2
  exact ⟨⟨a, t, c⟩, by show _ = _; rw [e0, e1, e2], Nat.zero_le _⟩
/-- a number and two scripts -/
def RiOO8 : World → List Value → Int × List Op8 × List Op8 → Prop := fun W vs x => ∃ v u, vs = [.int .i64 x.1, v, u] ∧ rdS 3 oOp8 W v x.2.1 ∧ rdS 3 oOp8 W u x.2.2
theorem oaiOO8 : OpensA Tryz.prog [3, 86, 86] (Int × List Op8 × List Op8) RiOO8 (fun _ => 0) := by
  refine OpensA.mono (oa_one (op_int ui) scI (fun w cs a h => ⟨_, h.1⟩) (oa_one (op_slice ulO8 (n := 3) (by kernel_rfl) op_o8) scO8 (fun w cs a h => ⟨_, h.choose_spec.1⟩) (oa_one (op_slice ulO8 (n := 3) (by kernel_rfl) op_o8) scO8 (fun w cs a h => ⟨_, h.choose_spec.1⟩) oa_nil))) ?_
  rintro W vs ⟨n, l, m, ⟨⟩⟩ ⟨v, r, rfl, ⟨h1, _⟩, v2, r2, rfl, ⟨v', hv, hr, hl⟩, v3, r3, rfl, ⟨v'', hv', hr', hl'⟩, rfl⟩
  exact ⟨(n, l, m), ⟨v2, v3, by rw [one_cell h1], by rw [one_cell hv]; exact hr, by rw [one_cell hv']; exact hr'⟩, Nat.zero_le _⟩
end Go.Proofs.YtongpnolikkknaaGreatDoor

set_option maxRecDepth 20000
set_option maxHeartbeats 4000000
namespace Go.Proofs.YtongpnolikkknaaGreatDoor
open Sh RowKit Go.MapKept
section
variable {B N : Nat} {W w w' w1 w2 : World} {x c t rp r : Nat} {up vb vn vo v vn' vo' vs va : Value} {vl vl' : List Value} {Q : Value → World → Prop} {K : Value → Sh.M} {X X' : P8} {M M' : List (List ByteArray)} {G G' : Pg} {k : Int} {S S1 T : Nat → Prop} {L : List ByteArray}
end
end Go.Proofs.YtongpnolikkknaaGreatDoor

set_option maxRecDepth 20000
set_option maxHeartbeats 4000000
namespace Go.Proofs.YtongpnolikkknaaGreatDoor
open Sh RowKit Go.MapKept
def txt8 (X : P8) (i : Nat) : List ByteArray := (List.range i).map fun (j : Nat) => (rd8 X (j : Int)).1
theorem txt8_succ (X : P8) (i : Nat) : txt8 X (i + 1) = txt8 X i ++ [(rd8 X (i : Int)).1] := by unfold txt8; rw [List.range_succ, List.map_append]; rfl
theorem txt8_len (X : P8) (i : Nat) : (txt8 X i).length = i := by unfold txt8; simp
section
variable {B N : Nat} {W w w' w1 w2 : World} {x c t rp r : Nat} {up vb vn vo v vn' vo' vs va vi vt : Value} {vl vl' : List Value} {Q : Value → World → Prop} {K : Value → Sh.M} {X X1 X' : P8} {M M' : List (List ByteArray)} {G G' : Pg} {k : Int} {S S1 T : Nat → Prop} {L : List ByteArray} {li : List Int} {L' : List (List ByteArray)}
theorem Bt.chgT (h : Bt B N w x c t rp r up vb vn vo vl X M G k S) (hc : ChgS T w w') (hT : ∀ j, BF x rp r up vb vn vo vl S j → ¬ T j) : Bt B N w' x c t rp r up vb vn vo vl X M G k S :=
  ⟨h.xB, hc.keep h.hx (hT x (.inr (.inr (.inr rfl)))), h.pg.chg hc fun j hj => hT j (.inl hj), h.rf.chg hc fun j hj => hT j (.inr (.inl hj)), h.r8.chg hc fun j hj => hT j (.inr (.inr (.inl hj))), h.ok, h.nk, h.mkk, h.sx, h.rx, h.dx⟩
theorem back_a {l : List Op8} (hl : rdS 3 oOp8 W va l) (hl2 : l.length ≤ 200) (h1 : 1 ≤ N) (hN : N ≤ 40) {j1 : Value → Value → Sh.M}
    (kk : ∀ w' c t rp r up vb vn vo vl X G k S, Bt W.heap.size N w' x c t rp r up vb vn vo vl X X.nts G k S → X.ov = false → 0 ≤ k → k ≤ 201 → Below W.heap.size W w' → j1 vs (pv x) w' Q) : ∀ (d m i : Nat) (w : World) c t rp r up vb vn vo vl X G (k : Int) S, i + d = l.length → d < m → Bt W.heap.size N w x c t rp r up vb vn vo vl X X.nts G k S → X.ov = false → 0 ≤ k → k ≤ (i : Int) + 1 → Below W.heap.size W w →
    itr (fun _ _ _ _ => bot) (f12_b2 j1) m va vs (pv x) (.int .i64 ((i : Nat) : Int)) w Q := by
  intro d
  induction d with
  | zero =>
    intro m i w c t rp r up vb vn vo vl X G k S hi hm h ho k0 k1 hb
    obtain ⟨m, rfl⟩ : ∃ x, m = x + 1 := ⟨m - 1, by omega⟩
    show f12_b2 j1 _ _ _ _ _ w Q
    unfold f12_b2
    have lv := lnl_S hl
    have cc : ¬ (i : Int) < ((l.length : Nat) : Int) := by omega
    try simp only [↓reduceIte, ↓LL, LM, Value.cells, Nat.reduceAdd, Option.some.injEq, exists_eq_left', decide_true, decide_false, if_true, if_false, reduceCtorEq, cond_true, cond_false, lv, cc]
    exact kk w c t rp r up vb vn vo vl X G k S h ho k0 (by omega) hb
  | succ d ih =>
    intro m i w c t rp r up vb vn vo vl X G k S hi hm h ho k0 k1 hb
    obtain ⟨m, rfl⟩ : ∃ x, m = x + 1 := ⟨m - 1, by omega⟩
    show f12_b2 j1 _ _ _ _ _ w Q
    unfold f12_b2
    have lv := lnl_S hl
    have cc : (i : Int) < ((l.length : Nat) : Int) := by omega
    have hil : i < l.length := by omega
    have h3 : IntKind.i64.wrap ((i : Int) + 1) = ((i + 1 : Nat) : Int) := by rw [w64 (by omega) (by omega)]; rfl
    obtain ⟨aad, es, he1, he2, he3, hia⟩ := rdS_at (rdS_below oOp8_st hb hl) hil
    have he3 : es = _ := he3
    subst he3
    generalize l[i] = o at *
    try simp only [↓reduceIte, ↓LL, LM, Value.cells, Nat.reduceAdd, Option.some.injEq, exists_eq_left', decide_true, decide_false, if_true, if_false, reduceCtorEq, cond_true, cond_false, lv, cc, hia]
    refine ldn_at he2 he1 ?_
    try simp only [↓reduceIte, ↓LL, LM, Value.cells, Nat.reduceAdd, Option.some.injEq, exists_eq_left', decide_true, decide_false, if_true, if_false, reduceCtorEq, cond_true, cond_false]
    refine f56_s fun w2 b2 => ?_
    have h2 := h.below b2
    have hb2 := bt hb b2
    have he2' := cellsAt_below b2 he2
    by_cases c7 : um o.k 8 = 7
    · have d7 : decide (um o.k 8 ≠ 7) = false := decide_eq_false fun hn => hn c7
      try simp only [↓reduceIte, ↓LL, LM, Value.cells, Nat.reduceAdd, Option.some.injEq, exists_eq_left', decide_true, decide_false, if_true, if_false, reduceCtorEq, cond_true, cond_false, d7]
      unfold f12_j3
      try simp only [↓reduceIte, ↓LL, LM, Value.cells, Nat.reduceAdd, Option.some.injEq, exists_eq_left', decide_true, decide_false, if_true, if_false, reduceCtorEq, cond_true, cond_false, h3]
      exact ih m (i + 1) w2 c t rp r up vb vn vo vl X G k S (by omega) (by omega) h2 ho k0 (by omega) hb2
    · have d7 : decide (um o.k 8 ≠ 7) = true := decide_eq_true c7
      try simp only [↓reduceIte, ↓LL, LM, Value.cells, Nat.reduceAdd, Option.some.injEq, exists_eq_left', decide_true, decide_false, if_true, if_false, reduceCtorEq, cond_true, cond_false, d7, hia]
      refine ldn_at he2' he1 ?_
      try simp only [↓reduceIte, ↓LL, LM, Value.cells, Nat.reduceAdd, Option.some.injEq, exists_eq_left', decide_true, decide_false, if_true, if_false, reduceCtorEq, cond_true, cond_false]
      refine f57_s h2 h1 hN k0 (by omega) hb2.size (fun _ => rfl) fun w3 z rp3 up3 vn3 vo3 vl3 X3 M3 G3 S3 h3' hf3 hc3 hs3 hz => ?_
      obtain ⟨rfl, rfl⟩ := hz rfl
      have hb3 : Below W.heap.size W w3 := hb2.trans (h2.bl hb2.size hc3)
      try simp only [↓reduceIte, ↓LL, LM, Value.cells, Nat.reduceAdd, Option.some.injEq, exists_eq_left', decide_true, decide_false, if_true, if_false, reduceCtorEq, cond_true, cond_false]
      unfold f12_j3
      try simp only [↓reduceIte, ↓LL, LM, Value.cells, Nat.reduceAdd, Option.some.injEq, exists_eq_left', decide_true, decide_false, if_true, if_false, reduceCtorEq, cond_true, cond_false, h3]
      exact ih m (i + 1) w3 c t rp3 r up3 vb vn3 vo3 vl3 X3 G3 (k + 1) S3 (by omega) (by omega) h3' ((hs3.1 c7).1.trans ho) (by omega) (by omega) hb3
/-- the pages' texts read -/
theorem back_t (h1 : 1 ≤ N) (hN : N ≤ 40) {a1 a2 a3 a4 : Value} {j4 : Value → Value → Value → Value → Value → Value → Value → Sh.M}
    (kk : ∀ w' S k vt, Bt W.heap.size N w' x c t rp r up vb vn vo vl X M G k S → 0 ≤ k → k ≤ 300 → Below W.heap.size W w' → ownI W.heap.size 3 .i64 w' vi li → (∀ g, vi.ownBlock = some g → ¬ BF x rp r up vb vn vo vl S g) → ownV W.heap.size 9 w' vt ((txt8 X N).map .string) → (∀ g, vt.ownBlock = some g → ¬ BF x rp r up vb vn vo vl S g) → j4 a1 (pv x) a2 a3 a4 vi vt w' Q) :
    ∀ (d m i : Nat) (w : World) (k : Int) (S : Nat → Prop) (vt : Value), i + d = N → d < m → Bt W.heap.size N w x c t rp r up vb vn vo vl X M G k S → 0 ≤ k → k ≤ 250 + (i : Int) → Below W.heap.size W w → ownI W.heap.size 3 .i64 w vi li → (∀ g, vi.ownBlock = some g → ¬ BF x rp r up vb vn vo vl S g) → ownV W.heap.size 9 w vt ((txt8 X i).map .string) → (∀ g, vt.ownBlock = some g → ¬ BF x rp r up vb vn vo vl S g) →
    itr (fun _ _ _ _ _ _ _ _ => bot) (f12_b5 j4) m a1 (pv x) a2 a3 a4 vi vt (.int .i64 ((i : Nat) : Int)) w Q := by
  intro d
  induction d with
  | zero =>
    intro m i w k S vt hi hm h k0 k1 hb oi si ot st
    obtain ⟨m, rfl⟩ : ∃ x, m = x + 1 := ⟨m - 1, by omega⟩
    show f12_b5 j4 _ _ _ _ _ _ _ _ _ w Q
    unfold f12_b5
    obtain ⟨x0, x1, x2, x3⟩ := h.cells
    have cc : ¬ (i : Int) < ((N : Nat) : Int) := by omega
    try simp only [↓reduceIte, ↓LL, LM, Value.cells, Nat.reduceAdd, Option.some.injEq, exists_eq_left', decide_true, decide_false, if_true, if_false, reduceCtorEq, cond_true, cond_false, x0]
    refine h.pg.pages ?_
    try simp only [↓reduceIte, ↓LL, LM, Value.cells, Nat.reduceAdd, Option.some.injEq, exists_eq_left', decide_true, decide_false, if_true, if_false, reduceCtorEq, cond_true, cond_false, cc]
    have : i = N := by omega
    subst this
    exact kk w S k vt h k0 (by omega) hb oi si ot st
  | succ d ih =>
    intro m i w k S vt hi hm h k0 k1 hb oi si ot st
    obtain ⟨m, rfl⟩ : ∃ x, m = x + 1 := ⟨m - 1, by omega⟩
    show f12_b5 j4 _ _ _ _ _ _ _ _ _ w Q
    unfold f12_b5
    obtain ⟨x0, x1, x2, x3⟩ := h.cells
    have cc : (i : Int) < ((N : Nat) : Int) := by omega
    have h3 : IntKind.i64.wrap ((i : Int) + 1) = ((i + 1 : Nat) : Int) := by rw [w64 (by omega) (by omega)]; rfl
    try simp only [↓reduceIte, ↓LL, LM, Value.cells, Nat.reduceAdd, Option.some.injEq, exists_eq_left', decide_true, decide_false, if_true, if_false, reduceCtorEq, cond_true, cond_false, x0]
    refine h.pg.pages ?_
    try simp only [↓reduceIte, ↓LL, LM, Value.cells, Nat.reduceAdd, Option.some.injEq, exists_eq_left', decide_true, decide_false, if_true, if_false, reduceCtorEq, cond_true, cond_false, cc, x1]
    refine h.pg.read h1 hN k0 (by omega) fun w2 S2 hp hS hc => ?_
    obtain ⟨m1, m2, m3⟩ := h.mid hc
    obtain ⟨f1, f2, f3⟩ := h.fin hc hp hS m3 (fun j hj => .inl hj) (ChgS.refl _ _) h.ok (h.nk.mono rfl) h.mkk.monoM
    have hb2 := hb.trans (h.bl hb.size f2)
    have oi2 : ownI W.heap.size 3 .i64 w2 vi li := ownI_chg oi f2 si
    have ot2 := ownV_chg ot f2 st
    have si2 : ∀ g, vi.ownBlock = some g → ¬ BF x rp r up vb vn vo vl S2 g := fun g hg hn => by
      rcases f3 g hn with hn | hn
      · exact si g hg hn
      · have := (ownI_lt oi g hg).2.1
        omega
    have st2 : ∀ g, vt.ownBlock = some g → ¬ BF x rp r up vb vn vo vl S2 g := fun g hg hn => by
      rcases f3 g hn with hn | hn
      · exact st g hg hn
      · have := (ownV_lt ot g hg).2.1
        omega
    try simp only [↓reduceIte, ↓LL, LM, Value.cells, Nat.reduceAdd, Option.some.injEq, exists_eq_left', decide_true, decide_false, if_true, if_false, reduceCtorEq, cond_true, cond_false, get0, get1]
    refine ap_V slS rfl rfl rfl ot2 (by rw [List.length_map, txt8_len]; unfold maxLen; omega) (by rw [List.length_map, txt8_len]; omega) hb2.size fun v4 w4 o4 hk4 hz4 hos fr4 => ?_
    have hc4 : ChgS (fun j => vt.ownBlock = some j) w2 w4 := ⟨hos.1, hos.2.1, hos.2.2, hz4, hk4⟩
    have e4 : (txt8 X i).map Value.string ++ [Value.string (rd8 X (i : Int)).1] = (txt8 X (i + 1)).map .string := by rw [txt8_succ, List.map_append]; rfl
    rw [e4] at o4
    have f4 := f1.chgT hc4 fun j hj hn => st2 j hn hj
    have oi4 : ownI W.heap.size 3 .i64 w4 vi li := ownI_chg oi2 hc4 fun g hg hn => by
      obtain ⟨_, _, cur, hcur⟩ := ownV_lt ot2 g hn
      obtain ⟨_, _, cur', hcur'⟩ := ownI_lt oi2 g hg
      exact absurd (ty_ne hcur hcur') (by decide)
    try simp only [↓reduceIte, ↓LL, LM, Value.cells, Nat.reduceAdd, Option.some.injEq, exists_eq_left', decide_true, decide_false, if_true, if_false, reduceCtorEq, cond_true, cond_false, h3]
    refine ih m (i + 1) w4 (k + 1) S2 v4 (by omega) (by omega) f4 (by omega) (by omega) (hb2.trans (hc4.below (fun j hj => (ownV_lt ot2 j hj).1) hb2.size)) oi4 si2 o4 fun g hg hn => ?_
    rcases fr4 g hg with hg | hg
    · exact st2 g hg hn
    · have := (f1.bfB g hn).2
      omega
/-- steps between -/
theorem back_b {l : List Op8} (hl : rdS 3 oOp8 W vs l) (hl2 : l.length ≤ 200) (h1 : 1 ≤ N) (hN : N ≤ 40) {a2 a3 a4 : Value} {j6 : Value → Value → Value → Value → Value → Value → Sh.M} {xt : List Value}
    (kk : ∀ w' rp r up vb vn vo vl X M k S, Bt W.heap.size N w' x c t rp r up vb vn vo vl X M G k S → X.ov = false → X.base = X1.base → (∃ e, X.nts = X1.nts ++ e) → 0 ≤ k → k ≤ 600 → Below W.heap.size W w' → ownI W.heap.size 3 .i64 w' vi li → (∀ g, vi.ownBlock = some g → ¬ BF x rp r up vb vn vo vl S g) → ownV W.heap.size 9 w' vt xt → (∀ g, vt.ownBlock = some g → ¬ BF x rp r up vb vn vo vl S g) → j6 (pv x) a2 a3 a4 vi vt w' Q) :
    ∀ (d m i : Nat) (w : World) rp r up vb vn vo vl X M (k : Int) (S : Nat → Prop), i + d = l.length → d < m → Bt W.heap.size N w x c t rp r up vb vn vo vl X M G k S → X.ov = false → X.base = X1.base → (∃ e, X.nts = X1.nts ++ e) → 0 ≤ k → k ≤ 350 + (i : Int) → Below W.heap.size W w → ownI W.heap.size 3 .i64 w vi li → (∀ g, vi.ownBlock = some g → ¬ BF x rp r up vb vn vo vl S g) → ownV W.heap.size 9 w vt xt → (∀ g, vt.ownBlock = some g → ¬ BF x rp r up vb vn vo vl S g) →
    itr (fun _ _ _ _ _ _ _ _ => bot) (f12_b7 j6) m vs (pv x) a2 a3 a4 vi vt (.int .i64 ((i : Nat) : Int)) w Q := by
  intro d
  induction d with
  | zero =>
    intro m i w rp r up vb vn vo vl X M k S hi hm h ho hbs hnt k0 k1 hb oi si ot st
    obtain ⟨m, rfl⟩ : ∃ x, m = x + 1 := ⟨m - 1, by omega⟩
    show f12_b7 j6 _ _ _ _ _ _ _ _ _ w Q
    unfold f12_b7
    have lv := lnl_S hl
    have cc : ¬ (i : Int) < ((l.length : Nat) : Int) := by omega
    try simp only [↓reduceIte, ↓LL, LM, Value.cells, Nat.reduceAdd, Option.some.injEq, exists_eq_left', decide_true, decide_false, if_true, if_false, reduceCtorEq, cond_true, cond_false, lv, cc]
    exact kk w rp r up vb vn vo vl X M k S h ho hbs hnt k0 (by omega) hb oi si ot st
  | succ d ih =>
    intro m i w rp r up vb vn vo vl X M k S hi hm h ho hbs hnt k0 k1 hb oi si ot st
    obtain ⟨m, rfl⟩ : ∃ x, m = x + 1 := ⟨m - 1, by omega⟩
    show f12_b7 j6 _ _ _ _ _ _ _ _ _ w Q
    unfold f12_b7
    have lv := lnl_S hl
    have cc : (i : Int) < ((l.length : Nat) : Int) := by omega
    have hil : i < l.length := by omega
    have h3 : IntKind.i64.wrap ((i : Int) + 1) = ((i + 1 : Nat) : Int) := by rw [w64 (by omega) (by omega)]; rfl
    obtain ⟨aad, es, he1, he2, he3, hia⟩ := rdS_at (rdS_below oOp8_st hb hl) hil
    have he3 : es = _ := he3
    subst he3
    generalize l[i] = o at *
    try simp only [↓reduceIte, ↓LL, LM, Value.cells, Nat.reduceAdd, Option.some.injEq, exists_eq_left', decide_true, decide_false, if_true, if_false, reduceCtorEq, cond_true, cond_false, lv, cc, hia]
    refine ldn_at he2 he1 ?_
    try simp only [↓reduceIte, ↓LL, LM, Value.cells, Nat.reduceAdd, Option.some.injEq, exists_eq_left', decide_true, decide_false, if_true, if_false, reduceCtorEq, cond_true, cond_false]
    refine f56_s fun w2 b2 => ?_
    have h2 := h.below b2
    have hb2 := bt hb b2
    have he2' := cellsAt_below b2 he2
    have oi2 := ownI_below oi b2
    have ot2 := ownV_below ot b2
    by_cases c7 : um o.k 8 = 7
    · have d7 : decide (um o.k 8 ≠ 7) = false := decide_eq_false fun hn => hn c7
      try simp only [↓reduceIte, ↓LL, LM, Value.cells, Nat.reduceAdd, Option.some.injEq, exists_eq_left', decide_true, decide_false, if_true, if_false, reduceCtorEq, cond_true, cond_false, d7]
      unfold f12_j8
      try simp only [↓reduceIte, ↓LL, LM, Value.cells, Nat.reduceAdd, Option.some.injEq, exists_eq_left', decide_true, decide_false, if_true, if_false, reduceCtorEq, cond_true, cond_false, h3]
      exact ih m (i + 1) w2 rp r up vb vn vo vl X M k S (by omega) (by omega) h2 ho hbs hnt k0 (by omega) hb2 oi2 si ot2 st
    · have d7 : decide (um o.k 8 ≠ 7) = true := decide_eq_true c7
      try simp only [↓reduceIte, ↓LL, LM, Value.cells, Nat.reduceAdd, Option.some.injEq, exists_eq_left', decide_true, decide_false, if_true, if_false, reduceCtorEq, cond_true, cond_false, d7, hia]
      refine ldn_at he2' he1 ?_
      try simp only [↓reduceIte, ↓LL, LM, Value.cells, Nat.reduceAdd, Option.some.injEq, exists_eq_left', decide_true, decide_false, if_true, if_false, reduceCtorEq, cond_true, cond_false]
      refine f56_s fun w3 b3 => ?_
      have h3' := h2.below b3
      have hb3 := bt hb2 b3
      have he3' := cellsAt_below b3 he2'
      have oi3 := ownI_below oi2 b3
      have ot3 := ownV_below ot2 b3
      by_cases c6 : um o.k 8 = 6
      · have d6 : decide (um o.k 8 ≠ 6) = false := decide_eq_false fun hn => hn c6
        try simp only [↓reduceIte, ↓LL, LM, Value.cells, Nat.reduceAdd, Option.some.injEq, exists_eq_left', decide_true, decide_false, if_true, if_false, reduceCtorEq, cond_true, cond_false, d6]
        unfold f12_j8
        try simp only [↓reduceIte, ↓LL, LM, Value.cells, Nat.reduceAdd, Option.some.injEq, exists_eq_left', decide_true, decide_false, if_true, if_false, reduceCtorEq, cond_true, cond_false, h3]
        exact ih m (i + 1) w3 rp r up vb vn vo vl X M k S (by omega) (by omega) h3' ho hbs hnt k0 (by omega) hb3 oi3 si ot3 st
      · have d6 : decide (um o.k 8 ≠ 6) = true := decide_eq_true c6
        try simp only [↓reduceIte, ↓LL, LM, Value.cells, Nat.reduceAdd, Option.some.injEq, exists_eq_left', decide_true, decide_false, if_true, if_false, reduceCtorEq, cond_true, cond_false, d6, hia]
        refine ldn_at he3' he1 ?_
        try simp only [↓reduceIte, ↓LL, LM, Value.cells, Nat.reduceAdd, Option.some.injEq, exists_eq_left', decide_true, decide_false, if_true, if_false, reduceCtorEq, cond_true, cond_false]
        refine f57_s h3' h1 hN k0 (by omega) hb3.size (fun h => absurd h c6) fun w4 z rp4 up4 vn4 vo4 vl4 X4 M4 G4 S4 h4 hf4 hc4 hs4 _ => ?_
        obtain ⟨s1, s2, rfl⟩ := hs4.1 c7
        obtain ⟨e4, s3⟩ := hs4.2 c7 c6
        have hb4 : Below W.heap.size W w4 := hb3.trans (h3'.bl hb3.size hc4)
        try simp only [↓reduceIte, ↓LL, LM, Value.cells, Nat.reduceAdd, Option.some.injEq, exists_eq_left', decide_true, decide_false, if_true, if_false, reduceCtorEq, cond_true, cond_false]
        unfold f12_j8
        try simp only [↓reduceIte, ↓LL, LM, Value.cells, Nat.reduceAdd, Option.some.injEq, exists_eq_left', decide_true, decide_false, if_true, if_false, reduceCtorEq, cond_true, cond_false, h3]
        obtain ⟨e, hnt⟩ := hnt
        refine ih m (i + 1) w4 rp4 r up4 vb vn4 vo4 vl4 X4 M4 (k + 1) S4 (by omega) (by omega) h4 (s1.trans ho) (s2.trans hbs) ⟨e ++ e4, by rw [s3, hnt, List.append_assoc]⟩ (by omega) (by omega) hb4 (ownI_chg oi3 hc4 si) (fun g hg hn => ?_) (ownV_chg ot3 hc4 st) (fun g hg hn => ?_)
        · rcases hf4 g hn with hn | hn
          · exact si g hg hn
          · have := (ownI_lt oi3 g hg).2.1
            omega
        · rcases hf4 g hn with hn | hn
          · exact st g hg hn
          · have := (ownV_lt ot3 g hg).2.1
            omega
/-- the pages' texts read again -/
theorem back_r (h1 : 1 ≤ N) (hN : N ≤ 40) {j9 : Sh.M} {xt : List ByteArray} (hx : xt = txt8 X N) (kk : ∀ w', Below W.heap.size W w' → j9 w' Q) :
    ∀ (d m i : Nat) (w : World) (k : Int) (S : Nat → Prop), i + d = N → d < m → Pg8 W.heap.size N w t c X G k S → w.heap[x]? = some (.cells #[pv c, pv t, pv rp, pv r] 96 (0, 0)) → (∀ j, S j → j ≠ x) → 0 ≤ k → k ≤ 700 + (i : Int) → Below W.heap.size W w → ownV W.heap.size 9 w vt (xt.map .string) → (∀ g, vt.ownBlock = some g → ¬ S g) →
    itr (fun _ _ _ => bot) (f12_b10 j9) m (pv x) vt (.int .i64 ((i : Nat) : Int)) w Q := by
  subst hx
  intro d
  induction d with
  | zero =>
    intro m i w k S hi hm h hx sx k0 k1 hb ot st
    obtain ⟨m, rfl⟩ : ∃ x, m = x + 1 := ⟨m - 1, by omega⟩
    show f12_b10 j9 _ _ _ _ w Q
    unfold f12_b10
    have x0 : w.cell? ⟨x, 0, none⟩ = some (pv c) := by rw [cell_of_blk hx]; rfl
    have cc : ¬ (i : Int) < ((N : Nat) : Int) := by omega
    try simp only [↓reduceIte, ↓LL, LM, Value.cells, Nat.reduceAdd, Option.some.injEq, exists_eq_left', decide_true, decide_false, if_true, if_false, reduceCtorEq, cond_true, cond_false, x0]
    refine h.pages ?_
    try simp only [↓reduceIte, ↓LL, LM, Value.cells, Nat.reduceAdd, Option.some.injEq, exists_eq_left', decide_true, decide_false, if_true, if_false, reduceCtorEq, cond_true, cond_false, cc]
    exact kk w hb
  | succ d ih =>
    intro m i w k S hi hm h hx sx k0 k1 hb ot st
    obtain ⟨m, rfl⟩ : ∃ x, m = x + 1 := ⟨m - 1, by omega⟩
    show f12_b10 j9 _ _ _ _ w Q
    unfold f12_b10
    have x0 : w.cell? ⟨x, 0, none⟩ = some (pv c) := by rw [cell_of_blk hx]; rfl
    have x1 : w.cell? ⟨x, 1, none⟩ = some (pv t) := by rw [cell_of_blk hx]; rfl
    have cc : (i : Int) < ((N : Nat) : Int) := by omega
    have h3 : IntKind.i64.wrap ((i : Int) + 1) = ((i + 1 : Nat) : Int) := by rw [w64 (by omega) (by omega)]; rfl
    try simp only [↓reduceIte, ↓LL, LM, Value.cells, Nat.reduceAdd, Option.some.injEq, exists_eq_left', decide_true, decide_false, if_true, if_false, reduceCtorEq, cond_true, cond_false, x0]
    refine h.pages ?_
    try simp only [↓reduceIte, ↓LL, LM, Value.cells, Nat.reduceAdd, Option.some.injEq, exists_eq_left', decide_true, decide_false, if_true, if_false, reduceCtorEq, cond_true, cond_false, cc, x1]
    refine h.read h1 hN k0 (by omega) fun w2 S2 hp hS hc => ?_
    have ot2 := ownV_chg ot hc st
    obtain ⟨g, hg1, hg2, hg3⟩ := ownS_at ot2 (i := i) (by rw [txt8_len]; omega)
    have eg : (txt8 X N)[i]'(by rw [txt8_len]; omega) = (rd8 X (i : Int)).1 := by simp [txt8]
    rw [eg] at hg2
    have hd : decide ((rd8 X (i : Int)).1 ≠ (rd8 X (i : Int)).1) = false := decide_eq_false fun hn => hn rfl
    have xl := blk_lt hx
    try simp only [↓reduceIte, ↓LL, LM, Value.cells, Nat.reduceAdd, Option.some.injEq, exists_eq_left', decide_true, decide_false, if_true, if_false, reduceCtorEq, cond_true, cond_false, get0, get1, hg3, hg2, hd, h3]
    refine ih m (i + 1) w2 (k + 1) S2 (by omega) (by omega) hp (hc.keep hx fun hn => sx x hn rfl) (fun j hj => ?_) (by omega) (by omega) (hb.trans (hc.below (fun j hj => (h.lt j hj).1) hb.size)) ot2 fun g hg hn => ?_
    · rcases hS j hj with hj | hj
      · exact sx j hj
      · omega
    · rcases hS g hn with hn | hn
      · exact st g hg hn
      · have := (ownV_lt ot g hg).2.1
        omega
theorem back_j6 {xt : List ByteArray} (h1 : 1 ≤ N) (hN : N ≤ 40) (h : Bt W.heap.size N w x c t rp r up vb vn vo vl X M G k S) (ho : X.ov = false) (ho1 : X1.ov = false) (ok1 : Ok8 X1 N) (hbs : X.base = X1.base) (hnt : ∃ e, X.nts = (L' ++ [X1.now]) ++ e) (k0 : 0 ≤ k) (k1 : k ≤ 600) (hb : Below W.heap.size W w) (hli : li = (ch8 X1).map fun (j : Nat) => (j : Int)) (oi : ownI W.heap.size 3 .i64 w vi li) (si : ∀ g, vi.ownBlock = some g → ¬ BF x rp r up vb vn vo vl S g) (hxt : xt = txt8 X1 N) (ot : ownV W.heap.size 9 w vt (xt.map .string)) (st : ∀ g, vt.ownBlock = some g → ¬ BF x rp r up vb vn vo vl S g)
    (kk : ∀ w', Below W.heap.size W w' → Q (.bool true) w') : f12_j6 (pv x) (.int .i64 ((L'.length : Nat) : Int)) (.string (hd8 X1)) (.int .i64 ((us8 X1 : Nat) : Int)) vi vt w Q := by
  unfold f12_j6
  obtain ⟨x0, x1, x2, x3⟩ := h.cells
  try simp only [↓reduceIte, ↓LL, LM, Value.cells, Nat.reduceAdd, Option.some.injEq, exists_eq_left', decide_true, decide_false, if_true, if_false, reduceCtorEq, cond_true, cond_false, x1]
  refine h.pg.back h1 k0 (by omega) hb.size fun w2 S2 hp hS hc => ?_
  obtain ⟨e, hnt⟩ := hnt
  have hln : (L'.length : Int) < (X.nts.length : Int) := by rw [hnt, List.length_append, List.length_append]; simp only [List.length_cons, List.length_nil]; omega
  have e0 := bkE_0 (X := X) (k := ((L'.length : Nat) : Int)) ho (by omega) hln
  have eX : bkX X ((L'.length : Nat) : Int) = { X1 with nts := X.nts.take (L'.length + 1) } := by
    rw [bkX_0 e0, Int.toNat_natCast]
    have en : X.nts.getD L'.length [] = X1.now := by
      rw [hnt, List.getD_eq_getElem?_getD, List.getElem?_append_left (by rw [List.length_append]; simp), List.getElem?_append_right (Nat.le_refl _), Nat.sub_self]
      rfl
    rw [en, hbs, ho, ho1]
  rw [eX] at hp
  rw [e0]
  generalize X.nts.take (L'.length + 1) = Z at hp
  have bl2 := hc.below (B := W.heap.size) (fun j hj => (h.pg.lt j hj).1) hb.size
  have hb2 := hb.trans bl2
  have hx2 := hc.keep h.hx fun hn => (h.sx x hn).1 rfl
  have y1 : w2.cell? ⟨x, 1, none⟩ = some (pv t) := by rw [cell_of_blk hx2]; rfl
  have xl := h.xlt
  have sx2 : ∀ j, S2 j → j ≠ x := fun j hj => by
    rcases hS j hj with hj | hj
    · exact (h.sx j hj).1
    · omega
  have oi2 : ownI W.heap.size 3 .i64 w2 vi li := ownI_chg oi hc fun g hg hn => si g hg (.inl hn)
  have ot2 := ownV_chg ot hc fun g hg hn => st g hg (.inl hn)
  have si2 : ∀ g, vi.ownBlock = some g → ¬ S2 g := fun g hg hn => by
    rcases hS g hn with hn | hn
    · exact si g hg (.inl hn)
    · have := (ownI_lt oi g hg).2.1
      omega
  have st2 : ∀ g, vt.ownBlock = some g → ¬ S2 g := fun g hg hn => by
    rcases hS g hn with hn | hn
    · exact st g hg (.inl hn)
    · have := (ownV_lt ot g hg).2.1
      omega
  have hn0 : ∀ s : Int, decide (s ≠ s) = false := fun s => decide_eq_false fun h => h rfl
  have hn1 : ∀ s : ByteArray, decide (s ≠ s) = false := fun s => decide_eq_false fun h => h rfl
  try simp only [↓reduceIte, ↓LL, LM, Value.cells, Nat.reduceAdd, Option.some.injEq, exists_eq_left', decide_true, decide_false, if_true, if_false, reduceCtorEq, cond_true, cond_false, ne_eq, y1, not_true_eq_false]
  refine hp.head h1 ?_
  rw [show hd8 { X1 with nts := Z } = hd8 X1 from rfl]
  try simp only [↓reduceIte, ↓LL, LM, Value.cells, Nat.reduceAdd, Option.some.injEq, exists_eq_left', decide_true, decide_false, if_true, if_false, reduceCtorEq, cond_true, cond_false, hn1, y1]
  refine hp.used h1 hN fun w3 hp3 b3 => ?_
  rw [show us8 { X1 with nts := Z } = us8 X1 from rfl]
  have hx3 := stay b3 hx2
  have z1 : w3.cell? ⟨x, 1, none⟩ = some (pv t) := by rw [cell_of_blk hx3]; rfl
  have oi3 := ownI_below oi2 b3
  have ot3 := ownV_below ot2 b3
  have hb3 : Below W.heap.size W w3 := hb2.trans (b3.mono hb2.size)
  try simp only [↓reduceIte, ↓LL, LM, Value.cells, Nat.reduceAdd, Option.some.injEq, exists_eq_left', decide_true, decide_false, if_true, if_false, reduceCtorEq, cond_true, cond_false, hn0, z1]
  refine hp3.changed h1 hN (by omega) (by omega) hb3.size fun w4 S4 v4 hp4 hS4 hc4 o4 s4 => ?_
  rw [show ch8 { X1 with nts := Z } = ch8 X1 from rfl] at o4
  have hx4 := hc4.keep hx3 fun hn => sx2 x hn rfl
  have oi4 : ownI W.heap.size 3 .i64 w4 vi li := ownI_chg oi3 hc4 fun g hg hn => si2 g hg hn
  have ot4 := ownV_chg ot3 hc4 fun g hg hn => st2 g hg hn
  have hb4 : Below W.heap.size W w4 := hb3.trans (hc4.below (fun j hj => (hp3.lt j hj).1) hb3.size)
  have hcl : li.length ≤ 140737488355328 := by
    have := chL_le X1 X1.now.length
    rw [ok1.len] at this
    rw [hli, List.length_map]
    unfold ch8
    rw [if_neg (by rw [ho1]; intro h; cases h), ok1.len]
    omega
  subst hli
  try simp only [↓reduceIte, ↓LL, LM, Value.cells, Nat.reduceAdd, Option.some.injEq, exists_eq_left', decide_true, decide_false, if_true, if_false, reduceCtorEq, cond_true, cond_false]
  refine f33_s (ownI_rd o4) (ownI_rd oi4) hcl fun w5 b5 => ?_
  rw [decide_eq_true rfl]
  have hb5 : Below W.heap.size W w5 := hb4.trans (b5.mono hb4.size)
  try simp only [↓reduceIte, ↓LL, LM, Value.cells, Nat.reduceAdd, Option.some.injEq, exists_eq_left', decide_true, decide_false, if_true, if_false, reduceCtorEq, cond_true, cond_false]
  have z3 : w2.heap.size ≤ w3.heap.size := b3.size
  refine ⟨_, back_r (W := W) (X := { X1 with nts := Z }) (t := t) (c := c) (G := G) (rp := rp) (r := r) h1 hN (xt := xt) (by rw [hxt]; rfl) (fun w6 b6 => ?_) N (N + 1) 0 w5 (k + 1 + 1) S4 (by omega) (by omega) (hp4.below b5) (stay b5 hx4) (fun j hj => ?_) (by omega) (by omega) hb5 (ownV_below ot4 b5) fun g hg hn => ?_⟩
  · unfold f12_j9
    try simp only [↓reduceIte, ↓LL, LM, Value.cells, Nat.reduceAdd, Option.some.injEq, exists_eq_left', decide_true, decide_false, if_true, if_false, reduceCtorEq, cond_true, cond_false]
    exact kk w6 b6
  · rcases hS4 j hj with hj | hj
    · exact sx2 j hj
    · have := blk_lt hx2
      omega
  · rcases hS4 g hn with hn | hn
    · exact st2 g hg hn
    · have := (ownV_lt ot3 g hg).2.1
      omega
theorem back_j1 {l : List Op8} (hl : rdS 3 oOp8 W vs l) (hl2 : l.length ≤ 200) (h1 : 1 ≤ N) (hN : N ≤ 40) (h : Bt W.heap.size N w x c t rp r up vb vn vo vl X X.nts G k S) (ho : X.ov = false) (k0 : 0 ≤ k) (k1 : k ≤ 201) (hb : Below W.heap.size W w)
    (kk : ∀ w', Below W.heap.size W w' → Q (.bool true) w') : f12_j1 vs (pv x) w Q := by
  unfold f12_j1
  obtain ⟨x0, x1, x2, x3⟩ := h.cells
  try simp only [↓reduceIte, ↓LL, LM, Value.cells, Nat.reduceAdd, Option.some.injEq, exists_eq_left', decide_true, decide_false, if_true, if_false, reduceCtorEq, cond_true, cond_false, x1]
  refine h.pg.save h1 k0 (by omega) hb.size fun w2 S2 hp hS hc => ?_
  obtain ⟨m1, m2, m3⟩ := h.mid hc
  have hov : ¬ X.ov = true := by rw [ho]; intro h; cases h
  have eE : svE X = (X.nts.length : Nat) := by unfold svE; rw [if_neg hov]
  have eX : svX X = { X with nts := X.nts ++ [X.now] } := by unfold svX; rw [if_neg hov]
  obtain ⟨f1, f2, f3⟩ := h.fin (M' := X.nts) hc hp hS (by rw [eX]; exact m3) (fun j hj => .inl hj) (ChgS.refl _ _) (svX_ok h.ok) (h.nk.save h.ok) h.mkk.monoM
  have hb2 := hb.trans (h.bl hb.size f2)
  rw [eE]
  have f1d := f1.drw
  obtain ⟨y0, y1, y2, y3⟩ := f1.cells
  have y1d : (drw w2).cell? ⟨x, 1, none⟩ = some (pv t) := y1
  have bd : Below W.heap.size W (drw w2) := ⟨hb2.os, hb2.tape, hb2.output, hb2.size, hb2.block⟩
  try simp only [↓reduceIte, ↓LL, LM, Value.cells, Nat.reduceAdd, Option.some.injEq, exists_eq_left', decide_true, decide_false, if_true, if_false, reduceCtorEq, cond_true, cond_false, y1, y1d]
  refine f1d.pg.head h1 ?_
  refine ⟨by rw [Kld_e]; exact y1d, ?_⟩
  refine ⟨by rw [Kld_e]; exact y1d, ?_⟩
  refine f1d.pg.used h1 hN fun w3 _ b3 => ?_
  have h3 := f1d.below b3
  refine ⟨by rw [Kld_e]; exact h3.cells.2.1, ?_⟩
  have hb3 : Below W.heap.size W w3 := bd.trans (b3.mono bd.size)
  refine h3.pg.changed h1 hN (by omega) (by omega) hb3.size fun w4 S4 v4 hp4 hS4 hc4 o4 s4 => ?_
  obtain ⟨q1, q2, q3⟩ := h3.mid hc4
  obtain ⟨g1, g2, g3⟩ := h3.fin hc4 hp4 hS4 q3 (fun j hj => .inl hj) (ChgS.refl _ _) h3.ok (h3.nk.mono rfl) h3.mkk.monoM
  have hb4 : Below W.heap.size W w4 := hb3.trans (h3.bl hb3.size g2)
  have l3 := h3.bfB
  try simp only [↓reduceIte, ↓LL, LM, Value.cells, Nat.reduceAdd, Option.some.injEq, exists_eq_left', decide_true, decide_false, if_true, if_false, reduceCtorEq, cond_true, cond_false]
  refine ⟨_, back_t (W := W) (li := (ch8 (svX X)).map fun (j : Nat) => (j : Int)) h1 hN (fun w5 S5 k5 vt h5 k50 k51 hb5 oi5 si5 ot5 st5 => ?_) N (N + 1) 0 w4 (k + 1 + 1) S4 (.slice none 0 0) (by omega) (by omega) g1 (by omega) (by omega) hb4 (ownI_weak o4 hb3.size) (fun g hg hn => ?_) ownV_nil (fun g hg => by cases hg)⟩
  · unfold f12_j4
    try simp only [↓reduceIte, ↓LL, LM, Value.cells, Nat.reduceAdd, Option.some.injEq, exists_eq_left', decide_true, decide_false, if_true, if_false, reduceCtorEq, cond_true, cond_false]
    refine ⟨_, back_b (W := W) (X1 := svX X) (xt := (txt8 (svX X) N).map .string) (li := (ch8 (svX X)).map fun (j : Nat) => (j : Int)) hl hl2 h1 hN (fun w6 rp r up vb vn vo vl X6 M6 k6 S6 h6 o6 b6 n6 k60 k61 hb6 oi6 si6 ot6 st6 => ?_) l.length (l.length + 1) 0 w5 rp r up vb vn vo vl (svX X) X.nts k5 S5 (by omega) (by omega) h5 (by rw [eX]; exact ho) rfl ⟨[], by rw [List.append_nil]⟩ k50 (by omega) hb5 oi5 si5 ot5 st5⟩
    have n6 : ∃ e, X6.nts = (X.nts ++ [(svX X).now]) ++ e := by
      obtain ⟨e, n6⟩ := n6
      exact ⟨e, by rw [n6, eX]⟩
    exact back_j6 (L' := X.nts) (X1 := svX X) h1 hN h6 o6 (by rw [eX]; exact ho) (svX_ok h.ok) b6 n6 k60 k61 hb6 rfl oi6 si6 rfl ot6 st6 kk
  · rcases hn with hn | hn
    · exact s4 g hg hn
    · have := (ownI_lt o4 g hg).1
      have := (l3 g (.inr hn)).2
      omega
theorem f12_s {n : Int} {l m : List Op8} (hl : rdS 3 oOp8 w va l) (hm : rdS 3 oOp8 w vs m) (kk : ∀ w', Below w.heap.size w w' → Q (.bool true) w') : f12 (.int .i64 n) va vs w Q := by
  unfold f12
  refine f14_s fun w1 b1 => ?_
  try simp only [↓reduceIte, ↓LL, LM, Value.cells, Nat.reduceAdd, Option.some.injEq, exists_eq_left', decide_true, decide_false, if_true, if_false, reduceCtorEq, cond_true, cond_false]
  refine f15_s ?_
  obtain ⟨p1, p2⟩ := pagesN_bd n
  try simp only [↓reduceIte, ↓LL, LM, Value.cells, Nat.reduceAdd, Option.some.injEq, exists_eq_left', decide_true, decide_false, if_true, if_false, reduceCtorEq, cond_true, cond_false]
  refine f54_s p1 p2 fun w2 x c t rp r up vb vn G S h2 b2 => ?_
  try simp only [↓reduceIte, ↓LL, LM, Value.cells, Nat.reduceAdd, Option.some.injEq, exists_eq_left', decide_true, decide_false, if_true, if_false, reduceCtorEq, cond_true, cond_false, get0, get1]
  refine f55_s (rdS_below oOp8_st b1 hl) fun va' hva => ?_
  try simp only [↓reduceIte, ↓LL, LM, Value.cells, Nat.reduceAdd, Option.some.injEq, exists_eq_left', decide_true, decide_false, if_true, if_false, reduceCtorEq, cond_true, cond_false]
  refine f55_s (rdS_below oOp8_st b1 hm) fun vs' hvs => ?_
  try simp only [↓reduceIte, ↓LL, LM, Value.cells, Nat.reduceAdd, Option.some.injEq, exists_eq_left', decide_true, decide_false, if_true, if_false, reduceCtorEq, cond_true, cond_false]
  refine ⟨_, back_a (W := w1) hva (by rw [List.length_take]; omega) p1 p2 (fun w3 c t rp r up vb vn vo vl X G k S h3 o3 k0 k1 b3 => ?_) (l.take 200).length ((l.take 200).length + 1) 0 w2 c t rp r up vb vn _ [] _ G 1 S (by omega) (by omega) h2 rfl (by decide) (by decide) b2⟩
  exact back_j1 (W := w1) hvs (by rw [List.length_take]; omega) p1 p2 h3 o3 k0 k1 b3 fun w4 b4 => kk w4 (bt b1 b4)
end
end Go.Proofs.YtongpnolikkknaaGreatDoor

namespace Go.Proofs.YtongpnolikkknaaGreatDoor
open Go.ChangeShapes Go.WideShapes Go.ChangeAt Go.RowKit
open Sh
def R12 := RiOO8
def b12 : Int × List Op8 × List Op8 → Nat := fun _ => 0
theorem oa12 : OpensA Tryz.prog [3, 86, 86] (Int × List Op8 × List Op8) R12 b12 := oaiOO8
theorem law12 (W : World) (vs : List Value) (a : Int × List Op8 × List Op8) (h : R12 W vs a) : Calls Tryz.prog 12 vs.toArray W (Rt fun v W' => v = .bool true ∧ Below W.heap.size W W') := by
  obtain ⟨v, u, rfl, h1, h2⟩ := h
  exact s12 _ _ _ _ _ (f12_s h1 h2 fun w' hb => ⟨rfl, hb⟩)
set_option maxRecDepth 1000000 in
theorem lifted12 (os : Os) (started : os.Started) (H : Type) (enc : TypeId × Value → H) :
    ReturnsInHanded {} Tryz.checked os 12 .any (fun w args => (Rows.spaceBackSpec.pre enc Tryz.prog Tryz.f12 Rows.spaceBackRow.domain false w args ∧ laidMetH Tryz.prog Rows.spaceBackRow.laid w) ∧ sizedMet enc Tryz.prog Tryz.f12 (OpenSpec.ofChange Rows.spaceBackSpec) false w args) (Rows.spaceBackSpec.post enc Tryz.prog Tryz.f12 false true false false) := by
  refine law_from_laid (C := Tryz.checked) (X := (fun w _ => laidMetH Tryz.prog Rows.spaceBackRow.laid w)) (tb := 4) (R := R12) (b := b12) (fun _ _ _ hh h => h.of_heap hh) own started (by kernel_rfl) Tryz.func12
    (ChangeSpec.witness_at (enc := enc) (C := Tryz.checked) (os := os) (X := (fun w _ => laidMetH Tryz.prog Rows.spaceBackRow.laid w)) false (laidW Tryz.prog Rows.spaceBackRow.laid os) #[.int .i64 0, .slice none 0 0, .slice none 0 0] 8 rfl (by kernel_rfl) (by kernel_rfl) (by kernel_rfl) (by kernel_rfl) (by kernel_rfl) (laidW_metH os _))
    rfl (by kernel_rfl) (by kernel_rfl) rfl Tryz.underlying4 (fun ds hd => ?_) ?_ law12
  · match ds, hd with
    | [d0, d1, d2], _ => exact ⟨rfl, rfl, rfl⟩
  · show OpensA Tryz.prog Tryz.f12.params.toList _ R12 b12
    rw [Tryz.params12]; exact oa12
theorem spaceBack_row : Rows.SpaceBackSaid :=
  OpenClaim.holds_of_wide 12 Tryz.f12 rfl rfl rfl rfl rfl rfl rfl ⟨rfl, rfl, rfl, rfl, rfl⟩ rfl rfl rfl rfl rfl (by kernel_rfl) Tryz.func12 (by kernel_rfl)
    (of_decide_eq_true (by kernel_rfl)) (by unfold Func.isWrapper; first | (rw [if_pos (by decide +kernel)]; kernel_rfl) | (rw [if_neg (by decide +kernel)]; exact ⟨rfl, rfl⟩))
    (fun os started H enc _ => lifted12 os started H enc)
theorem spaceBack_holds : Rows.SpaceBackCardSaid :=
  Claim7.holds_tied_plain_at .later [] Rows.spaceBackCard.laidKinds true Rows.spaceBackCard.stood.harness Rows.spaceBackCard.stood.looks
    spaceBack_row (fun _ h => by cases h) (by kernel_rfl) (fun _ h => by cases h) spaceBack_row_tie rfl ⟨rfl, rfl⟩ (by kernel_rfl) (by kernel_rfl)
    (fun f fn hf hfn => by
      obtain rfl : f = 12 := Option.some.inj ((show Tryz.prog.funcNamed Rows.spaceBackRow.func = some 12 by kernel_rfl).symm.trans hf) |>.symm
      obtain rfl : fn = Tryz.f12 := (Option.some.inj (Tryz.func12.symm.trans hfn)).symm
      exact ⟨by kernel_rfl, no_stand (by kernel_rfl)⟩)
    (by kernel_rfl)
#print axioms spaceBack_holds
end Go.Proofs.YtongpnolikkknaaGreatDoor
