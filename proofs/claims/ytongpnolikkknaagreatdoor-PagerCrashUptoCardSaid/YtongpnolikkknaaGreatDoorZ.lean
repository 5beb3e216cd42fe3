/- The call of PagerCrash returns true for every input of limited bulk, and its arguments read behind it as they read before. -/
import Derived.Test.YtongpnolikkknaaGreatDoorZ3
import Derived.Shelf.SlGeneric
import Derived.Shelf.SlIterI.Nil
import Derived.Shelf.SortM.Plain
import Derived.Shelf.SortM.SortNone
import Derived.Ground.GgzProg
import Derived.Ground.SlgmProg
import Derived.Test.YtongpnolikkknaaGreatDoorProg
set_option linter.unusedVariables false
set_option linter.unusedSimpArgs false
set_option linter.unusedSectionVars false
set_option maxRecDepth 20000
set_option maxHeartbeats 4000000
namespace Go.Proofs.YtongpnolikkknaaGreatDoor
open Sh RowKit Go.MapKept
abbrev Ch := Int × ByteArray
def encC (c : Ch) : List Value := [.int .i64 c.1, .string c.2]
theorem encC_len (c : Ch) : (encC c).length = 2 := rfl
theorem encC_one (c : Ch) : ∀ x ∈ encC c, x.oneCell' = true := by
  intro x hx
  rcases List.mem_cons.1 hx with rfl | hx
  · rfl
  · rw [List.mem_singleton.1 hx]; rfl
def pgR (L : List ByteArray) (n : Int) : ByteArray × Int := if 0 ≤ n ∧ n < L.length then (L.getD n.toNat ⟨#[]⟩, 0) else (⟨#[]⟩, 7)
def oddL (cs : List Ch) : Bool := decide (¬ ((cs.map (·.1)).Nodup ∧ ∀ c ∈ cs, c.2.size = 256))
def mayB (st : Bool) (N : Nat) (cs : List Ch) : Int := if st = true then 13 else if 31 < cs.length then 3 else if ∃ c ∈ cs, c.1 < 0 ∨ (N : Int) ≤ c.1 then 7 else if oddL cs = true then 1 else 0
theorem oddL_snoc {cs : List Ch} {c : Ch} : oddL (cs ++ [c]) = (oddL cs || decide (c.1 ∈ cs.map (·.1)) || decide (c.2.size ≠ 256)) := by
  unfold oddL
  rw [← Bool.decide_or, ← Bool.decide_or]
  congr 1
  apply propext
  rw [List.map_append, List.nodup_append]
  constructor
  · intro h
    by_cases h1 : ¬ ((cs.map (·.1)).Nodup ∧ ∀ c ∈ cs, c.2.size = 256)
    · exact .inl (.inl h1)
    · have h1 := Classical.not_not.1 h1
      by_cases h2 : c.1 ∈ cs.map (·.1)
      · exact .inl (.inr h2)
      · by_cases h3 : c.2.size = 256
        · exfalso
          refine h ⟨⟨h1.1, by simp, ?_⟩, ?_⟩
          · intro a ha b hb e
            rw [List.map_singleton, List.mem_singleton] at hb
            exact h2 (by rw [← hb, ← e]; exact ha)
          · intro x hx
            rcases List.mem_append.1 hx with hx | hx
            · exact h1.2 x hx
            · rw [List.mem_singleton.1 hx]; exact h3
        · exact .inr h3
  · rintro ((h | h) | h) ⟨⟨g1, _, g3⟩, g4⟩
    · exact h ⟨g1, fun x hx => g4 x (List.mem_append_left _ hx)⟩
    · exact g3 _ h _ (by simp) rfl
    · exact h (g4 c (by simp))
theorem pt49 : Tryz.prog.underlying 40 = some (.pointer (Tryz.prog.pointee 40)) := by kernel_rfl
section
variable {e : TypeId} {B C Bp : Nat} {W w w' : World} {p q b : Nat} {v u lv : Value} {D : Dv} {Q : Value → World → Prop}
theorem f78_s {L : List ByteArray} {st c : Value} {n : Int} (hq : w.heap[q]? = some (.cells #[pv p, u, st, c] 133 (0, 0))) (hu : ownV Bp 9 w u (L.map .string)) (kk : Q (.tuple #[.string (pgR L n).1, .int .i64 (pgR L n).2]) w) : f78 (pv q) (.int .i64 n) w Q := by
  unfold f78
  rw [pn_eq pt49]
  have c1 : w.cell? ⟨q, 1, none⟩ = some u := by rw [cell_of_blk hq]; rfl
  have lu := lnl_own hu
  rw [List.length_map] at lu
  unfold pgR at kk
  by_cases h0 : n < 0
  · rw [if_neg (by omega)] at kk
    try simp only [↓reduceIte, ↓LL, LM, Value.cells, Nat.reduceAdd, Option.some.injEq, exists_eq_left', decide_true, decide_false, if_true, if_false, reduceCtorEq, cond_true, cond_false, Option.isNone, h0]
    exact kk
  by_cases h1 : (L.length : Int) ≤ n
  · rw [if_neg (by omega)] at kk
    have h1' : n ≥ (L.length : Int) := h1
    try simp only [↓reduceIte, ↓LL, LM, Value.cells, Nat.reduceAdd, Option.some.injEq, exists_eq_left', decide_true, decide_false, if_true, if_false, reduceCtorEq, cond_true, cond_false, Option.isNone, h0, c1, lu, h1, h1']
    exact kk
  obtain ⟨n, rfl⟩ := Int.eq_ofNat_of_zero_le (show 0 ≤ n by omega)
  have hn : n < L.length := by omega
  have h1' : ¬ ((n : Nat) : Int) ≥ (L.length : Int) := h1
  rw [if_pos (by omega)] at kk
  obtain ⟨g, hia, hc, _⟩ := cell_V hu (i := n) (by rw [List.length_map]; exact hn)
  rw [List.getElem_map] at hc
  have eg : L.getD ((n : Nat) : Int).toNat ⟨#[]⟩ = L[n] := by rw [Int.toNat_natCast, List.getD_eq_getElem?_getD, List.getElem?_eq_getElem hn]; rfl
  rw [eg] at kk
  try simp only [↓reduceIte, ↓LL, LM, Value.cells, Nat.reduceAdd, Option.some.injEq, exists_eq_left', decide_true, decide_false, if_true, if_false, reduceCtorEq, cond_true, cond_false, Option.isNone, h0, c1, lu, h1, h1', hia, hc]
  exact kk
theorem f79_s {L : List ByteArray} {st c : Value} (hq : w.heap[q]? = some (.cells #[pv p, u, st, c] 133 (0, 0))) (hu : ownV Bp 9 w u (L.map .string)) (kk : Q (.int .i64 (L.length : Nat)) w) : f79 (pv q) w Q := by
  unfold f79
  rw [pn_eq pt49]
  have c1 : w.cell? ⟨q, 1, none⟩ = some u := by rw [cell_of_blk hq]; rfl
  have lu := lnl_own hu
  rw [List.length_map] at lu
  try simp only [↓reduceIte, ↓LL, LM, Value.cells, Nat.reduceAdd, Option.some.injEq, exists_eq_left', decide_true, decide_false, if_true, if_false, reduceCtorEq, cond_true, cond_false, Option.isNone, c1, lu]
  exact kk
theorem f50_s {st c : Value} (hq : w.heap[q]? = some (.cells #[pv p, u, st, c] 133 (0, 0))) (kk : Q c w) : f50 (pv q) w Q := by
  unfold f50
  rw [pn_eq pt49]
  have c1 : w.cell? ⟨q, 3, none⟩ = some c := by rw [cell_of_blk hq]; rfl
  try simp only [↓reduceIte, ↓LL, LM, Value.cells, Nat.reduceAdd, Option.some.injEq, exists_eq_left', decide_true, decide_false, if_true, if_false, reduceCtorEq, cond_true, cond_false, Option.isNone, c1]
  exact kk
theorem lnl_S {α : Type} {n : Nat} {R : RepT α} {l : List α} (h : rdS n R w v l) : ∀ (K : Value → M) (w1 : World) (Q : Value → World → Prop), lnl v K w1 Q = K (.int .i64 ((l.length : Nat) : Int)) w1 Q := by
  intro K w1 Q
  rcases h with ⟨rfl, rfl⟩ | ⟨a, c, rfl, _⟩ <;> rw [lnl_e] <;> rfl
theorem may_loop {L : List ByteArray} {st c : Value} {cs : List Ch} {mb : Nat} (hq : W.heap[q]? = some (.cells #[pv p, u, st, c] 133 (0, 0))) (hu : ownV Bp 9 W u (L.map .string)) (hcs : rdS 2 (eR encC) W v cs) (hl : cs.length ≤ 31) (hL : L.length ≤ 1000000) (hmb : W.heap.size ≤ mb) : ∀ (d m i : Nat) (w : World) (ML : List (Int × Value)), i + d = cs.length → d < m → Below W.heap.size W w → MapAt kI w mb ML →
    (∀ k, lk ML k = if k ∈ (cs.take i).map (·.1) then some (.int .i64 (((cs.take i).map (·.1)).count k : Nat)) else none) → (∀ x ∈ cs.take i, 0 ≤ x.1 ∧ x.1 < (L.length : Int)) →
    (∀ w', Below W.heap.size W w' → Q (.int .i64 (mayB false L.length cs)) w') →
    itr (fun _ _ _ _ _ _ => bot) (f89_b2 f89_j1) m (pv q) (.map (some mb)) (.bool (oddL (cs.take i))) v (.int .i64 ((cs.length : Nat) : Int)) (.int .i64 ((i : Nat) : Int)) w Q := by
  intro d
  induction d with
  | zero =>
    intro m i w ML hi hm hb hM hlk hall kk
    obtain ⟨m, rfl⟩ : ∃ x, m = x + 1 := ⟨m - 1, by omega⟩
    show f89_b2 f89_j1 _ _ _ _ _ _ _ w Q
    unfold f89_b2
    have cc : ¬ (i : Int) < (cs.length : Nat) := by omega
    try simp only [↓reduceIte, ↓LL, LM, Value.cells, Nat.reduceAdd, Option.some.injEq, exists_eq_left', decide_true, decide_false, if_true, if_false, reduceCtorEq, cond_true, cond_false, cc]
    unfold f89_j1
    rw [List.take_of_length_le (by omega)] at hall ⊢
    have e : mayB false L.length cs = if oddL cs = true then 1 else 0 := by
      unfold mayB
      rw [if_neg (by decide), if_neg (by omega), if_neg (fun ⟨x, hx, h⟩ => by have := hall x hx; omega)]
    rw [e] at kk
    cases ho : oddL cs with
    | true =>
      rw [ho, if_pos rfl] at kk
      try simp only [↓reduceIte, ↓LL, LM, Value.cells, Nat.reduceAdd, Option.some.injEq, exists_eq_left', decide_true, decide_false, if_true, if_false, reduceCtorEq, cond_true, cond_false]
      exact kk w hb
    | false =>
      rw [ho, if_neg (by decide)] at kk
      try simp only [↓reduceIte, ↓LL, LM, Value.cells, Nat.reduceAdd, Option.some.injEq, exists_eq_left', decide_true, decide_false, if_true, if_false, reduceCtorEq, cond_true, cond_false]
      exact kk w hb
  | succ d ih =>
    intro m i w ML hi hm hb hM hlk hall kk
    obtain ⟨m, rfl⟩ : ∃ x, m = x + 1 := ⟨m - 1, by omega⟩
    show f89_b2 f89_j1 _ _ _ _ _ _ _ w Q
    unfold f89_b2
    have cc : (i : Int) < (cs.length : Nat) := by omega
    have hil : i < cs.length := by omega
    have h3 : IntKind.i64.wrap ((i : Int) + 1) = ((i + 1 : Nat) : Int) := by rw [w64 (by omega) (by omega)]; rfl
    obtain ⟨ad, es, he1, he2, he3, hia⟩ := rdS_at (rdS_below eR_st hb hcs) hil
    have hts : cs.take (i + 1) = cs.take i ++ [cs[i]] := List.take_succ_eq_append_getElem hil
    have hmem := List.getElem_mem hil
    have hq' := stay hb hq
    have hu' := ownV_below hu hb
    try simp only [↓reduceIte, ↓LL, LM, Value.cells, Nat.reduceAdd, Option.some.injEq, exists_eq_left', decide_true, decide_false, if_true, if_false, reduceCtorEq, cond_true, cond_false, cc, hia]
    refine ldn_at he2 he1 ?_
    have he3 : es = encC cs[i] := he3
    rw [he3]
    generalize cs[i] = x at *
    obtain ⟨n, s⟩ := x
    have b1 := b_psh w (.cells #[.int .i64 0, .string ⟨#[]⟩] 48)
    have k1 := blk_psh_new (w := w) (o := .cells #[.int .i64 0, .string ⟨#[]⟩] 48)
    try simp only [↓reduceIte, ↓LL, LM, Value.cells, Nat.reduceAdd, Option.some.injEq, exists_eq_left', decide_true, decide_false, if_true, if_false, reduceCtorEq, cond_true, cond_false]
    refine stn_box k1 (by simp) (by simp [encC]) (by intro x hx; exact encC_one (n, s) x (by simpa using hx)) fun w2 k2 u2 => ?_
    have b2 : Below w.heap.size w w2 := b1.trans (u2.below (Nat.le_refl _))
    have hb2 := bt hb b2
    have c0 : w2.cell? ⟨w.heap.size, 0, none⟩ = some (.int .i64 n) := by rw [cell_of_blk k2]; rfl
    have c1 : w2.cell? ⟨w.heap.size, 1, none⟩ = some (.string s) := by rw [cell_of_blk k2]; rfl
    have hq2 := stay b2 hq'
    have cq : w2.cell? ⟨q, 1, none⟩ = some u := by rw [cell_of_blk hq2]; rfl
    have lu := lnl_own (ownV_below hu' b2)
    rw [List.length_map] at lu
    by_cases h7 : n < 0 ∨ (L.length : Int) ≤ n
    · have e : mayB false L.length cs = 7 := by
        unfold mayB
        rw [if_neg (by decide), if_neg (by omega), if_pos ⟨(n, s), hmem, h7⟩]
      rw [e] at kk
      have fin := kk (drw w2) ⟨hb2.os, hb2.tape, hb2.output, hb2.size, hb2.block⟩
      by_cases h0 : n < 0
      · try simp only [↓reduceIte, ↓LL, LM, Value.cells, Nat.reduceAdd, Option.some.injEq, exists_eq_left', decide_true, decide_false, if_true, if_false, reduceCtorEq, cond_true, cond_false, c0, h0]
        exact fin
      · have h1 : n ≥ (L.length : Int) := by omega
        have h1' : (L.length : Int) ≤ n := h1
        try simp only [↓reduceIte, ↓LL, LM, Value.cells, Nat.reduceAdd, Option.some.injEq, exists_eq_left', decide_true, decide_false, if_true, if_false, reduceCtorEq, cond_true, cond_false, c0, h0, cq, lu, h1, h1']
        exact fin
    · have h0 : ¬ n < 0 := by omega
      have h1 : ¬ n ≥ (L.length : Int) := by omega
      have h1' : ¬ (L.length : Int) ≤ n := h1
      try simp only [↓reduceIte, ↓LL, LM, Value.cells, Nat.reduceAdd, Option.some.injEq, exists_eq_left', decide_true, decide_false, if_true, if_false, reduceCtorEq, cond_true, cond_false, c0, h0, cq, lu, h1, h1']
      have hM2 : MapAt kI (drw w2) mb ML := hM.below (⟨b2.os, b2.tape, b2.output, b2.size, b2.block⟩ : Below w.heap.size w (drw w2))
      rw [show (Value.int .i64 n) = kI n from rfl, look_v KKi hM2 z3 n]
      have hln := hlk n
      have hcle : ((cs.take i).map (·.1)).count n ≤ 31 := Nat.le_trans (List.count_le_length) (by rw [List.length_map, List.length_take]; omega)
      have hget : (lk ML n).getD (.int .i64 0) = .int .i64 (((cs.take i).map (·.1)).count n : Nat) := by
        rw [hln]
        split
        · rfl
        · rename_i hn
          rw [List.count_eq_zero.2 hn]; rfl
      have hw : IntKind.i64.wrap ((((cs.take i).map (·.1)).count n : Nat) + 1) = (((cs.take i).map (·.1)).count n : Nat) + 1 := w64 (by omega) (by omega)
      rw [hget]
      try simp only [↓reduceIte, ↓LL, LM, Value.cells, Nat.reduceAdd, Option.some.injEq, exists_eq_left', decide_true, decide_false, if_true, if_false, reduceCtorEq, cond_true, cond_false, hw]
      refine upd_map KKi hM2 n _ fun w3 hM3 u3 => ?_
      have hb3 : Below W.heap.size W w3 := (show Below W.heap.size W (drw w2) from ⟨hb2.os, hb2.tape, hb2.output, hb2.size, hb2.block⟩).trans (u3.below hmb)
      have hne : w.heap.size ≠ mb := by have := hM.lt; omega
      have k3 : w3.heap[w.heap.size]? = _ := Upd_keep u3 (show (drw w2).heap[w.heap.size]? = _ from k2) hne
      have c0 : w3.cell? ⟨w.heap.size, 0, none⟩ = some (.int .i64 n) := by rw [cell_of_blk k3]; rfl
      have c1 : w3.cell? ⟨w.heap.size, 1, none⟩ = some (.string s) := by rw [cell_of_blk k3]; rfl
      have hl3 : lk (put ML n (.int .i64 ((((cs.take i).map (·.1)).count n : Nat) + 1))) n = some (.int .i64 ((((cs.take i).map (·.1)).count n : Nat) + 1)) := by rw [lk_put, if_pos rfl]
      have hlook : ∀ (K : Value → M), smr Tryz.prog (Instr.lookup 164 (.map (some mb)) (.int .i64 n) false) K w3 Q = K (.int .i64 ((((cs.take i).map (·.1)).count n : Nat) + 1)) w3 Q := fun K => by
        rw [show (Value.int .i64 n) = kI n from rfl, look_v KKi hM3 z3 n, hl3]; rfl
      have next : ∀ o, o = oddL (cs.take (i + 1)) → itr (fun _ _ _ _ _ _ => bot) (f89_b2 f89_j1) m (pv q) (.map (some mb)) (.bool o) v (.int .i64 ((cs.length : Nat) : Int)) (.int .i64 ((i + 1 : Nat) : Int)) w3 Q := by
        rintro o rfl
        refine ih m (i + 1) w3 _ (by omega) (by omega) hb3 hM3 (fun k => ?_) (fun x hx => ?_) kk
        · have em : (k ∈ (cs.take (i + 1)).map (·.1)) ↔ (k ∈ (cs.take i).map (·.1) ∨ k = n) := by rw [hts, List.map_append]; simp
          have ec : ((cs.take (i + 1)).map (·.1)).count k = ((cs.take i).map (·.1)).count k + ([n] : List Int).count k := by rw [hts, List.map_append, List.count_append]; rfl
          rw [lk_put]
          by_cases hk : k = n
          · subst hk
            rw [if_pos rfl, if_pos (em.2 (.inr rfl)), ec]
            simp
          · rw [if_neg hk, hlk k]
            have h0 : ([n] : List Int).count k = 0 := List.count_eq_zero.2 (by simpa using hk)
            rw [ec, h0]
            by_cases hin : k ∈ (cs.take i).map (·.1)
            · rw [if_pos hin, if_pos (em.2 (.inl hin))]; rfl
            · rw [if_neg hin, if_neg (fun h => (em.1 h).elim hin hk)]
        · rw [hts] at hx
          rcases List.mem_append.1 hx with hx | hx
          · exact hall x hx
          · rw [List.mem_singleton.1 hx]; exact ⟨by simpa using h0, by simpa using h1⟩
      have hod : oddL (cs.take (i + 1)) = (oddL (cs.take i) || decide (n ∈ (cs.take i).map (·.1)) || decide (s.size ≠ 256)) := by rw [hts, oddL_snoc]
      try unfold kI
      cases ho : oddL (cs.take i) with
      | true =>
        rw [ho] at hod
        try simp only [↓reduceIte, ↓LL, LM, Value.cells, Nat.reduceAdd, Option.some.injEq, exists_eq_left', decide_true, decide_false, if_true, if_false, reduceCtorEq, cond_true, cond_false, h3]
        exact next true (by rw [hod]; rfl)
      | false =>
        rw [ho] at hod
        by_cases hin : n ∈ (cs.take i).map (·.1)
        · have hpos : 0 < ((cs.take i).map (·.1)).count n := List.count_pos_iff.2 hin
          have g : ((((cs.take i).map (·.1)).count n : Nat) : Int) + 1 > 1 := by omega
          have g' : (1 : Int) < ((((cs.take i).map (·.1)).count n : Nat) : Int) + 1 := g
          try simp only [↓reduceIte, ↓LL, LM, Value.cells, Nat.reduceAdd, Option.some.injEq, exists_eq_left', decide_true, decide_false, if_true, if_false, reduceCtorEq, cond_true, cond_false, c0, hlook, g, g', h3]
          exact next true (by rw [hod, decide_eq_true hin]; rfl)
        · have hz : ((cs.take i).map (·.1)).count n = 0 := List.count_eq_zero.2 hin
          have g' : ¬ (1 : Int) < ((((cs.take i).map (·.1)).count n : Nat) : Int) + 1 := by omega
          have g : ¬ ((((cs.take i).map (·.1)).count n : Nat) : Int) + 1 > 1 := g'
          by_cases hs : s.size = 256
          · have hs' : ((s.size : Nat) : Int) = 256 := by omega
            try simp only [↓reduceIte, ↓LL, LM, Value.cells, Nat.reduceAdd, Option.some.injEq, exists_eq_left', decide_true, decide_false, if_true, if_false, reduceCtorEq, cond_true, cond_false, c0, c1, hlook, g, g', h3, ne_eq, hs']
            exact next false (by rw [hod, decide_eq_false hin, decide_eq_false (fun h => h hs)]; rfl)
          · have hs' : ¬ ((s.size : Nat) : Int) = 256 := by omega
            try simp only [↓reduceIte, ↓LL, LM, Value.cells, Nat.reduceAdd, Option.some.injEq, exists_eq_left', decide_true, decide_false, if_true, if_false, reduceCtorEq, cond_true, cond_false, c0, c1, hlook, g, g', h3, ne_eq, hs']
            exact next true (by rw [hod, decide_eq_false hin, decide_eq_true hs]; rfl)
theorem f89_s {L : List ByteArray} {st : Bool} {c : Value} {cs : List Ch} (hq : w.heap[q]? = some (.cells #[pv p, u, .bool st, c] 133 (0, 0))) (hu : ownV Bp 9 w u (L.map .string)) (hcs : rdS 2 (eR encC) w v cs) (hL : L.length ≤ 1000000)
    (kk : ∀ w', Below w.heap.size w w' → Q (.int .i64 (mayB st L.length cs)) w') : f89 (pv q) v w Q := by
  unfold f89
  have c2 : w.cell? ⟨q, 2, none⟩ = some (.bool st) := by rw [cell_of_blk hq]; rfl
  have lv := lnl_S hcs
  cases st with
  | true =>
    try simp only [↓reduceIte, ↓LL, LM, Value.cells, Nat.reduceAdd, Option.some.injEq, exists_eq_left', decide_true, decide_false, if_true, if_false, reduceCtorEq, cond_true, cond_false, c2]
    exact kk w (Below.refl _ _)
  | false =>
    by_cases h3 : 31 < cs.length
    · have e : mayB false L.length cs = 3 := by unfold mayB; rw [if_neg (by decide), if_pos h3]
      rw [e] at kk
      have h3' : (31 : Int) < ((cs.length : Nat) : Int) := by omega
      have h3'' : ((cs.length : Nat) : Int) > 31 := h3'
      try simp only [↓reduceIte, ↓LL, LM, Value.cells, Nat.reduceAdd, Option.some.injEq, exists_eq_left', decide_true, decide_false, if_true, if_false, reduceCtorEq, cond_true, cond_false, c2, lv, h3', h3'']
      exact kk w (Below.refl _ _)
    · have h3' : ¬ (31 : Int) < ((cs.length : Nat) : Int) := by omega
      have h3'' : ¬ ((cs.length : Nat) : Int) > 31 := h3'
      try simp only [↓reduceIte, ↓LL, LM, Value.cells, Nat.reduceAdd, Option.some.injEq, exists_eq_left', decide_true, decide_false, if_true, if_false, reduceCtorEq, cond_true, cond_false, c2, lv, h3', h3'']
      refine mm_map (kv := kI) fun w1 hM b1 => ?_
      try simp only [↓reduceIte, ↓LL, LM, Value.cells, Nat.reduceAdd, Option.some.injEq, exists_eq_left', decide_true, decide_false, if_true, if_false, reduceCtorEq, cond_true, cond_false, lv]
      refine ⟨_, may_loop (W := w) hq hu hcs (by omega) hL (Nat.le_refl _) cs.length (cs.length + 1) 0 w1 [] (by omega) (by omega) b1 hM (fun k => by simp [lk]) (by simp) kk⟩
end
end Go.Proofs.YtongpnolikkknaaGreatDoor

set_option maxRecDepth 20000
set_option maxHeartbeats 4000000
namespace Go.Proofs.YtongpnolikkknaaGreatDoor
open Sh RowKit Go.MapKept
def chG (cs : List Ch) (k : Nat) : Ch := cs.getD k (0, ⟨#[]⟩)
def imsD (L : List ByteArray) (cs : List Ch) (n : Nat) : List De := (List.range n).flatMap fun k => pageD (imG k) (L.getD (chG cs k).1.toNat ⟨#[]⟩)
def pgsD (cs : List Ch) (n : Nat) : List De := (List.range n).flatMap fun k => pageD (plG (chG cs k).1) (chG cs k).2
def stepsD (L : List ByteArray) (cs : List Ch) : List De :=
  [.wr 1 (dirW (cs.map (·.1))).1] ++ imsD L cs cs.length ++ [.sy] ++ markD true ++ pgsD cs cs.length ++ [.sy] ++ markD false
theorem imsD_succ (L : List ByteArray) (cs : List Ch) (n : Nat) : imsD L cs (n + 1) = imsD L cs n ++ pageD (imG n) (L.getD (chG cs n).1.toNat ⟨#[]⟩) := by
  unfold imsD; rw [List.range_succ, List.flatMap_append]; simp
theorem pgsD_succ (cs : List Ch) (n : Nat) : pgsD cs (n + 1) = pgsD cs n ++ pageD (plG (chG cs n).1) (chG cs n).2 := by
  unfold pgsD; rw [List.range_succ, List.flatMap_append]; simp
theorem imsD_len (L : List ByteArray) (cs : List Ch) : ∀ n, (imsD L cs n).length ≤ 4 * n
  | 0 => by simp [imsD]
  | n + 1 => by
    rw [imsD_succ, List.length_append]
    have := imsD_len L cs n
    have := pageD_len (imG n) (L.getD (chG cs n).1.toNat ⟨#[]⟩)
    omega
theorem pgsD_len (cs : List Ch) : ∀ n, (pgsD cs n).length ≤ 4 * n
  | 0 => by simp [pgsD]
  | n + 1 => by
    rw [pgsD_succ, List.length_append]
    have := pgsD_len cs n
    have := pageD_len (plG (chG cs n).1) (chG cs n).2
    omega
theorem stepsD_len (L : List ByteArray) (cs : List Ch) : (stepsD L cs).length ≤ 8 * cs.length + 7 := by
  have h1 := imsD_len L cs cs.length
  have h2 := pgsD_len cs cs.length
  unfold stepsD
  simp only [List.length_append, List.length_cons, List.length_nil, markD]
  omega
theorem slI : slT Tryz.prog 22 3 (.int .i64 0) 1 8 := sl29
section
variable {e : TypeId} {B C Bp : Nat} {W w w' : World} {p q b : Nat} {v u lv : Value} {D : Dv} {Q : Value → World → Prop}
theorem DsAt_ty {ds : List De} (h : DsAt B C w q p u ds) : ∀ g, u.ownBlock = some g → B ≤ g ∧ g < w.heap.size ∧ ∃ cur, w.heap[g]? = some (.cells cur 165 (0, 0)) := by
  obtain ⟨xs, h1, h2⟩ := h
  exact fun g hg => ownV_lt h1 g hg
/-- deeds behind deeds: with the functions told -/
theorem ap_dx {B2 : Nat} {v u : Value} {xs ys : List Value} {K : Value → M} (h1 : ownV B 165 w v xs) (k1 : ownV B2 165 w u ys) (hone : ∀ y ∈ ys, y.oneCell' = true) (hl : xs.length + ys.length ≤ 100000) (hB : B ≤ w.heap.size)
    (kk : ∀ w' v', Below B w w' → ownV B 165 w' v' (xs ++ ys) → (∀ C zs fs, dRs C w q p zs fs → dRs C w' q p zs fs) → ChgS (fun k => v.ownBlock = some k) w w' → (∀ g, v'.ownBlock = some g → v.ownBlock = some g ∨ w.heap.size ≤ g) → K v' w' Q) :
    sm Tryz.prog (Builtin.append_ #[138, 138] 138 #[v, u]) K w Q := by
  obtain ⟨i, g1, g2, g3, g4, g5⟩ := slT_info slD
  rcases ownV_cases k1 with ⟨rfl, rfl⟩ | ⟨g, cap, cur, rfl, hg, hbk, hn, hm, hs, ht⟩
  · refine ⟨v, w, run_append_owned_none w B 138 138 165 i 1 g1 g2 v xs.length xs h1, kk w v ⟨rfl, rfl, rfl, Nat.le_refl _, fun _ _ => rfl⟩ ?_ (fun _ _ _ h => h) (ChgS.refl _ w) (fun g hg => .inl hg)⟩
    rw [List.append_nil]
    exact h1
  · obtain ⟨v', w', hrun, ho', hg', _, hf⟩ := run_append_own_at (P := Tryz.prog) w B 138 138 165 i _ 1 8 g1 g2 g3 g4 g5 rfl (by decide) v xs.length xs h1 ⟨g, 0, none⟩ ys.length cap ys (by simp) (by
        intro j u hj
        rw [add_lit, Nat.zero_add, cell_of_blk hbk]
        have hlt : j < ys.length := by
          rcases Nat.lt_or_ge j ys.length with c | c
          · exact c
          · rw [List.getElem?_eq_none c] at hj; cases hj
        have e3 : (cur.toList.take ys.length)[j]? = ys[j]? := by rw [ht]
        rw [List.getElem?_take_of_lt hlt, hj] at e3
        simpa using e3) hone (by unfold maxLen; omega) (by omega) hB
    have hc : ChgS (fun k => v.ownBlock = some k) w w' := ChgS.grown hg' fun k hk => hk
    refine ⟨v', w', hrun, kk w' v' (hc.below (fun k hk => (ownV_lt h1 k hk).1) hB) ?_ (fun C zs fs hz => dRs_imp hz fun y d' hy => dR_chg hy hc fun g cur e _ hg he hn => ?_) hc (fun g hg => ?_)⟩
    · unfold ownV; rw [List.length_append]; exact ho'
    · obtain ⟨_, _, cur', hc'⟩ := ownV_lt h1 g hn
      rw [hc'] at hg
      cases hg
      rcases he with he | he | he <;> revert he <;> decide
    · rcases hf with hf | hf
      · left; rw [← hf]; exact hg
      · right; rw [hf] at hg; cases hg; omega
/-- no deed's number lies in that row -/
def NoB (v5 : Value) (xs : List Value) : Prop := ∀ f a b c, Value.func f #[] #[pv a, pv b, pv c] ∈ xs → v5.ownBlock ≠ some b
theorem NoB_app {v5 : Value} {xs ys : List Value} (h1 : NoB v5 xs) (h2 : NoB v5 ys) : NoB v5 (xs ++ ys) := fun f a b c h => (List.mem_append.1 h).elim (h1 f a b c) (h2 f a b c)
theorem dR_B {x : Value} {d : De} (h : dR C w q p x d) : ∀ f a b c, x = .func f #[] #[pv a, pv b, pv c] → C ≤ b ∧ b < w.heap.size := by
  intro f a b c e
  cases d with
  | wr i s =>
    obtain ⟨a', b', c', rfl, r1, r2, r3, m1, m2, m3⟩ := h
    injection e with _ _ e3
    injection e3 with e4
    injection e4 with _ e5
    injection e5 with e6 _
    injection e6 with e7
    injection e7 with e8
    injection e8 with e9
    subst e9
    exact ⟨r2, blk_lt m2⟩
  | sy =>
    obtain rfl : x = _ := h
    injection e with _ e2 _
    cases e2
theorem dRs_B : ∀ {xs : List Value} {ds : List De}, dRs C w q p xs ds → ∀ f a b c, Value.func f #[] #[pv a, pv b, pv c] ∈ xs → C ≤ b ∧ b < w.heap.size
  | [], [], _, f, a, b, c, hm => by simp at hm
  | x :: xs, d :: ds, h, f, a, b, c, hm => by
    rcases List.mem_cons.1 hm with rfl | hm
    · exact dR_B h.1 f a b c rfl
    · exact dRs_B h.2 f a b c hm
theorem own_ints {l : List Int} (h : ownV C 3 w v (l.map (.int .i64))) : ownI C 3 .i64 w v l := by
  unfold ownV at h
  unfold ownI
  rw [List.length_map] at h
  exact h
theorem steps_loop {L : List ByteArray} {cs : List Ch} {st c : Value} {j1 : Value → Value → Value → Value → M} (hq : W.heap[q]? = some (.cells #[pv p, u, st, c] 133 (0, 0))) (hu : ownV Bp 9 W u (L.map .string)) (hcs : rdS 2 (eR encC) W lv cs) (hl : cs.length ≤ 31) (hbd : ∀ x ∈ cs, 0 ≤ x.1 ∧ x.1 < (L.length : Int)) (hL : L.length ≤ 1000) :
    ∀ (d m i : Nat) (w : World) (v5 v6 v7 : Value) (xs6 xs7 : List Value), i + d = cs.length → d < m → Below W.heap.size W w → ownV W.heap.size 3 w v5 (((cs.take i).map (·.1)).map (.int .i64)) →
    ownV W.heap.size 165 w v6 xs6 → dRs W.heap.size w q p xs6 (imsD L cs i) → NoB v5 xs6 → ownV W.heap.size 165 w v7 xs7 → dRs W.heap.size w q p xs7 (pgsD cs i) → NoB v5 xs7 → (∀ g, v6.ownBlock = some g → v7.ownBlock ≠ some g) →
    (∀ w' v5 v6 v7, Below W.heap.size W w' → ownI W.heap.size 3 .i64 w' v5 (cs.map (·.1)) → DsAt W.heap.size W.heap.size w' q p v6 (imsD L cs cs.length) → DsAt W.heap.size W.heap.size w' q p v7 (pgsD cs cs.length) → (∀ g, v6.ownBlock = some g → v7.ownBlock ≠ some g) → j1 (pv q) v5 v6 v7 w' Q) →
    itr (fun _ _ _ _ _ _ _ => bot) (f91_b2 j1) m (pv q) v5 v6 v7 lv (.int .i64 ((cs.length : Nat) : Int)) (.int .i64 ((i : Nat) : Int)) w Q := by
  intro d
  induction d with
  | zero =>
    intro m i w v5 v6 v7 xs6 xs7 hi hm hb h5 h6 d6 n6 h7 d7 n7 hne kk
    obtain ⟨m, rfl⟩ : ∃ x, m = x + 1 := ⟨m - 1, by omega⟩
    show f91_b2 j1 _ _ _ _ _ _ _ _ w Q
    unfold f91_b2
    have cc : ¬ (i : Int) < (cs.length : Nat) := by omega
    try simp only [↓reduceIte, ↓LL, LM, Value.cells, Nat.reduceAdd, Option.some.injEq, exists_eq_left', decide_true, decide_false, if_true, if_false, reduceCtorEq, cond_true, cond_false, cc]
    have : i = cs.length := by omega
    subst this
    rw [List.take_length] at h5
    exact kk w v5 v6 v7 hb (own_ints h5) ⟨xs6, h6, d6⟩ ⟨xs7, h7, d7⟩ hne
  | succ d ih =>
    intro m i w v5 v6 v7 xs6 xs7 hi hm hb h5 h6 d6 n6 h7 d7 n7 hne kk
    obtain ⟨m, rfl⟩ : ∃ x, m = x + 1 := ⟨m - 1, by omega⟩
    show f91_b2 j1 _ _ _ _ _ _ _ _ w Q
    unfold f91_b2
    have cc : (i : Int) < (cs.length : Nat) := by omega
    have hil : i < cs.length := by omega
    have h3 : IntKind.i64.wrap ((i : Int) + 1) = ((i + 1 : Nat) : Int) := by rw [w64 (by omega) (by omega)]; rfl
    obtain ⟨ad, es, he1, he2, he3, hia⟩ := rdS_at (rdS_below eR_st hb hcs) hil
    have hts : cs.take (i + 1) = cs.take i ++ [cs[i]] := List.take_succ_eq_append_getElem hil
    have hmem := List.getElem_mem hil
    have hch : chG cs i = cs[i] := by unfold chG; rw [List.getD_eq_getElem?_getD, List.getElem?_eq_getElem hil]; rfl
    have e6 := imsD_succ L cs i
    have e7 := pgsD_succ cs i
    have l6 := imsD_len L cs i
    have l7 := pgsD_len cs i
    have x6 := dRs_len d6
    have x7 := dRs_len d7
    rw [hch] at e6 e7
    try simp only [↓reduceIte, ↓LL, LM, Value.cells, Nat.reduceAdd, Option.some.injEq, exists_eq_left', decide_true, decide_false, if_true, if_false, reduceCtorEq, cond_true, cond_false, cc, hia]
    refine ldn_at he2 he1 ?_
    have he3 : es = encC cs[i] := he3
    rw [he3]
    generalize cs[i] = x at *
    obtain ⟨n, s⟩ := x
    obtain ⟨n0, n1'⟩ := hbd _ hmem
    have n0 : 0 ≤ n := n0
    have n1' : n < (L.length : Int) := n1'
    obtain ⟨n, rfl⟩ := Int.eq_ofNat_of_zero_le n0
    have b1 := b_psh w (.cells #[.int .i64 0] 3)
    have k1 := blk_psh_new (w := w) (o := .cells #[.int .i64 0] 3)
    have z1 : (psh w (.cells #[.int .i64 0] 3)).heap.size = w.heap.size + 1 := size_psh
    try simp only [↓reduceIte, ↓LL, LM, Value.cells, Nat.reduceAdd, Option.some.injEq, exists_eq_left', decide_true, decide_false, if_true, if_false, reduceCtorEq, cond_true, cond_false]
    generalize psh w (.cells #[.int .i64 0] 3) = w1 at *
    have b2 := b_psh w1 (.cells #[.int .i64 0, .string ⟨#[]⟩] 48)
    have k2 := blk_psh_new (w := w1) (o := .cells #[.int .i64 0, .string ⟨#[]⟩] 48)
    have k1 := stay b2 k1
    have z2 : (psh w1 (.cells #[.int .i64 0, .string ⟨#[]⟩] 48)).heap.size = w1.heap.size + 1 := size_psh
    generalize psh w1 (.cells #[.int .i64 0, .string ⟨#[]⟩] 48) = w2 at *
    refine st_box (o := 0) (v := .int .i64 ((i : Nat) : Int)) k1 (by decide) rfl fun w3 k1 u3 => ?_
    have k2 := Upd_keep u3 k2 (by omega)
    refine stn_box k2 (by simp) (by simp [encC]) (by intro x hx; exact encC_one (((n : Nat) : Int), s) x (by simpa using hx)) fun w4 k2 u4 => ?_
    have k1 : w4.heap[w.heap.size]? = some (.cells #[.int .i64 ((i : Nat) : Int)] 3 (0, 0)) := Upd_keep u4 k1 (by omega)
    have k2 : w4.heap[w1.heap.size]? = some (.cells #[.int .i64 ((n : Nat) : Int), .string s] 48 (0, 0)) := k2
    have b4 : Below w.heap.size w w4 := ((bt b1 b2).trans (u3.below (Nat.le_refl _))).trans (u4.below (by omega))
    have hb4 := bt hb b4
    have c0 : w4.cell? ⟨w1.heap.size, 0, none⟩ = some (.int .i64 ((n : Nat) : Int)) := by rw [cell_of_blk k2]; rfl
    try simp only [↓reduceIte, ↓LL, LM, Value.cells, Nat.reduceAdd, Option.some.injEq, exists_eq_left', decide_true, decide_false, if_true, if_false, reduceCtorEq, cond_true, cond_false, c0]
    have h5w := ownV_below h5 b4
    have h5T := ownV_lt h5w
    have lt5 : ∀ g, v5.ownBlock = some g → g < w.heap.size := fun g hg => (ownV_lt h5 g hg).2.1
    have len5 : (((cs.take i).map (·.1)).map (Value.int .i64)).length ≤ 31 := by rw [List.length_map, List.length_map, List.length_take]; omega
    refine ap_V slI rfl rfl rfl h5w (by unfold maxLen; omega) (by omega) hb4.size fun v5' w5 o5 hf5 sz5 os5 fr5 => ?_
    have hc5 : ChgS (fun k => v5.ownBlock = some k) w4 w5 := ⟨os5.1, os5.2.1, os5.2.2, sz5, fun k hk hn => hf5 k hk hn⟩
    have no5 : ∀ g cur e', w4.heap[g]? = some (.cells cur e' (0, 0)) → e' ≠ 3 → ¬ v5.ownBlock = some g := fun g cur e' hg he hn => by
      obtain ⟨_, _, cur', hcur⟩ := h5T g hn
      rw [hg] at hcur; cases hcur; exact he rfl
    have o5 : ownV W.heap.size 3 w5 v5' (((cs.take (i + 1)).map (·.1)).map (.int .i64)) := by rw [hts, List.map_append, List.map_append]; exact o5
    have hb5 : Below W.heap.size W w5 := hb4.trans (hc5.below (fun k hk => (h5T k hk).1) hb4.size)
    have s4 : w.heap.size ≤ w4.heap.size := b4.size
    have k1 := hc5.keep k1 (fun hn => by have := lt5 _ hn; omega)
    have k2 := hc5.keep k2 (no5 _ _ _ k2 (by decide))
    have hq5 := stay hb5 hq
    have hu5 := ownV_below hu hb5
    have keepO : ∀ {v8 : Value} {xs : List Value}, ownV W.heap.size 165 w v8 xs → ownV W.heap.size 165 w5 v8 xs := fun h => by
      have h := ownV_below h b4
      refine ownV_chg h hc5 fun g hg hn => ?_
      obtain ⟨_, _, cur, hcur⟩ := ownV_lt h g hg
      exact no5 g cur _ hcur (by decide) hn
    have keepD : ∀ {xs : List Value} {ds : List De}, dRs W.heap.size w q p xs ds → NoB v5 xs → dRs W.heap.size w5 q p xs ds := by
      intro xs
      induction xs with
      | nil => intro ds h _; cases ds with
        | nil => trivial
        | cons d ds => exact h.elim
      | cons x xs ihx =>
        intro ds h hn
        cases ds with
        | nil => exact h.elim
        | cons d ds =>
          refine ⟨?_, ihx h.2 fun f a b c hm => hn f a b c (List.mem_cons_of_mem _ hm)⟩
          have hx := h.1
          cases d with
          | wr i' s' =>
            obtain ⟨a, b', c', rfl, r1, r2, r3, m1, m2, m3⟩ := hx
            have m1 := stay b4 m1
            have m2 := stay b4 m2
            have m3 := stay b4 m3
            exact ⟨a, b', c', rfl, r1, r2, r3, hc5.keep m1 (no5 _ _ _ m1 (by decide)), hc5.keep m2 (hn _ a b' c' List.mem_cons_self), hc5.keep m3 (no5 _ _ _ m3 (by decide))⟩
          | sy => exact hx
    have newB : ∀ {xs : List Value} {ds : List De}, dRs W.heap.size w q p xs ds → NoB v5 xs → NoB v5' xs := fun {xs ds} h hn f a b c hm hv => by
      rcases fr5 b hv with h' | h'
      · exact hn f a b c hm h'
      · have := (dRs_B h f a b c hm).2; omega
    have n6 := newB d6 n6
    have n7 := newB d7 n7
    have h6T : ∀ g, v6.ownBlock = some g → g < w.heap.size := fun g hg => (ownV_lt h6 g hg).2.1
    have h7T : ∀ g, v7.ownBlock = some g → g < w.heap.size := fun g hg => (ownV_lt h7 g hg).2.1
    have h6 := keepO h6
    have h7 := keepO h7
    have d6 := keepD d6 ‹NoB v5 xs6›
    have d7 := keepD d7 ‹NoB v5 xs7›
    have lt5' : ∀ g, v5'.ownBlock = some g → g < w5.heap.size := fun g hg => (ownV_lt o5 g hg).2.1
    have cq1 : w5.cell? ⟨q, 1, none⟩ = some u := by rw [cell_of_blk hq5]; rfl
    have c0 : w5.cell? ⟨w1.heap.size, 0, none⟩ = some (.int .i64 ((n : Nat) : Int)) := by rw [cell_of_blk k2]; rfl
    have hnL : n < L.length := by omega
    obtain ⟨gu, hiau, hcu, _⟩ := cell_V hu5 (i := n) (by rw [List.length_map]; exact hnL)
    rw [List.getElem_map] at hcu
    have eLn : L.getD ((n : Nat) : Int).toNat ⟨#[]⟩ = L[n] := by rw [Int.toNat_natCast, List.getD_eq_getElem?_getD, List.getElem?_eq_getElem hnL]; rfl
    have e6 : imsD L cs (i + 1) = imsD L cs i ++ pageD (imG i) (L.getD ((n : Nat) : Int).toNat ⟨#[]⟩) := e6
    rw [eLn] at e6
    have e7 : pgsD cs (i + 1) = pgsD cs i ++ pageD (plG ((n : Nat) : Int)) s := e7
    try simp only [↓reduceIte, ↓LL, LM, Value.cells, Nat.reduceAdd, Option.some.injEq, exists_eq_left', decide_true, decide_false, if_true, if_false, reduceCtorEq, cond_true, cond_false, cq1, c0, hiau, hcu]
    refine f112_s (p := p) (plc_S1 (show (drw w5).heap[w.heap.size]? = _ from k1) (by omega)) fun w6 va ba da => ?_
    have ba := of_drw' ba
    have da : DsAt w5.heap.size w5.heap.size w6 q p va _ := da
    obtain ⟨ys, oa, dya⟩ := da
    have pl := pageD_len (imG i) L[n]
    have xa := dRs_len dya
    have sW5 : W.heap.size ≤ w5.heap.size := hb5.size
    try simp only [↓reduceIte, ↓LL, LM, Value.cells, Nat.reduceAdd, Option.some.injEq, exists_eq_left', decide_true, decide_false, if_true, if_false, reduceCtorEq, cond_true, cond_false]
    refine ap_dx (p := p) (q := q) (ownV_below h6 ba) oa (dRs_one dya) (by omega) (Nat.le_trans sW5 ba.size) fun w7 v6' b7 o7 kD hc7 fr7 => ?_
    have hb6 := bt hb5 ba
    have hb7 : Below W.heap.size W w7 := hb6.trans b7
    have d6' : dRs W.heap.size w7 q p (xs6 ++ ys) (imsD L cs (i + 1)) := by
      rw [e6]
      exact dRs_app (kD _ _ _ (dRs_below d6 ba)) (kD _ _ _ (dRs_imp dya fun x d hx => dR_weak hx sW5))
    have n6' : NoB v5' (xs6 ++ ys) := NoB_app n6 fun f a b c hm hv => by
      have := (dRs_B dya f a b c hm).1
      have := lt5' b hv
      omega
    have no6 : ∀ g cur e', w6.heap[g]? = some (.cells cur e' (0, 0)) → e' ≠ 165 → ¬ v6.ownBlock = some g := fun g cur e' hg he hn => by
      obtain ⟨_, _, cur', hcur⟩ := ownV_lt (ownV_below h6 ba) g hn
      rw [hg] at hcur; cases hcur; exact he rfl
    have k2 := hc7.keep (stay ba k2) (no6 _ _ _ (stay ba k2) (by decide))
    have c1 : w7.cell? ⟨w1.heap.size, 1, none⟩ = some (.string s) := by rw [cell_of_blk k2]; rfl
    have o5' := ownV_chg (ownV_below o5 ba) hc7 fun g hg hn => by
      obtain ⟨_, _, cur, hcur⟩ := ownV_lt (ownV_below o5 ba) g hg
      exact no6 g cur _ hcur (by decide) hn
    have h7' := ownV_chg (ownV_below h7 ba) hc7 fun g hg hn => hne g hn hg
    have d7' := kD _ _ _ (dRs_below d7 ba)
    try simp only [↓reduceIte, ↓LL, LM, Value.cells, Nat.reduceAdd, Option.some.injEq, exists_eq_left', decide_true, decide_false, if_true, if_false, reduceCtorEq, cond_true, cond_false, c1]
    refine f112_s (p := p) (plc_S2 k2 (by omega) (by omega)) fun w8 vb bb db => ?_
    obtain ⟨zs, ob, dyb⟩ := db
    have pl2 := pageD_len (plG ((n : Nat) : Int)) s
    have xb := dRs_len dyb
    have sW7 : W.heap.size ≤ w7.heap.size := hb7.size
    try simp only [↓reduceIte, ↓LL, LM, Value.cells, Nat.reduceAdd, Option.some.injEq, exists_eq_left', decide_true, decide_false, if_true, if_false, reduceCtorEq, cond_true, cond_false]
    refine ap_dx (p := p) (q := q) (ownV_below h7' bb) ob (dRs_one dyb) (by omega) (Nat.le_trans sW7 bb.size) fun w9 v7' b9 o9 kD9 hc9 fr9 => ?_
    have hb9 : Below W.heap.size W w9 := (bt hb7 bb).trans b9
    try simp only [↓reduceIte, ↓LL, LM, Value.cells, Nat.reduceAdd, Option.some.injEq, exists_eq_left', decide_true, decide_false, if_true, if_false, reduceCtorEq, cond_true, cond_false, h3]
    have s56 : w5.heap.size ≤ w6.heap.size := ba.size
    have s67 : w6.heap.size ≤ w7.heap.size := hc7.size
    have s78 : w7.heap.size ≤ w8.heap.size := bb.size
    have no7 : ∀ g cur e', w8.heap[g]? = some (.cells cur e' (0, 0)) → e' ≠ 165 → ¬ v7.ownBlock = some g := fun g cur e' hg he hn => by
      obtain ⟨_, _, cur', hcur⟩ := ownV_lt (ownV_below h7' bb) g hn
      rw [hg] at hcur; cases hcur; exact he rfl
    refine ih m (i + 1) w9 v5' v6' v7' (xs6 ++ ys) (xs7 ++ zs) (by omega) (by omega) hb9 ?_ ?_ (kD9 _ _ _ (dRs_below d6' bb)) n6' o9 ?_ ?_ ?_ kk
    · exact ownV_chg (ownV_below o5' bb) hc9 fun g hg hn => by
        obtain ⟨_, _, cur, hcur⟩ := ownV_lt (ownV_below o5' bb) g hg
        exact no7 g cur _ hcur (by decide) hn
    · exact ownV_chg (ownV_below o7 bb) hc9 fun g hg hn => by
        rcases fr7 g hg with h' | h'
        · exact hne g h' hn
        · have := h7T g hn; omega
    · rw [e7]
      exact dRs_app (kD9 _ _ _ (dRs_below d7' bb)) (kD9 _ _ _ (dRs_imp dyb fun x d hx => dR_weak hx sW7))
    · exact NoB_app n7 fun f a b c hm hv => by
        have := (dRs_B dyb f a b c hm).1
        have := lt5' b hv
        omega
    · intro g hg hn
      have l6' : g < w7.heap.size := (ownV_lt o7 g hg).2.1
      rcases fr9 g hn with h' | h'
      · rcases fr7 g hg with h'' | h''
        · exact hne g h'' h'
        · have := h7T g h'; omega
      · omega
end
end Go.Proofs.YtongpnolikkknaaGreatDoor

set_option maxRecDepth 20000
set_option maxHeartbeats 4000000
namespace Go.Proofs.YtongpnolikkknaaGreatDoor
open Sh RowKit Go.MapKept
section
variable {e : TypeId} {B C Bp : Nat} {W w w' : World} {p q b : Nat} {v u lv : Value} {D : Dv} {Q : Value → World → Prop}
/-- deeds behind a change of another row -/
theorem DsAt_row {ds : List De} {u v2 : Value} (h : DsAt B C w q p u ds) (hc : ChgS (fun k => v2.ownBlock = some k) w w') (ht : ∀ g, v2.ownBlock = some g → ∃ cur, w.heap[g]? = some (.cells cur 165 (0, 0))) (hne : ∀ g, u.ownBlock = some g → v2.ownBlock ≠ some g) : DsAt B C w' q p u ds := by
  obtain ⟨xs, h1, h2⟩ := h
  refine ⟨xs, ownV_chg h1 hc fun g hg => hne g hg, dRs_imp h2 fun x d hx => dR_chg hx hc fun g cur e _ hg he hn => ?_⟩
  obtain ⟨cur', hcur⟩ := ht g hn
  rw [hg] at hcur
  cases hcur
  rcases he with he | he | he <;> revert he <;> decide
/-- a row of one deed -/
theorem lit1_s {x : Value} {d : De} {K : Value → M} (hx : dR C w q p x d) (kk : ∀ w' v', Below w.heap.size w w' → DsAt w.heap.size C w' q p v' [d] → (∀ g, v'.ownBlock = some g → g = w.heap.size) → K v' w' Q) :
    sm Tryz.prog (Instr.buildSlice 138 1 #[(0, x)]) K w Q := by
  obtain ⟨o1, o2⟩ := dR_one hx
  refine bsl1 slD rfl o2 ?_
  have b1 := b_psh w (.cells #[x] 165)
  refine kk _ _ b1 ⟨[x], ownV_mk (xs := [x]) (Nat.le_refl _) blk_psh_new (Nat.le_refl 1) (by unfold maxLen; decide) rfl rfl, dR_chg hx (ChgS.of_below b1 (S := fun _ => False)) (fun _ _ _ _ _ _ h => h), trivial⟩ (fun g hg => by cases hg; rfl)
theorem steps_j3 {st c v5 : Value} {ds : List De} (hq : W.heap[q]? = some (.cells #[pv p, u, st, c] 133 (0, 0))) (hb : Below W.heap.size W w) (h : DsAt W.heap.size W.heap.size w q p v5 ds) (hl : ds.length ≤ 1000)
    (kk : ∀ w' v', Below W.heap.size W w' → DsAt W.heap.size W.heap.size w' q p v' (ds ++ markD false) → Q v' w') : f91_j3 (pv q) v5 w Q := by
  unfold f91_j3
  have hq1 := stay hb hq
  try simp only [↓reduceIte, ↓LL, LM, Value.cells, Nat.reduceAdd, Option.some.injEq, exists_eq_left', decide_true, decide_false, if_true, if_false, reduceCtorEq, cond_true, cond_false]
  refine f115_s (p := p) (by rw [cell_of_blk hq1]; rfl) fun w2 v2 b2 d2 => ?_
  have hb2 := bt hb b2
  try simp only [↓reduceIte, ↓LL, LM, Value.cells, Nat.reduceAdd, Option.some.injEq, exists_eq_left', decide_true, decide_false, if_true, if_false, reduceCtorEq, cond_true, cond_false]
  refine ap_ds (h.below b2) (d2.weak (Nat.le_refl _) hb.size) (by simp [markD]; omega) hb2.size fun w3 v3 b3 d3 _ _ => ?_
  try simp only [↓reduceIte, ↓LL, LM, Value.cells, Nat.reduceAdd, Option.some.injEq, exists_eq_left', decide_true, decide_false, if_true, if_false, reduceCtorEq, cond_true, cond_false]
  exact kk w3 v3 (hb2.trans b3) d3
theorem f91_s {L : List ByteArray} {cs : List Ch} {st c : Value} (hq : w.heap[q]? = some (.cells #[pv p, u, st, c] 133 (0, 0))) (hu : ownV Bp 9 w u (L.map .string)) (hcs : rdS 2 (eR encC) w lv cs) (hl : cs.length ≤ 31) (hbd : ∀ x ∈ cs, 0 ≤ x.1 ∧ x.1 < (L.length : Int)) (hL : L.length ≤ 1000)
    (kk : ∀ w' v', Below w.heap.size w w' → DsAt w.heap.size w.heap.size w' q p v' (stepsD L cs) → Q v' w') : f91 (pv q) lv w Q := by
  unfold f91
  have ll := lnl_S hcs
  have lI := imsD_len L cs cs.length
  have lP := pgsD_len cs cs.length
  try simp only [↓reduceIte, ↓LL, LM, Value.cells, Nat.reduceAdd, Option.some.injEq, exists_eq_left', decide_true, decide_false, if_true, if_false, reduceCtorEq, cond_true, cond_false, ll]
  refine ⟨_, steps_loop (W := w) (q := q) (p := p) hq hu hcs hl hbd hL cs.length (cs.length + 1) 0 w _ _ _ [] [] (by omega) (by omega) (Below.refl _ _) ownV_nil ownV_nil trivial (fun f a b c h => by simp at h) ownV_nil trivial (fun f a b c h => by simp at h) (fun g hg => by cases hg) fun w1 v5 v6 v7 b1 o5 d6 d7 hne => ?_⟩
  unfold f91_j1
  have hmem : ∀ x ∈ cs.map (·.1), x ≤ 9223372036854775807 := fun x hx => by
    obtain ⟨y, hy, rfl⟩ := List.mem_map.1 hx
    have := hbd y hy; omega
  try simp only [↓reduceIte, ↓LL, LM, Value.cells, Nat.reduceAdd, Option.some.injEq, exists_eq_left', decide_true, decide_false, if_true, if_false, reduceCtorEq, cond_true, cond_false]
  refine f118_s (ownI_rd o5) (by rw [List.length_map]; omega) hmem fun w2 b2 => ?_
  have hb2 := bt b1 b2
  try simp only [↓reduceIte, ↓LL, LM, Value.cells, Nat.reduceAdd, Option.some.injEq, exists_eq_left', decide_true, decide_false, if_true, if_false, reduceCtorEq, cond_true, cond_false, get0, get1]
  refine f119_s (p := p) fun w3 x b3 hx => ?_
  have hb3 := bt hb2 b3
  have hx := dR_weak hx hb2.size
  try simp only [↓reduceIte, ↓LL, LM, Value.cells, Nat.reduceAdd, Option.some.injEq, exists_eq_left', decide_true, decide_false, if_true, if_false, reduceCtorEq, cond_true, cond_false]
  refine lit1_s hx fun w4 v4 b4 d4 fr4 => ?_
  have hb4 := bt hb3 b4
  have d4 := d4.weak hb3.size (Nat.le_refl _)
  have b24 := bt b2 (bt b3 b4)
  have d6 := d6.below b24
  have d7 := d7.below b24
  have lt7 : ∀ g, v7.ownBlock = some g → g < w3.heap.size := fun g hg => by
    have := (DsAt_lt (ds := pgsD cs cs.length) ‹DsAt w.heap.size w.heap.size w1 q p v7 _› g hg).2
    have := (bt b2 b3).size
    omega
  have ne4 : ∀ g, v7.ownBlock = some g → v4.ownBlock ≠ some g := fun g hg h => by have := lt7 g hg; have := fr4 g h; omega
  try simp only [↓reduceIte, ↓LL, LM, Value.cells, Nat.reduceAdd, Option.some.injEq, exists_eq_left', decide_true, decide_false, if_true, if_false, reduceCtorEq, cond_true, cond_false]
  refine ap_ds d4 d6 (by simp only [List.length_cons, List.length_nil]; omega) hb4.size fun w5 v5' b5 d5 hc5 fr5 => ?_
  have hb5 := hb4.trans b5
  have d7 := DsAt_row d7 hc5 (fun g hg => (DsAt_ty d4 g hg).2.2) ne4
  have ne5 : ∀ g, v7.ownBlock = some g → v5'.ownBlock ≠ some g := fun g hg h => by
    rcases fr5 g h with h' | h'
    · exact ne4 g hg h'
    · have := lt7 g hg; have := b4.size; omega
  have hq5 := stay hb5 hq
  have cq0 : w5.cell? ⟨q, 0, none⟩ = some (pv p) := by rw [cell_of_blk hq5]; rfl
  try simp only [↓reduceIte, ↓LL, LM, Value.cells, Nat.reduceAdd, Option.some.injEq, exists_eq_left', decide_true, decide_false, if_true, if_false, reduceCtorEq, cond_true, cond_false, cq0]
  refine ap_d d5 (show dR w.heap.size w5 q p _ .sy from rfl) (by simp only [List.length_append, List.length_cons, List.length_nil]; omega) hb5.size fun w6 v6' b6 d6' hc6 fr6 => ?_
  have hb6 := hb5.trans b6
  have d7 := DsAt_row d7 hc6 (fun g hg => (DsAt_ty d5 g hg).2.2) ne5
  have ne6 : ∀ g, v7.ownBlock = some g → v6'.ownBlock ≠ some g := fun g hg h => by
    rcases fr6 g h with h' | h'
    · exact ne5 g hg h'
    · have := lt7 g hg; have := b4.size; have := hc5.size; omega
  have hq6 := stay hb6 hq
  try simp only [↓reduceIte, ↓LL, LM, Value.cells, Nat.reduceAdd, Option.some.injEq, exists_eq_left', decide_true, decide_false, if_true, if_false, reduceCtorEq, cond_true, cond_false]
  refine f115_s (p := p) (by rw [cell_of_blk hq6]; rfl) fun w7 v7m b7 dm => ?_
  have hb7 := bt hb6 b7
  have d7 := d7.below b7
  try simp only [↓reduceIte, ↓LL, LM, Value.cells, Nat.reduceAdd, Option.some.injEq, exists_eq_left', decide_true, decide_false, if_true, if_false, reduceCtorEq, cond_true, cond_false]
  refine ap_ds (d6'.below b7) (dm.weak (Nat.le_refl _) hb6.size) (by simp only [List.length_append, List.length_cons, List.length_nil, markD]; omega) hb7.size fun w8 v8 b8 d8 hc8 fr8 => ?_
  have hb8 := hb7.trans b8
  have d7 := DsAt_row d7 hc8 (fun g hg => (DsAt_ty (d6'.below b7) g hg).2.2) ne6
  have hq8 := stay hb8 hq
  have cq8 : w8.cell? ⟨q, 0, none⟩ = some (pv p) := by rw [cell_of_blk hq8]; rfl
  have ne8 : ∀ g, v7.ownBlock = some g → v8.ownBlock ≠ some g := fun g hg h => by
    rcases fr8 g h with h' | h'
    · exact ne6 g hg h'
    · have := lt7 g hg; have := b4.size; have := hc5.size; have := hc6.size; have := b7.size; omega
  have eS : stepsD L cs = [De.wr 1 (dirW (cs.map (fun x : Ch => x.1))).1] ++ imsD L cs cs.length ++ [De.sy] ++ markD true ++ pgsD cs cs.length ++ [.sy] ++ markD false := rfl
  rw [eS] at kk
  have lA : ([De.wr 1 (dirW (cs.map (fun x : Ch => x.1))).1] ++ imsD L cs cs.length ++ [De.sy] ++ markD true).length ≤ 300 := by simp only [List.length_append, List.length_cons, List.length_nil, markD]; omega
  generalize [De.wr 1 (dirW (cs.map (fun x : Ch => x.1))).1] ++ imsD L cs cs.length ++ [De.sy] ++ markD true = dA at *
  try simp only [↓reduceIte, ↓LL, LM, Value.cells, Nat.reduceAdd, Option.some.injEq, exists_eq_left', decide_true, decide_false, if_true, if_false, reduceCtorEq, cond_true, cond_false, cq8]
  have fin : ∀ w9 v9, Below w.heap.size w w9 → DsAt w.heap.size w.heap.size w9 q p v9 (dA ++ pgsD cs cs.length ++ [.sy]) → f91_j3 (pv q) v9 w9 Q := fun w9 v9 hb9 h9 =>
    steps_j3 hq hb9 h9 (by simp only [List.length_append, List.length_cons, List.length_nil]; omega) kk
  have d8d : DsAt w.heap.size w.heap.size (drw w8) q p v8 dA := d8.below ⟨rfl, rfl, rfl, Nat.le_refl _, fun _ _ => rfl⟩
  have d7d : DsAt w.heap.size w.heap.size (drw w8) q p v7 (pgsD cs cs.length) := d7.below ⟨rfl, rfl, rfl, Nat.le_refl _, fun _ _ => rfl⟩
  refine ⟨?_, ?_⟩
  · refine ap_ds d8d d7d (by omega) (show _ ≤ (drw w8).heap.size from hb8.size) fun w9 v9 b9 d9 hc9 _ => ?_
    have hb8' : Below w.heap.size w (drw w8) := ⟨hb8.os, hb8.tape, hb8.output, hb8.size, hb8.block⟩
    have hb9 := hb8'.trans b9
    have hq9 := stay hb9 hq
    have cq9 : w9.cell? ⟨q, 0, none⟩ = some (pv p) := by rw [cell_of_blk hq9]; rfl
    refine ⟨by rw [Kld_e]; exact cq9, ?_⟩
    refine ap_d d9 (show dR w.heap.size w9 q p _ .sy from rfl) (by simp only [List.length_append]; omega) hb9.size fun w10 v10 b10 d10 _ _ => ?_
    try simp only [↓reduceIte, ↓LL, LM, Value.cells, Nat.reduceAdd, Option.some.injEq, exists_eq_left', decide_true, decide_false, if_true, if_false, reduceCtorEq, cond_true, cond_false]
    exact fin w10 v10 (hb9.trans b10) d10
  · have hb8' : Below w.heap.size w (drw w8) := ⟨hb8.os, hb8.tape, hb8.output, hb8.size, hb8.block⟩
    refine lit1_s (show dR w.heap.size (drw w8) q p _ .sy from rfl) fun w9 v9 b9 d9 fr9 => ?_
    have hb9 := bt hb8' b9
    have d9 := d9.weak hb8.size (Nat.le_refl _)
    refine ap_ds (d8d.below b9) (d7d.below b9) (by omega) hb9.size fun w10 v10 b10 d10 hc10 _ => ?_
    have hb10 := hb9.trans b10
    have hq10 := stay hb10 hq
    have cq10 : w10.cell? ⟨q, 0, none⟩ = some (pv p) := by rw [cell_of_blk hq10]; rfl
    have d9 := DsAt_row d9 hc10 (fun g hg => (DsAt_ty (d8d.below b9) g hg).2.2) fun g hg h => by
      have := fr9 g hg
      have := (DsAt_lt d8d g h).2
      omega
    refine ⟨by rw [Kld_e]; exact cq10, ?_⟩
    refine ap_ds d10 d9 (by simp only [List.length_append, List.length_cons, List.length_nil]; omega) hb10.size fun w11 v11 b11 d11 _ _ => ?_
    try simp only [↓reduceIte, ↓LL, LM, Value.cells, Nat.reduceAdd, Option.some.injEq, exists_eq_left', decide_true, decide_false, if_true, if_false, reduceCtorEq, cond_true, cond_false]
    exact fin w11 v11 (hb10.trans b11) d11
end
end Go.Proofs.YtongpnolikkknaaGreatDoor

set_option maxRecDepth 20000
set_option maxHeartbeats 4000000
namespace Go.Proofs.YtongpnolikkknaaGreatDoor
open Sh RowKit Go.MapKept
structure Pg where
  L : List ByteArray
  st : Bool
  c : Int
def setL (L : List ByteArray) (cs : List Ch) : List ByteArray := cs.foldl (fun L c => L.set c.1.toNat c.2) L
theorem setL_len (cs : List Ch) : ∀ L : List ByteArray, (setL L cs).length = L.length := by
  induction cs with
  | nil => intro L; rfl
  | cons c cs ih => intro L; show (setL (L.set c.1.toNat c.2) cs).length = _; rw [ih, List.length_set]
theorem setL_snoc (L : List ByteArray) (cs : List Ch) (c : Ch) : setL L (cs ++ [c]) = (setL L cs).set c.1.toNat c.2 := by
  unfold setL; rw [List.foldl_append]; rfl
/-- a commit: the error, the device and the pager behind it -/
def commitB (G : Pg) (D : Dv) (cs : List Ch) : Int × Dv × Pg :=
  if mayB G.st G.L.length cs ≠ 0 ∨ cs = [] then (mayB G.st G.L.length cs, D, G)
  else if (runs (stepsD G.L cs) D).1 ≠ 0 then ((runs (stepsD G.L cs) D).1, (runs (stepsD G.L cs) D).2, { G with st := true })
  else (0, (runs (stepsD G.L cs) D).2, ⟨setL G.L cs, G.st, G.c + 1⟩)
theorem mayB_ok {st : Bool} {N : Nat} {cs : List Ch} (h : mayB st N cs = 0) : st = false ∧ cs.length ≤ 31 ∧ (∀ x ∈ cs, 0 ≤ x.1 ∧ x.1 < (N : Int)) ∧ (cs.map (·.1)).Nodup ∧ ∀ c ∈ cs, c.2.size = 256 := by
  unfold mayB at h
  split at h
  · cases h
  · rename_i h1
    split at h
    · cases h
    · rename_i h2
      split at h
      · cases h
      · rename_i h3
        split at h
        · cases h
        · rename_i h4
          unfold oddL at h4
          have h4 := Classical.not_not.1 (fun h => h4 (decide_eq_true h))
          refine ⟨by simpa using h1, by omega, fun x hx => ?_, h4.1, h4.2⟩
          have h5 : ¬ (x.1 < 0 ∨ (N : Int) ≤ x.1) := fun h => h3 ⟨x, hx, h⟩
          omega
section
variable {e : TypeId} {B C Bp Bc : Nat} {W w w' : World} {p q b : Nat} {v u lv : Value} {D : Dv} {Q : Value → World → Prop}
theorem ownE_chg {α : Type} {enc : α → List Value} {n : Nat} {l : List α} {S : Nat → Prop} (h : ownE C e n enc w u l) (hc : ChgS S w w') (hS : ∀ g, u.ownBlock = some g → ¬ S g) : ownE C e n enc w' u l :=
  ownE_stay h fun g hg => by
    obtain ⟨_, hl, cur, hcur⟩ := ownE_blk h g hg
    rw [hcur]; exact hc.keep hcur (hS g hg)
theorem commit_loop {L : List ByteArray} {cs : List Ch} {st c : Value} {j1 : Value → M} (hq : W.heap[q]? = some (.cells #[pv p, u, st, c] 133 (0, 0))) (hu : ownV Bp 9 W u (L.map .string)) (hcs : ownE Bc 48 2 encC W lv cs) (hl : cs.length ≤ 31) (hbd : ∀ x ∈ cs, 0 ≤ x.1 ∧ x.1 < (L.length : Int)) :
    ∀ (d m i : Nat) (w : World), i + d = cs.length → d < m → ChgS (fun k => u.ownBlock = some k) W w → ownV Bp 9 w u ((setL L (cs.take i)).map .string) →
    (∀ w', ChgS (fun k => u.ownBlock = some k) W w' → ownV Bp 9 w' u ((setL L cs).map .string) → j1 (pv q) w' Q) →
    itr (fun _ _ _ _ => bot) (f44_b2 j1) m (pv q) lv (.int .i64 ((cs.length : Nat) : Int)) (.int .i64 ((i : Nat) : Int)) w Q := by
  have uT : ∀ g, u.ownBlock = some g → g < W.heap.size ∧ ∃ cur, W.heap[g]? = some (.cells cur 9 (0, 0)) := fun g hg => ⟨(ownV_lt hu g hg).2.1, (ownV_lt hu g hg).2.2⟩
  have no : ∀ g cur e', W.heap[g]? = some (.cells cur e' (0, 0)) → e' ≠ 9 → ¬ u.ownBlock = some g := fun g cur e' hg he hn => by
    obtain ⟨_, cur', hcur⟩ := uT g hn
    rw [hg] at hcur; cases hcur; exact he rfl
  intro d
  induction d with
  | zero =>
    intro m i w hi hm hc ho kk
    obtain ⟨m, rfl⟩ : ∃ x, m = x + 1 := ⟨m - 1, by omega⟩
    show f44_b2 j1 _ _ _ _ _ w Q
    unfold f44_b2
    have cc : ¬ (i : Int) < (cs.length : Nat) := by omega
    try simp only [↓reduceIte, ↓LL, LM, Value.cells, Nat.reduceAdd, Option.some.injEq, exists_eq_left', decide_true, decide_false, if_true, if_false, reduceCtorEq, cond_true, cond_false, cc]
    rw [List.take_of_length_le (by omega)] at ho
    exact kk w hc ho
  | succ d ih =>
    intro m i w hi hm hc ho kk
    obtain ⟨m, rfl⟩ : ∃ x, m = x + 1 := ⟨m - 1, by omega⟩
    show f44_b2 j1 _ _ _ _ _ w Q
    unfold f44_b2
    have cc : (i : Int) < (cs.length : Nat) := by omega
    have hil : i < cs.length := by omega
    have h3 : IntKind.i64.wrap ((i : Int) + 1) = ((i + 1 : Nat) : Int) := by rw [w64 (by omega) (by omega)]; rfl
    have hcsw : ownE Bc 48 2 encC w lv cs := ownE_chg hcs hc fun g hg hn => by
      obtain ⟨_, _, cur, hcur⟩ := ownE_blk hcs g hg
      exact no g cur _ hcur (by decide) hn
    obtain ⟨ad, es, he1, he2, he3, hia⟩ := rdS_at (ownE_rd encC_len (by decide) hcsw) hil
    have hts : cs.take (i + 1) = cs.take i ++ [cs[i]] := List.take_succ_eq_append_getElem hil
    have hmem := List.getElem_mem hil
    try simp only [↓reduceIte, ↓LL, LM, Value.cells, Nat.reduceAdd, Option.some.injEq, exists_eq_left', decide_true, decide_false, if_true, if_false, reduceCtorEq, cond_true, cond_false, cc, hia]
    refine ldn_at he2 he1 ?_
    have he3 : es = encC cs[i] := he3
    rw [he3]
    generalize cs[i] = x at *
    obtain ⟨n, s⟩ := x
    obtain ⟨n0, n1'⟩ := hbd _ hmem
    have n0 : 0 ≤ n := n0
    have n1' : n < (L.length : Int) := n1'
    obtain ⟨n, rfl⟩ := Int.eq_ofNat_of_zero_le n0
    have b1 := b_psh w (.cells #[.int .i64 0, .string ⟨#[]⟩] 48)
    have k1 := blk_psh_new (w := w) (o := .cells #[.int .i64 0, .string ⟨#[]⟩] 48)
    try simp only [↓reduceIte, ↓LL, LM, Value.cells, Nat.reduceAdd, Option.some.injEq, exists_eq_left', decide_true, decide_false, if_true, if_false, reduceCtorEq, cond_true, cond_false]
    refine stn_box k1 (by simp) (by simp [encC]) (by intro x hx; exact encC_one (((n : Nat) : Int), s) x (by simpa using hx)) fun w2 k2 u2 => ?_
    have b2 : Below w.heap.size w w2 := b1.trans (u2.below (Nat.le_refl _))
    have hc2 : ChgS (fun k => u.ownBlock = some k) W w2 := hc.trans (ChgS.of_below b2) fun _ _ h => h
    have c0 : w2.cell? ⟨w.heap.size, 0, none⟩ = some (.int .i64 ((n : Nat) : Int)) := by rw [cell_of_blk k2]; rfl
    have c1 : w2.cell? ⟨w.heap.size, 1, none⟩ = some (.string s) := by rw [cell_of_blk k2]; rfl
    have hq2 := hc2.keep hq (no q _ _ hq (by decide))
    have cq : w2.cell? ⟨q, 1, none⟩ = some u := by rw [cell_of_blk hq2]; rfl
    have ho2 := ownV_below ho b2
    try simp only [↓reduceIte, ↓LL, LM, Value.cells, Nat.reduceAdd, Option.some.injEq, exists_eq_left', decide_true, decide_false, if_true, if_false, reduceCtorEq, cond_true, cond_false, c0, c1, cq]
    refine ia_stV (w := drw w2) (show ownV Bp 9 (drw w2) u _ from ho2) (i := n) (by rw [List.length_map, setL_len]; omega) rfl fun w3 g3 hg3 o3 up3 => ?_
    have es3 : ((setL L (cs.take i)).map Value.string).set n (.string s) = (setL L (cs.take (i + 1))).map .string := by rw [hts, setL_snoc, List.map_set]; rfl
    rw [es3] at o3
    try simp only [↓reduceIte, ↓LL, LM, Value.cells, Nat.reduceAdd, Option.some.injEq, exists_eq_left', decide_true, decide_false, if_true, if_false, reduceCtorEq, cond_true, cond_false, h3]
    exact ih m (i + 1) w3 (by omega) (by omega) (hc2.drw.trans (ChgS.of_upd up3 hg3) fun _ _ h => h) o3 kk
theorem f44_s {G : Pg} {cs : List Ch} (hd : DevAt B w p v b D) (hq : w.heap[q]? = some (.cells #[pv p, u, .bool G.st, .int .i64 G.c] 133 (0, 0))) (hu : ownV Bp 9 w u (G.L.map .string)) (hcs : ownE Bc 48 2 encC w lv cs)
    (h0 : 0 ≤ D.c) (h1 : D.c + 300 ≤ 1000000) (hG0 : 0 ≤ G.c) (hG1 : G.c ≤ 1000000) (hL : G.L.length ≤ 1000)
    (kk : ∀ w', DevAt B w' p v b (commitB G D cs).2.1 → w'.heap[q]? = some (.cells #[pv p, u, .bool (commitB G D cs).2.2.st, .int .i64 (commitB G D cs).2.2.c] 133 (0, 0)) → ownV Bp 9 w' u ((commitB G D cs).2.2.L.map .string) →
      ChgS (fun k => k = q ∨ u.ownBlock = some k ∨ fpD p v b k) w w' → Q (.int .i64 (commitB G D cs).1) w') : f44 (pv q) lv w Q := by
  unfold f44
  rw [pn_eq pt49]
  have hrd := ownE_rd encC_len (by decide) hcs
  have ll := lnl_S hrd
  have uq : ¬ u.ownBlock = some q := fun hn => by
    obtain ⟨_, _, cur, hcur⟩ := ownV_lt hu q hn
    rw [hcur] at hq; cases hq
  try simp only [↓reduceIte, ↓LL, LM, Value.cells, Nat.reduceAdd, Option.some.injEq, exists_eq_left', decide_true, decide_false, if_true, if_false, reduceCtorEq, cond_true, cond_false, Option.isNone]
  refine f89_s hq hu hrd (by omega) fun w1 b1 => ?_
  by_cases cm : mayB G.st G.L.length cs ≠ 0 ∨ cs = []
  · have e : commitB G D cs = (mayB G.st G.L.length cs, D, G) := by unfold commitB; rw [if_pos cm]
    rw [e] at kk
    have fin := kk w1 (hd.below b1) (stay b1 hq) (ownV_below hu b1) (ChgS.of_below b1)
    by_cases c1 : mayB G.st G.L.length cs = 0
    · have c2 : cs = [] := cm.resolve_left fun h => h c1
      have c3 : ((cs.length : Nat) : Int) = 0 := by rw [c2]; rfl
      try simp only [↓reduceIte, ↓LL, LM, Value.cells, Nat.reduceAdd, Option.some.injEq, exists_eq_left', decide_true, decide_false, if_true, if_false, reduceCtorEq, cond_true, cond_false, ne_eq, c1, ll, c3]
      rw [c1] at fin
      exact fin
    · try simp only [↓reduceIte, ↓LL, LM, Value.cells, Nat.reduceAdd, Option.some.injEq, exists_eq_left', decide_true, decide_false, if_true, if_false, reduceCtorEq, cond_true, cond_false, ne_eq, c1, ll]
      exact fin
  · have c1 : mayB G.st G.L.length cs = 0 := Classical.not_not.1 fun h => cm (.inl h)
    have c2 : cs ≠ [] := fun h => cm (.inr h)
    have c3 : ¬ ((cs.length : Nat) : Int) = 0 := by
      intro h
      exact c2 (List.length_eq_zero_iff.1 (by omega))
    obtain ⟨e1, e2, e3, e4, e5⟩ := mayB_ok c1
    have hq1 := stay b1 hq
    have hu1 := ownV_below hu b1
    have hcs1 := ownE_below hcs b1
    have hd1 := hd.below b1
    have lS := stepsD_len G.L cs
    try simp only [↓reduceIte, ↓LL, LM, Value.cells, Nat.reduceAdd, Option.some.injEq, exists_eq_left', decide_true, decide_false, if_true, if_false, reduceCtorEq, cond_true, cond_false, ne_eq, c1, ll, c3]
    refine f91_s (p := p) hq1 hu1 (ownE_rd encC_len (by decide) hcs1) e2 e3 hL fun w2 v2 b2 d2 => ?_
    have b02 := bt b1 b2
    have hq2 := stay b02 hq
    have hd2 := hd.below b02
    try simp only [↓reduceIte, ↓LL, LM, Value.cells, Nat.reduceAdd, Option.some.injEq, exists_eq_left', decide_true, decide_false, if_true, if_false, reduceCtorEq, cond_true, cond_false]
    refine f90_s (B2 := 0) hd2 hq2 rfl d2 (by omega) h0 (by omega) fun w3 d3 hc3 => ?_
    have hc03 : ChgS (fpD p v b) w w3 := (ChgS.of_below b02).trans hc3 fun _ _ h => h
    have hq3 := pg_dev hd2 hq2 hc3
    have hu3 := own_dev hd2 (ownV_below hu b02) (by decide) (by decide) hc3
    by_cases cz : (runs (stepsD G.L cs) D).1 = 0
    · have e : commitB G D cs = (0, (runs (stepsD G.L cs) D).2, ⟨setL G.L cs, G.st, G.c + 1⟩) := by unfold commitB; rw [if_neg cm, if_neg (fun h => h cz)]
      rw [e] at kk
      have hcs3 : ownE Bc 48 2 encC w3 lv cs := ownE_chg (ownE_below hcs b02) hc3 fun g hg => by
        obtain ⟨_, _, cur, hcur⟩ := ownE_blk (ownE_below hcs b02) g hg
        exact dev_ne hd2 hcur (by decide) (by decide)
      have ll3 := lnl_S hrd
      try simp only [↓reduceIte, ↓LL, LM, Value.cells, Nat.reduceAdd, Option.some.injEq, exists_eq_left', decide_true, decide_false, if_true, if_false, reduceCtorEq, cond_true, cond_false, ne_eq, cz, ll]
      refine ⟨_, commit_loop (W := w3) hq3 hu3 hcs3 e2 e3 cs.length (cs.length + 1) 0 w3 (by omega) (by omega) (ChgS.refl _ _) hu3 fun w4 hc4 hu4 => ?_⟩
      have hq4 := hc4.keep hq3 uq
      have c3 : w4.cell? ⟨q, 3, none⟩ = some (.int .i64 G.c) := by rw [cell_of_blk hq4]; rfl
      have ew : IntKind.i64.wrap (G.c + 1) = G.c + 1 := w64 (by omega) (by omega)
      have hd4 := d3.chgV hu3 (by decide) (by decide) hc4
      unfold f44_j1
      try simp only [↓reduceIte, ↓LL, LM, Value.cells, Nat.reduceAdd, Option.some.injEq, exists_eq_left', decide_true, decide_false, if_true, if_false, reduceCtorEq, cond_true, cond_false, c3, ew]
      refine st_box (o := 3) (v := .int .i64 (G.c + 1)) hq4 (show 3 < 4 by decide) rfl fun w5 hq5 u5 => ?_
      try simp only [↓reduceIte, ↓LL, LM, Value.cells, Nat.reduceAdd, Option.some.injEq, exists_eq_left', decide_true, decide_false, if_true, if_false, reduceCtorEq, cond_true, cond_false]
      refine kk w5 (hd4.chg (ChgS.of_upd u5 rfl (S := fun k => k = q)) fun k hk e => dev_ne hd4 hq4 (by decide) (by decide) (e ▸ hk)) hq5 ?_ ?_
      · exact ownV_stay hu4 fun g hg => u5.block g fun e => by rw [e] at hg; exact uq hg
      · refine (hc03.mono (T := fun k => k = q ∨ u.ownBlock = some k ∨ fpD p v b k) fun k h => .inr (.inr h)).trans (T := fun k => k = q ∨ u.ownBlock = some k ∨ fpD p v b k) ?_ fun _ _ h => h
        exact (hc4.mono fun k h => .inr (.inl h)).trans (ChgS.of_upd u5 (S := fun k => k = q ∨ u.ownBlock = some k ∨ fpD p v b k) (.inl rfl)) fun _ _ h => h
    · have e : commitB G D cs = ((runs (stepsD G.L cs) D).1, (runs (stepsD G.L cs) D).2, { G with st := true }) := by unfold commitB; rw [if_neg cm, if_pos cz]
      rw [e] at kk
      try simp only [↓reduceIte, ↓LL, LM, Value.cells, Nat.reduceAdd, Option.some.injEq, exists_eq_left', decide_true, decide_false, if_true, if_false, reduceCtorEq, cond_true, cond_false, ne_eq, cz]
      refine st_box (o := 2) (v := .bool true) hq3 (show 2 < 4 by decide) rfl fun w5 hq5 u5 => ?_
      try simp only [↓reduceIte, ↓LL, LM, Value.cells, Nat.reduceAdd, Option.some.injEq, exists_eq_left', decide_true, decide_false, if_true, if_false, reduceCtorEq, cond_true, cond_false]
      refine kk w5 (d3.chg (ChgS.of_upd u5 rfl (S := fun k => k = q)) fun k hk e => dev_ne d3 hq3 (by decide) (by decide) (e ▸ hk)) hq5 ?_ ?_
      · exact ownV_stay hu3 fun g hg => u5.block g fun e => by rw [e] at hg; exact uq hg
      · exact (hc03.mono fun k h => .inr (.inr h)).trans (ChgS.of_upd u5 (S := fun k => k = q ∨ u.ownBlock = some k ∨ fpD p v b k) (.inl rfl)) fun _ _ h => h
end
end Go.Proofs.YtongpnolikkknaaGreatDoor

set_option maxRecDepth 20000
namespace Go.Proofs.YtongpnolikkknaaGreatDoor
open Sh RowKit Go.MapKept
def De.ex : De → List Sec → List Sec
  | .wr i s, A => match A[i.toNat]? with
    | some x => A.set i.toNat ⟨x.s, some (pad s)⟩
    | none => A
  | .sy, A => A.map fun x => ⟨x.now, none⟩
def exs (ds : List De) (A : List Sec) : List Sec := ds.foldl (fun A d => d.ex A) A
def De.good (N : Nat) : De → Prop
  | .wr i s => 0 ≤ i ∧ i < (N : Int) ∧ s.size ≤ 64
  | .sy => True
theorem ex_wr_some {i : Int} {s : ByteArray} {A : List Sec} {x : Sec} (h : A[i.toNat]? = some x) : (De.wr i s).ex A = A.set i.toNat ⟨x.s, some (pad s)⟩ := by
  show (match A[i.toNat]? with
    | some x => A.set i.toNat ⟨x.s, some (pad s)⟩
    | none => A) = _
  rw [h]
theorem ex_wr_none {i : Int} {s : ByteArray} {A : List Sec} (h : A[i.toNat]? = none) : (De.wr i s).ex A = A := by
  show (match A[i.toNat]? with
    | some x => A.set i.toNat ⟨x.s, some (pad s)⟩
    | none => A) = _
  rw [h]
theorem ex_len (d : De) (A : List Sec) : (d.ex A).length = A.length := by
  cases d with
  | wr i s =>
    cases h : A[i.toNat]? with
    | none => rw [ex_wr_none h]
    | some x => rw [ex_wr_some h, List.length_set]
  | sy => show (A.map _).length = _; rw [List.length_map]
theorem exs_len : ∀ (ds : List De) (A : List Sec), (exs ds A).length = A.length
  | [], A => rfl
  | d :: ds, A => by
    show (exs ds (d.ex A)).length = _
    rw [exs_len ds, ex_len]
theorem exs_app (ds es : List De) (A : List Sec) : exs (ds ++ es) A = exs es (exs ds A) := by unfold exs; rw [List.foldl_append]
theorem exs_cons (d : De) (ds : List De) (A : List Sec) : exs (d :: ds) A = exs ds (d.ex A) := rfl
theorem run_ex {d : De} {D : Dv} (hg : d.good D.A.length) : d.run D = if D.h < D.c + 1 then (9, D.tick) else (0, ⟨d.ex D.A, D.c + 1, D.h⟩) := by
  cases d with
  | wr i s =>
    obtain ⟨h0, h1, h2⟩ := hg
    show D.wr i s = _
    unfold Dv.wr
    by_cases hh : D.h < D.c + 1
    · rw [if_pos hh, if_pos hh]
    · rw [if_neg hh, if_neg hh]
      obtain ⟨x, hx⟩ := at_some (D := D) h0 h1
      have hx2 := (at_lt hx).2.2
      rw [hx]
      have : ¬ 64 < s.size := by omega
      simp only [this, if_false]
      have e : De.ex (.wr i s) D.A = D.A.set i.toNat ⟨x.s, some (pad s)⟩ := ex_wr_some hx2
      rw [e]; rfl
  | sy =>
    show D.sync = _
    unfold Dv.sync
    by_cases hh : D.h < D.c + 1
    · rw [if_pos hh, if_pos hh]
    · rw [if_neg hh, if_neg hh]; rfl
theorem runs_ok : ∀ (ds : List De) (D : Dv), (∀ d ∈ ds, d.good D.A.length) → D.c + ds.length ≤ D.h → runs ds D = (0, ⟨exs ds D.A, D.c + ds.length, D.h⟩)
  | [], D, _, _ => by
    show ((0 : Int), D) = _
    rw [List.length_nil]
    show _ = ((0 : Int), (⟨D.A, D.c + ((0 : Nat) : Int), D.h⟩ : Dv))
    rw [show D.c + ((0 : Nat) : Int) = D.c by omega]
  | d :: ds, D, hg, hh => by
    rw [List.length_cons] at hh
    have hr := run_ex (hg d (List.mem_cons_self ..))
    rw [if_neg (by omega)] at hr
    show (if (d.run D).1 = 0 then runs ds (d.run D).2 else d.run D) = _
    rw [hr, if_pos rfl, runs_ok ds _ (fun x hx => by show x.good (d.ex D.A).length; rw [ex_len]; exact hg x (List.mem_cons_of_mem _ hx)) (by show D.c + 1 + (ds.length : Int) ≤ D.h; omega)]
    show ((0 : Int), (⟨exs ds (d.ex D.A), D.c + 1 + (ds.length : Int), D.h⟩ : Dv)) = _
    rw [List.length_cons, exs_cons, show D.c + 1 + (ds.length : Int) = D.c + ((ds.length + 1 : Nat) : Int) by omega]
theorem runs_two : ∀ (ds : List De) (D : Dv), (∀ d ∈ ds, d.good D.A.length) → (runs ds D = (0, ⟨exs ds D.A, D.c + ds.length, D.h⟩)) ∨ ((runs ds D).1 = 9 ∧ (runs ds D).2.h = D.h ∧ ∃ k, k < ds.length ∧ (runs ds D).2.A = exs (ds.take k) D.A)
  | [], D, _ => .inl (by
    show ((0 : Int), D) = _
    rw [List.length_nil]
    show _ = ((0 : Int), (⟨D.A, D.c + ((0 : Nat) : Int), D.h⟩ : Dv))
    rw [show D.c + ((0 : Nat) : Int) = D.c by omega])
  | d :: ds, D, hg => by
    have hr := run_ex (hg d (List.mem_cons_self ..))
    have e : runs (d :: ds) D = (if (d.run D).1 = 0 then runs ds (d.run D).2 else d.run D) := rfl
    by_cases hh : D.h < D.c + 1
    · rw [if_pos hh] at hr
      right
      rw [e, hr, if_neg (show ¬ (9 : Int) = 0 by decide)]
      exact ⟨rfl, rfl, 0, by simp, rfl⟩
    · rw [if_neg hh] at hr
      rw [e, hr, if_pos rfl]
      rcases runs_two ds ⟨d.ex D.A, D.c + 1, D.h⟩ (fun x hx => by show x.good (d.ex D.A).length; rw [ex_len]; exact hg x (List.mem_cons_of_mem _ hx)) with h | ⟨h1, h2, k, hk, h3⟩
      · left
        rw [h]
        show ((0 : Int), (⟨exs ds (d.ex D.A), D.c + 1 + (ds.length : Int), D.h⟩ : Dv)) = _
        rw [List.length_cons, exs_cons, show D.c + 1 + (ds.length : Int) = D.c + ((ds.length + 1 : Nat) : Int) by omega]
      · right
        exact ⟨h1, h2, k + 1, by rw [List.length_cons]; omega, by rw [h3, List.take_succ_cons, exs_cons]⟩
/-- writing to sector i leaves the others -/
theorem ex_wr_out {i : Nat} {a : Int} {s : ByteArray} {A : List Sec} (h : i ≠ a.toNat) : ((De.wr a s).ex A)[i]? = A[i]? := by
  cases hx : A[a.toNat]? with
  | none => rw [ex_wr_none hx]
  | some x => rw [ex_wr_some hx, List.getElem?_set_ne (fun e => h e.symm)]
theorem ex_wr_in {i : Nat} {a : Int} {s : ByteArray} {A : List Sec} {x : Sec} (h : i = a.toNat) (hx : A[i]? = some x) : ((De.wr a s).ex A)[i]? = some ⟨x.s, some (pad s)⟩ := by
  subst h
  have := (List.getElem?_eq_some_iff.1 hx).1
  rw [ex_wr_some hx, List.getElem?_set_self this]
theorem ex_sy {i : Nat} {A : List Sec} : (De.sy.ex A)[i]? = A[i]?.map fun x => ⟨x.now, none⟩ := by
  show (A.map _)[i]? = _
  rw [List.getElem?_map]
/-- a page's four sectors from b on -/
def pgW (b : Nat) (s : ByteArray) : List De := (List.range 4).map fun j => .wr ((b + j : Nat) : Int) (chunk s j)
theorem pageD_pgW {g : Nat → Int} {b : Nat} {s : ByteArray} (hs : s.size = 256) (hg : ∀ j, g j = ((b + j : Nat) : Int)) : pageD g s = pgW b s := by
  unfold pageD pgW
  rw [if_pos hs]
  refine List.map_congr_left fun j _ => ?_
  rw [hg j]
def blkW (xs : List (Nat × ByteArray)) : List De := xs.flatMap fun x => pgW x.1 x.2
theorem blkW_cons (x : Nat × ByteArray) (xs : List (Nat × ByteArray)) : blkW (x :: xs) = pgW x.1 x.2 ++ blkW xs := rfl
theorem pgW_len (b : Nat) (s : ByteArray) : (pgW b s).length = 4 := by unfold pgW; simp
theorem blkW_len : ∀ xs : List (Nat × ByteArray), (blkW xs).length = 4 * xs.length
  | [] => rfl
  | x :: xs => by rw [blkW_cons, List.length_append, pgW_len, blkW_len xs, List.length_cons]; omega
theorem mem_pgW {d : De} {b : Nat} {s : ByteArray} : d ∈ pgW b s ↔ ∃ j, j < 4 ∧ d = .wr ((b + j : Nat) : Int) (chunk s j) := by
  unfold pgW
  rw [List.mem_map]
  constructor
  · rintro ⟨j, hj, rfl⟩; exact ⟨j, List.mem_range.1 hj, rfl⟩
  · rintro ⟨j, hj, rfl⟩; exact ⟨j, List.mem_range.2 hj, rfl⟩
theorem mem_blkW {d : De} {xs : List (Nat × ByteArray)} : d ∈ blkW xs ↔ ∃ x ∈ xs, ∃ j, j < 4 ∧ d = .wr ((x.1 + j : Nat) : Int) (chunk x.2 j) := by
  unfold blkW
  rw [List.mem_flatMap]
  constructor
  · rintro ⟨x, hx, h⟩
    exact ⟨x, hx, mem_pgW.1 h⟩
  · rintro ⟨x, hx, h⟩
    exact ⟨x, hx, mem_pgW.2 h⟩
/-- deeds that write, none of them to sector i -/
def Off (i : Nat) (ds : List De) : Prop := ∀ d ∈ ds, ∃ (a : Nat) (s : ByteArray), d = .wr (a : Int) s ∧ i ≠ a
theorem exs_off : ∀ {ds : List De} {i : Nat} {A : List Sec}, Off i ds → (exs ds A)[i]? = A[i]?
  | [], _, _, _ => rfl
  | d :: ds, i, A, h => by
    obtain ⟨a, s, rfl, ha⟩ := h d (List.mem_cons_self ..)
    rw [exs_cons, exs_off (fun x hx => h x (List.mem_cons_of_mem _ hx)), ex_wr_out (by rw [Int.toNat_natCast]; exact ha)]
theorem Off.take {i : Nat} {ds : List De} (h : Off i ds) (k : Nat) : Off i (ds.take k) := fun d hd => h d (List.mem_of_mem_take hd)
theorem Off.app {i : Nat} {ds es : List De} (h : Off i ds) (g : Off i es) : Off i (ds ++ es) := fun d hd => (List.mem_append.1 hd).elim (h d) (g d)
theorem off_blk {i : Nat} {xs : List (Nat × ByteArray)} (h : ∀ x ∈ xs, ∀ j, j < 4 → i ≠ x.1 + j) : Off i (blkW xs) := by
  intro d hd
  obtain ⟨x, hx, j, hj, rfl⟩ := mem_blkW.1 hd
  exact ⟨_, _, rfl, h x hx j hj⟩
theorem off_pg {i b : Nat} {s : ByteArray} (h : ∀ j, j < 4 → i ≠ b + j) : Off i (pgW b s) := by
  intro d hd
  obtain ⟨j, hj, rfl⟩ := mem_pgW.1 hd
  exact ⟨_, _, rfl, h j hj⟩
theorem pg_in {b j : Nat} {s : ByteArray} {A : List Sec} {y : Sec} (hj : j < 4) (hy : A[b + j]? = some y) : (exs (pgW b s) A)[b + j]? = some ⟨y.s, some (pad (chunk s j))⟩ := by
  have key : ∀ (n : Nat) (B : List Sec), (∀ y, B[b + j]? = some y → j < n → (exs ((List.range n).map fun j => De.wr ((b + j : Nat) : Int) (chunk s j)) B)[b + j]? = some ⟨y.s, some (pad (chunk s j))⟩) ∧ ((¬ j < n) → (exs ((List.range n).map fun j => De.wr ((b + j : Nat) : Int) (chunk s j)) B)[b + j]? = B[b + j]?) := by
    intro n
    induction n with
    | zero => intro B; exact ⟨fun y _ h => absurd h (by omega), fun _ => rfl⟩
    | succ n ih =>
      intro B
      obtain ⟨h1, h2⟩ := ih B
      rw [List.range_succ, List.map_append, exs_app]
      refine ⟨fun y hy hjn => ?_, fun hjn => ?_⟩
      · show (De.ex (.wr ((b + n : Nat) : Int) (chunk s n)) _)[b + j]? = _
        by_cases e : j = n
        · subst e
          exact ex_wr_in (by rw [Int.toNat_natCast]) (by rw [h2 (by omega)]; exact hy)
        · rw [ex_wr_out (by rw [Int.toNat_natCast]; omega), h1 y hy (by omega)]
      · show (De.ex (.wr ((b + n : Nat) : Int) (chunk s n)) _)[b + j]? = _
        rw [ex_wr_out (by rw [Int.toNat_natCast]; omega), h2 (by omega)]
  exact (key 4 A).1 y hy hj
theorem blk_in {b j : Nat} {s : ByteArray} (hj : j < 4) : ∀ {xs : List (Nat × ByteArray)} {A : List Sec} {y : Sec}, (xs.map (·.1)).Nodup → (∀ x ∈ xs, x.1 % 4 = 2) → (b, s) ∈ xs → A[b + j]? = some y → (exs (blkW xs) A)[b + j]? = some ⟨y.s, some (pad (chunk s j))⟩
  | [], _, _, _, _, h, _ => by simp at h
  | x :: xs, A, y, hn, hm, h, hy => by
    rw [List.map_cons] at hn
    obtain ⟨hn1, hn2⟩ := List.nodup_cons.1 hn
    rw [blkW_cons, exs_app]
    rcases List.mem_cons.1 h with rfl | h
    · rw [exs_off (off_blk fun x hx j' hj' e => ?_)]
      · exact pg_in hj hy
      · have h1 := hm x (List.mem_cons_of_mem _ hx)
        have h2 := hm (b, s) (List.mem_cons_self ..)
        have h2 : b % 4 = 2 := h2
        have : x.1 = b := by omega
        exact hn1 (List.mem_map.2 ⟨x, hx, this⟩)
    · refine blk_in hj hn2 (fun x hx => hm x (List.mem_cons_of_mem _ hx)) h ?_
      rw [exs_off (off_pg fun j' hj' e => ?_)]
      · exact hy
      · have h1 := hm x (List.mem_cons_self ..)
        have h2 := hm (b, s) (List.mem_cons_of_mem _ h)
        have h2 : b % 4 = 2 := h2
        have : x.1 = b := by omega
        exact hn1 (List.mem_map.2 ⟨(b, s), h, this.symm⟩)
theorem good_blk {N : Nat} {xs : List (Nat × ByteArray)} (h : ∀ x ∈ xs, x.1 + 4 ≤ N ∧ x.2.size = 256) : ∀ d ∈ blkW xs, d.good N := by
  intro d hd
  obtain ⟨x, hx, j, hj, rfl⟩ := mem_blkW.1 hd
  obtain ⟨h1, h2⟩ := h x hx
  exact ⟨by omega, by omega, Nat.le_of_eq (chunk_size h2 hj)⟩
/-- a crash: what is sure stays; a mark says what one of both says -/
def Cr (A A' : List Sec) : Prop := A'.length = A.length ∧ ∀ (i : Nat) (x : Sec), A[i]? = some x → ∃ z, A'[i]? = some ⟨z, none⟩ ∧ (x.u = none → z = x.s) ∧ (mkd z.1 = mkd x.s.1 ∨ mkd z.1 = mkd x.now.1)
theorem Cr.sure {A A' : List Sec} (h : Cr A A') {i : Nat} {z : Sct} (hz : A[i]? = some ⟨z, none⟩) : A'[i]? = some ⟨z, none⟩ := by
  obtain ⟨y, h1, h2, _⟩ := h.2 i _ hz
  have e : y = z := h2 rfl
  rw [h1, e]
theorem Cr.all {A A' : List Sec} (h : Cr A A') : ∀ x ∈ A', x.u = none := by
  intro x hx
  obtain ⟨i, hi, rfl⟩ := List.mem_iff_getElem.1 hx
  have hi2 : i < A.length := by rw [← h.1]; exact hi
  obtain ⟨z, h1, _⟩ := h.2 i A[i] (List.getElem?_eq_getElem hi2)
  rw [List.getElem?_eq_getElem hi] at h1
  rw [Option.some.inj h1]
theorem mkd_trn (x s : Sct) (c : Nat) : mkd (torn x s c).1 = mkd s.1 ∨ mkd (torn x s c).1 = mkd x.1 := by
  have hb := byL_torn x s c
  cases c with
  | zero =>
    left
    unfold mkd
    rw [hb]
    rfl
  | succ c =>
    right
    unfold mkd
    rw [hb]
    have hx : (byL x.1).length = 64 := by rw [byL_len, x.2]
    cases h : byL x.1 with
    | nil => rw [h] at hx; cases hx
    | cons a r => rfl
end Go.Proofs.YtongpnolikkknaaGreatDoor

set_option maxRecDepth 20000
namespace Go.Proofs.YtongpnolikkknaaGreatDoor
open Sh RowKit Go.MapKept
theorem pad_64 {s : ByteArray} (h : s.size = 64) : (pad s).1 = s := by
  show strOfNums (padL s) = s
  unfold padL
  rw [h, List.take_of_length_le (by rw [byL_len]; omega)]
  show strOfNums (byL s ++ []) = s
  rw [List.append_nil, son_byL]
theorem pad_chunk {s : ByteArray} {j : Nat} (h : s.size = 256) (hj : j < 4) : (pad (chunk s j)).1 = chunk s j := pad_64 (chunk_size h hj)
def PgS (A : List Sec) (L : List ByteArray) : Prop := ∀ (n : Nat) (s : ByteArray), L[n]? = some s → ∀ j, j < 4 → A[126 + 4 * n + j]? = some ⟨pad (chunk s j), none⟩
def Ing (A : List Sec) (L : List ByteArray) (l : List Int) : Prop := ∃ d : Sct, A[1]? = some ⟨d, none⟩ ∧ dirB d.1 = true ∧ lst d.1 = l ∧ (∀ n ∈ l, n < (L.length : Int)) ∧
  (∀ (k : Nat) (n : Int) (s : ByteArray), l[k]? = some n → L[n.toNat]? = some s → ∀ j, j < 4 → A[2 + 4 * k + j]? = some ⟨pad (chunk s j), none⟩) ∧
  (∀ (n : Nat) (s : ByteArray), ((n : Nat) : Int) ∉ l → L[n]? = some s → ∀ j, j < 4 → A[126 + 4 * n + j]? = some ⟨pad (chunk s j), none⟩)
def Mk (A : List Sec) (b : Bool) : Prop := ∃ z : Sct, A[0]? = some ⟨z, none⟩ ∧ mkd z.1 = b
structure Fit (A : List Sec) (L : List ByteArray) : Prop where
  len : 126 + 4 * L.length ≤ A.length
  sz : ∀ s ∈ L, s.size = 256
  n1 : 1 ≤ L.length
  n2 : L.length ≤ 160
def Holds (A : List Sec) (L : List ByteArray) : Prop := Mk A false ∧ PgS A L ∨ Mk A true ∧ ∃ l, Ing A L l
def AllS (A : List Sec) : Prop := ∀ x ∈ A, x.u = none
theorem PgS.sub {A A' : List Sec} {L : List ByteArray} (h : PgS A L) (hs : ∀ i z, 126 ≤ i → A[i]? = some ⟨z, none⟩ → A'[i]? = some ⟨z, none⟩) : PgS A' L := fun n s hn j hj => hs _ _ (by omega) (h n s hn j hj)
theorem Ing.ok {A : List Sec} {L : List ByteArray} {l : List Int} (h : Ing A L l) : l.length ≤ 31 ∧ l.Nodup ∧ ∀ n ∈ l, 0 ≤ n ∧ n < (L.length : Int) := by
  obtain ⟨d, _, hd, rfl, hl, _⟩ := h
  obtain ⟨_, h2, h3, h4⟩ := dirB_lst hd
  exact ⟨h2, h3, fun n hn => ⟨(h4 n hn).1, hl n hn⟩⟩
theorem Ing.sub {A A' : List Sec} {L : List ByteArray} {l : List Int} (h : Ing A L l) (hs : ∀ i z, i ≠ 0 → (∀ n ∈ l, ∀ j, j < 4 → i ≠ 126 + 4 * n.toNat + j) → A[i]? = some ⟨z, none⟩ → A'[i]? = some ⟨z, none⟩) : Ing A' L l := by
  obtain ⟨h31, hnd, hbd⟩ := h.ok
  obtain ⟨d, h1, hd, hl, hb, him, hpg⟩ := h
  refine ⟨d, hs _ _ (by omega) (fun n _ j _ => by omega) h1, hd, hl, hb, fun k n s hk hn j hj => hs _ _ (by omega) (fun n' _ j' _ => ?_) (him k n s hk hn j hj), fun n s hn hs' j hj => hs _ _ (by omega) (fun n' hn' j' hj' e => ?_) (hpg n s hn hs' j hj)⟩
  · have := (List.getElem?_eq_some_iff.1 hk).1
    omega
  · have := hbd n' hn'
    have e2 : ((n : Nat) : Int) = n' := by omega
    exact hn (e2 ▸ hn')
theorem Mk.sub {A A' : List Sec} {b : Bool} (h : Mk A b) (hs : ∀ z, A[0]? = some ⟨z, none⟩ → A'[0]? = some ⟨z, none⟩) : Mk A' b := by
  obtain ⟨z, h1, h2⟩ := h
  exact ⟨z, hs z h1, h2⟩
theorem sy_sub {A : List Sec} {i : Nat} {z : Sct} (h : A[i]? = some ⟨z, none⟩) : (De.sy.ex A)[i]? = some ⟨z, none⟩ := by rw [ex_sy, h]; rfl
theorem sy_all (A : List Sec) : AllS (De.sy.ex A) := by
  intro x hx
  obtain ⟨y, _, rfl⟩ := List.mem_map.1 hx
  rfl
theorem wr0_at {A : List Sec} {b c : Bool} (h : Mk A b) : ∃ z : Sct, mkd z.1 = b ∧ ((De.wr 0 (markB c).1).ex A)[0]? = some ⟨z, some (markB c)⟩ := by
  obtain ⟨z, h1, h2⟩ := h
  refine ⟨z, h2, ?_⟩
  have e := ex_wr_in (i := 0) (a := (0 : Int)) (s := (markB c).1) rfl h1
  rw [e]
  have : pad (markB c).1 = markB c := Subtype.ext (pad_64 (markB c).2)
  rw [this]
theorem wr0_cr {A A' : List Sec} {b c : Bool} (h : Mk A b) (hc : Cr ((De.wr 0 (markB c).1).ex A) A') : Mk A' b ∨ Mk A' c := by
  obtain ⟨z, h1, h2⟩ := wr0_at (c := c) h
  obtain ⟨y, h3, _, h4⟩ := hc.2 0 _ h2
  rcases h4 with h4 | h4
  · exact .inl ⟨y, h3, by rw [h4]; exact h1⟩
  · exact .inr ⟨y, h3, by rw [h4]; exact mkd_mark c⟩
theorem wr0_sy {A : List Sec} {b c : Bool} (h : Mk A b) : Mk (De.sy.ex ((De.wr 0 (markB c).1).ex A)) c := by
  obtain ⟨z, h1, h2⟩ := wr0_at (c := c) h
  exact ⟨markB c, by rw [ex_sy, h2]; rfl, mkd_mark c⟩
theorem wr0_out {A : List Sec} {c : Bool} {i : Nat} (h : i ≠ 0) : ((De.wr 0 (markB c).1).ex A)[i]? = A[i]? := ex_wr_out h
/-- at each deed, not behind the last -/
def Pre (C : List Sec → Prop) (ds : List De) (A : List Sec) : Prop := ∀ k, k < ds.length → C (exs (ds.take k) A)
theorem Pre_app {C : List Sec → Prop} {ds es : List De} {A : List Sec} (h : Pre C ds A) (g : Pre C es (exs ds A)) : Pre C (ds ++ es) A := by
  intro k hk
  rw [List.length_append] at hk
  by_cases c : k < ds.length
  · rw [List.take_append_of_le_length (by omega)]
    exact h k c
  · rw [List.take_append, List.take_of_length_le (by omega), exs_app]
    exact g _ (by omega)
theorem Pre_cons {C : List Sec → Prop} {d : De} {ds : List De} {A : List Sec} (h : C A) (g : Pre C ds (d.ex A)) : Pre C (d :: ds) A := by
  intro k hk
  cases k with
  | zero => exact h
  | succ k => rw [List.take_succ_cons, exs_cons]; exact g k (by rw [List.length_cons] at hk; omega)
theorem Pre_nil {C : List Sec → Prop} {A : List Sec} : Pre C [] A := fun k hk => absurd hk (by simp)
theorem Pre_off {C : List Sec → Prop} {ds : List De} {A : List Sec} (h : ∀ A' : List Sec, (∀ i, Off i ds → A'[i]? = A[i]?) → C A') : Pre C ds A := fun k _ => h _ fun i hi => exs_off (hi.take k)
theorem Pre.mono {C C' : List Sec → Prop} {ds : List De} {A : List Sec} (h : Pre C ds A) (hc : ∀ A, C A → C' A) : Pre C' ds A := fun k hk => hc _ (h k hk)
/-- behind a crash -/
def CrH (L L2 : List ByteArray) (A : List Sec) : Prop := ∀ A', Cr A A' → Holds A' L ∨ Holds A' L2
theorem crh_no {A : List Sec} {L L2 : List ByteArray} (hm : Mk A false) (hp : PgS A L) : CrH L L2 A := fun A' hc => .inl (.inl ⟨hm.sub fun z h => hc.sure h, hp.sub fun i z _ h => hc.sure h⟩)
theorem crh_yes {A : List Sec} {L L2 : List ByteArray} {l : List Int} (hm : Mk A true) (hp : Ing A L l) : CrH L L2 A := fun A' hc => .inl (.inr ⟨hm.sub fun z h => hc.sure h, l, hp.sub fun i z _ _ h => hc.sure h⟩)
/-- the mark taken away -/
theorem tail_no {A : List Sec} {L L2 : List ByteArray} {l : List Int} (hm : Mk A true) (hi : Ing A L l) (hp : PgS A L2) :
    Pre (CrH L L2) (markD false) A ∧ Mk (exs (markD false) A) false ∧ PgS (exs (markD false) A) L2 ∧ AllS (exs (markD false) A) := by
  refine ⟨Pre_cons (crh_yes hm hi) (Pre_cons (fun A' hc => ?_) Pre_nil), wr0_sy hm, ?_, sy_all _⟩
  · rcases wr0_cr hm hc with h | h
    · exact .inl (.inr ⟨h, l, hi.sub fun i z h0 _ h => hc.sure (by rw [wr0_out h0]; exact h)⟩)
    · exact .inr (.inl ⟨h, hp.sub fun i z h0 h => hc.sure (by rw [wr0_out (by omega)]; exact h)⟩)
  · exact hp.sub fun i z h0 h => sy_sub (by rw [wr0_out (by omega)]; exact h)
theorem tail_yes {A : List Sec} {L L2 : List ByteArray} {l : List Int} (hm : Mk A false) (hi : Ing A L l) (hp : PgS A L) :
    Pre (CrH L L2) (markD true) A ∧ Mk (exs (markD true) A) true ∧ PgS (exs (markD true) A) L ∧ Ing (exs (markD true) A) L l := by
  refine ⟨Pre_cons (crh_no hm hp) (Pre_cons (fun A' hc => ?_) Pre_nil), wr0_sy hm, ?_, ?_⟩
  · rcases wr0_cr hm hc with h | h
    · exact .inl (.inl ⟨h, hp.sub fun i z h0 h => hc.sure (by rw [wr0_out (by omega)]; exact h)⟩)
    · exact .inl (.inr ⟨h, l, hi.sub fun i z h0 _ h => hc.sure (by rw [wr0_out h0]; exact h)⟩)
  · exact hp.sub fun i z h0 h => sy_sub (by rw [wr0_out (by omega)]; exact h)
  · exact hi.sub fun i z h0 _ h => sy_sub (by rw [wr0_out h0]; exact h)
/-- pages read -/
theorem rd_nat {D : Dv} {i : Nat} {y : Sec} (h : D.A[i]? = some y) : D.rd ((i : Nat) : Int) = y.now.1 := by
  unfold Dv.rd Dv.at
  rw [if_pos (by omega), Int.toNat_natCast, h]; rfl
theorem join_at {D : Dv} {b : Nat} {g : Nat → Int} {s : ByteArray} (hg : ∀ j, g j = ((b + j : Nat) : Int)) (hs : s.size = 256) (h : ∀ j, j < 4 → D.A[b + j]? = some ⟨pad (chunk s j), none⟩) : (joinB (rdL D g 4)).1 = s := by
  have e : rdL D g 4 = cutL s 4 := by
    unfold rdL cutL
    refine List.map_congr_left fun j hj => ?_
    have hj := List.mem_range.1 hj
    rw [hg j, rd_nat (h j hj)]
    exact pad_chunk hs hj
  rw [e, joinB_ok (by rw [cutL_len]) (fun x hx => by
    obtain ⟨j, hj, rfl⟩ := List.mem_map.1 hx
    exact chunk_size hs (List.mem_range.1 hj))]
  exact (cut_back hs).2
theorem plG_nat (n : Nat) (j : Nat) : plG ((n : Nat) : Int) j = ((126 + 4 * n + j : Nat) : Int) := by unfold plG; omega
theorem imG_nat (n : Nat) (j : Nat) : imG n j = ((2 + 4 * n + j : Nat) : Int) := by unfold imG; omega
theorem pgL_eq {D : Dv} {L : List ByteArray} (hz : ∀ s ∈ L, s.size = 256) (hp : PgS D.A L) : pgL D L.length = L := by
  apply List.ext_getElem?
  intro n
  unfold pgL
  rw [List.getElem?_map]
  by_cases c : n < L.length
  · rw [List.getElem?_range c, List.getElem?_eq_getElem c]
    have := hz L[n] (List.getElem_mem c)
    show some (pgP D n) = _
    unfold pgP
    rw [join_at (plG_nat n) this (hp n _ (List.getElem?_eq_getElem c))]
  · rw [List.getElem?_eq_none (by rw [List.length_range]; omega), List.getElem?_eq_none (by omega)]; rfl
theorem openB_un {D : Dv} {L : List ByteArray} (h : Fit D.A L) : openB D (L.length : Nat) = if mkd (D.rd 0) = true then recB D (pgL D L.length) else (0, D, pgL D L.length) := by
  have := h.len
  have := h.n1
  have := h.n2
  unfold openB
  rw [if_neg (by omega), Int.toNat_natCast]
theorem mk_rd {D : Dv} {b : Bool} (h : Mk D.A b) : mkd (D.rd 0) = b := by
  obtain ⟨z, h1, h2⟩ := h
  rw [show (0 : Int) = ((0 : Nat) : Int) from rfl, rd_nat h1]
  exact h2
theorem open_no {D : Dv} {L : List ByteArray} (h : Fit D.A L) (hm : Mk D.A false) (hp : PgS D.A L) : openB D (L.length : Nat) = (0, D, L) := by
  rw [openB_un h, mk_rd hm, if_neg (by decide), pgL_eq h.sz hp]
def recX (L : List ByteArray) (l : List Int) : List (Nat × ByteArray) := l.map fun n => (126 + 4 * n.toNat, L.getD n.toNat ⟨#[]⟩)
def recD (L : List ByteArray) (l : List Int) : List De := blkW (recX L l) ++ [.sy] ++ markD false
theorem getD_some {L : List ByteArray} {n : Nat} (h : n < L.length) : L[n]? = some (L.getD n ⟨#[]⟩) := by rw [List.getD_eq_getElem?_getD, List.getElem?_eq_getElem h]; rfl
theorem recLs_ok {D : Dv} {L : List ByteArray} (hz : ∀ s ∈ L, s.size = 256) : ∀ (l : List Int) (k : Nat) (M : List ByteArray) (ds : List De), (∀ n ∈ l, 0 ≤ n ∧ n < (L.length : Int)) → M.length = L.length → (∀ i n, l[i]? = some n → imP D (k + i) = L.getD n.toNat ⟨#[]⟩) →
    ∃ M', recLs D l k M ds = some (M', ds ++ blkW (recX L l)) ∧ ∀ n : Nat, M'[n]? = if ((n : Nat) : Int) ∈ l then L[n]? else M[n]?
  | [], k, M, ds, _, _, _ => ⟨M, by show some (M, ds) = _; rw [show blkW (recX L []) = [] from rfl, List.append_nil], fun n => by simp⟩
  | a :: l, k, M, ds, hb, hM, hi => by
    have ha := hb a (List.mem_cons_self ..)
    have h0 := hi 0 a rfl
    rw [Nat.add_zero] at h0
    obtain ⟨M', h1, h2⟩ := recLs_ok hz l (k + 1) (M.set a.toNat (imP D k)) (ds ++ pageD (plG a) (imP D k)) (fun n hn => hb n (List.mem_cons_of_mem _ hn)) (by rw [List.length_set]; exact hM) (fun i n hn => by
      rw [show k + 1 + i = k + (i + 1) by omega]
      exact hi (i + 1) n hn)
    obtain ⟨a, rfl⟩ := Int.eq_ofNat_of_zero_le ha.1
    have hlt : a < L.length := by omega
    rw [Int.toNat_natCast] at h0
    have hs := hz _ (List.mem_of_getElem? (getD_some hlt))
    refine ⟨M', ?_, fun n => ?_⟩
    · show (if (M.length : Int) ≤ ((a : Nat) : Int) then none else _) = _
      rw [if_neg (by omega), h1]
      have e : pageD (plG ((a : Nat) : Int)) (imP D k) = pgW (126 + 4 * a) (L.getD a ⟨#[]⟩) := by
        rw [h0]
        exact pageD_pgW hs (plG_nat a)
      rw [e, List.append_assoc]; rfl
    · rw [h2 n, Int.toNat_natCast]
      by_cases c : ((n : Nat) : Int) ∈ l
      · rw [if_pos c, if_pos (List.mem_cons_of_mem _ c)]
      · rw [if_neg c]
        by_cases e : n = a
        · subst e
          rw [if_pos (List.mem_cons_self ..), List.getElem?_set_self (by omega), h0, getD_some hlt]
        · rw [List.getElem?_set_ne (fun h => e h.symm), if_neg ?_]
          intro h
          rcases List.mem_cons.1 h with h | h
          · omega
          · exact c h
theorem open_yes {D : Dv} {L : List ByteArray} {l : List Int} (h : Fit D.A L) (hm : Mk D.A true) (hi : Ing D.A L l) : openB D (L.length : Nat) = ((runs (recD L l) D).1, (runs (recD L l) D).2, L) := by
  obtain ⟨h31, hnd, hbd⟩ := hi.ok
  rw [openB_un h, mk_rd hm, if_pos rfl]
  obtain ⟨d, h1, hd, hl, hb, him, hpg⟩ := hi
  have e1 : D.rd 1 = d.1 := rd_nat (i := 1) h1
  unfold recB
  rw [e1, hd, if_pos rfl, hl]
  obtain ⟨M, q1, q2⟩ := recLs_ok (D := D) h.sz l 0 (pgL D L.length) [] hbd (pgL_len _ _) (fun i n hn => by
    have hmem := List.mem_of_getElem? hn
    have := hbd n hmem
    have hlt : n.toNat < L.length := by omega
    unfold imP
    rw [Nat.zero_add]
    exact join_at (imG_nat i) (h.sz _ (List.mem_of_getElem? (getD_some hlt))) (him i n _ hn (getD_some hlt)))
  rw [q1]
  have eM : M = L := by
    apply List.ext_getElem?
    intro n
    rw [q2 n]
    by_cases c : ((n : Nat) : Int) ∈ l
    · rw [if_pos c]
    · rw [if_neg c]
      unfold pgL
      rw [List.getElem?_map]
      by_cases cl : n < L.length
      · rw [List.getElem?_range cl]
        show some (pgP D n) = _
        unfold pgP
        rw [getD_some cl, join_at (plG_nat n) (h.sz _ (List.mem_of_getElem? (getD_some cl))) (hpg n _ c (getD_some cl))]
      · rw [List.getElem?_eq_none (by rw [List.length_range]; omega), List.getElem?_eq_none (by omega)]; rfl
  show ((runs ([] ++ blkW (recX L l) ++ [.sy] ++ markD false) D).1, (runs ([] ++ blkW (recX L l) ++ [.sy] ++ markD false) D).2, M) = _
  rw [eM, List.nil_append]
  rfl
theorem recX_mem {L : List ByteArray} {l : List Int} {x : Nat × ByteArray} (h : x ∈ recX L l) : ∃ n ∈ l, x = (126 + 4 * n.toNat, L.getD n.toNat ⟨#[]⟩) := by
  obtain ⟨n, hn, rfl⟩ := List.mem_map.1 h
  exact ⟨n, hn, rfl⟩
theorem nodup_map_inj {α β : Type} {f : α → β} {l : List α} (h : l.Nodup) (hf : ∀ a ∈ l, ∀ b ∈ l, f a = f b → a = b) : (l.map f).Nodup := by
  induction l with
  | nil => exact List.nodup_nil
  | cons a l ih =>
    obtain ⟨h1, h2⟩ := List.nodup_cons.1 h
    rw [List.map_cons, List.nodup_cons]
    refine ⟨fun hc => ?_, ih h2 fun a ha b hb => hf a (List.mem_cons_of_mem _ ha) b (List.mem_cons_of_mem _ hb)⟩
    obtain ⟨b, hb, e⟩ := List.mem_map.1 hc
    exact h1 (hf b (List.mem_cons_of_mem _ hb) a (List.mem_cons_self ..) e ▸ hb)
/-- brought back -/
theorem rec_stage {A : List Sec} {L : List ByteArray} {l : List Int} (h : Fit A L) (hm : Mk A true) (hi : Ing A L l) :
    Pre (CrH L L) (recD L l) A ∧ Mk (exs (recD L l) A) false ∧ PgS (exs (recD L l) A) L ∧ (∀ d ∈ recD L l, d.good A.length) := by
  obtain ⟨h31, hnd, hbd⟩ := hi.ok
  have hlen := h.len
  have off0 : Off 0 (blkW (recX L l)) := off_blk fun x hx j hj => by obtain ⟨n, hn, rfl⟩ := recX_mem hx; show 0 ≠ 126 + 4 * n.toNat + j; omega
  have offI : ∀ i, (∀ n ∈ l, ∀ j, j < 4 → i ≠ 126 + 4 * n.toNat + j) → Off i (blkW (recX L l)) := fun i hi => off_blk fun x hx j hj => by obtain ⟨n, hn, rfl⟩ := recX_mem hx; exact hi n hn j hj
  have keep : ∀ A' : List Sec, (∀ i, Off i (blkW (recX L l)) → A'[i]? = A[i]?) → Mk A' true ∧ Ing A' L l := fun A' hA => ⟨hm.sub fun z hz => by rw [hA 0 off0]; exact hz, hi.sub fun i z _ h2 hz => by rw [hA i (offI i h2)]; exact hz⟩
  obtain ⟨m1, i1⟩ := keep (exs (blkW (recX L l)) A) fun i hi => exs_off hi
  have m2 : Mk (De.sy.ex (exs (blkW (recX L l)) A)) true := m1.sub fun z hz => sy_sub hz
  have i2 : Ing (De.sy.ex (exs (blkW (recX L l)) A)) L l := i1.sub fun i z _ _ hz => sy_sub hz
  have nd : ((recX L l).map (·.1)).Nodup := by
    have e : (recX L l).map (·.1) = l.map fun n => 126 + 4 * n.toNat := by unfold recX; rw [List.map_map]; rfl
    rw [e]
    exact nodup_map_inj hnd fun a ha b hb e => by have := hbd a ha; have := hbd b hb; omega
  have p2 : PgS (De.sy.ex (exs (blkW (recX L l)) A)) L := by
    intro n s hs j hj
    have hlt := (List.getElem?_eq_some_iff.1 hs).1
    by_cases c : ((n : Nat) : Int) ∈ l
    · have hmem : (126 + 4 * n, s) ∈ recX L l := by
        refine List.mem_map.2 ⟨_, c, ?_⟩
        rw [Int.toNat_natCast, List.getD_eq_getElem?_getD, hs]; rfl
      have hy : A[126 + 4 * n + j]? = some (A[126 + 4 * n + j]'(by omega)) := List.getElem?_eq_getElem (by omega)
      rw [ex_sy, blk_in hj nd (fun x hx => by obtain ⟨n, hn, rfl⟩ := recX_mem hx; show (126 + 4 * n.toNat) % 4 = 2; omega) hmem hy]
      rfl
    · obtain ⟨d, _, _, _, _, _, hpg⟩ := i2
      exact hpg n s c hs j hj
  obtain ⟨t1, t2, t3, t4⟩ := tail_no (L2 := L) m2 i2 p2
  have e : exs (recD L l) A = exs (markD false) (De.sy.ex (exs (blkW (recX L l)) A)) := by unfold recD; rw [exs_app, exs_app]; rfl
  refine ⟨?_, by rw [e]; exact t2, by rw [e]; exact t3, ?_⟩
  · refine Pre_app (Pre_app (Pre_off fun A' hA => ?_) (Pre_cons (crh_yes m1 i1) Pre_nil)) ?_
    · obtain ⟨a1, a2⟩ := keep A' hA
      exact crh_yes a1 a2
    · rw [exs_app]; exact t1
  · intro d hd
    unfold recD at hd
    rcases List.mem_append.1 hd with hd | hd
    · rcases List.mem_append.1 hd with hd | hd
      · exact good_blk (fun x hx => by
          obtain ⟨n, hn, rfl⟩ := recX_mem hx
          have := hbd n hn
          have hlt : n.toNat < L.length := by omega
          exact ⟨by show 126 + 4 * n.toNat + 4 ≤ _; omega, h.sz _ (List.mem_of_getElem? (getD_some hlt))⟩) d hd
      · rw [List.mem_singleton.1 hd]; trivial
    · rcases List.mem_cons.1 hd with rfl | hd
      · exact ⟨by omega, by omega, Nat.le_of_eq (markB false).2⟩
      · rw [List.mem_singleton.1 hd]; trivial
/-- opened: the pages it held -/
theorem open_two {D : Dv} {L : List ByteArray} (h : Fit D.A L) (hh : Holds D.A L) :
    (openB D (L.length : Nat)).2.2 = L ∧ (openB D (L.length : Nat)).2.1.h = D.h ∧ D.c ≤ (openB D (L.length : Nat)).2.1.c ∧ (openB D (L.length : Nat)).2.1.c ≤ D.c + 200 ∧ (openB D (L.length : Nat)).2.1.A.length = D.A.length ∧
    ((openB D (L.length : Nat)).1 = 0 ∧ Mk (openB D (L.length : Nat)).2.1.A false ∧ PgS (openB D (L.length : Nat)).2.1.A L ∨ (openB D (L.length : Nat)).1 = 9) ∧
    (∀ A', Cr (openB D (L.length : Nat)).2.1.A A' → Holds A' L) ∧ (D.c + 200 ≤ D.h → (openB D (L.length : Nat)).1 = 0) := by
  rcases hh with ⟨hm, hp⟩ | ⟨hm, l, hi⟩
  · rw [open_no h hm hp]
    refine ⟨rfl, rfl, Int.le_refl _, by show D.c ≤ D.c + 200; omega, rfl, .inl ⟨rfl, hm, hp⟩, fun A' hc => ?_, fun _ => rfl⟩
    exact (crh_no (L2 := L) hm hp A' hc).elim id id
  · rw [open_yes h hm hi]
    obtain ⟨s1, s2, s3, s4⟩ := rec_stage h hm hi
    obtain ⟨h31, hnd, hbd⟩ := hi.ok
    have hl : (recD L l).length ≤ 200 := by
      unfold recD
      rw [List.length_append, List.length_append, blkW_len]
      have : (recX L l).length = l.length := by unfold recX; simp
      simp only [List.length_cons, List.length_nil, markD]
      omega
    have hc := runs_c (recD L l) D
    have hA : (runs (recD L l) D).2.A.length = D.A.length := by
      rcases runs_two (recD L l) D s4 with e | ⟨_, _, k, _, e⟩
      · rw [e]; exact exs_len _ _
      · rw [e]; exact exs_len _ _
    have hH : (runs (recD L l) D).2.h = D.h := by
      rcases runs_two (recD L l) D s4 with e | ⟨_, e, _⟩
      · rw [e]
      · exact e
    refine ⟨rfl, hH, hc.1, by have := hc.2; show (runs (recD L l) D).2.c ≤ _; omega, hA, ?_, ?_, fun hd => by
      show (runs (recD L l) D).1 = 0
      rw [runs_ok _ _ s4 (by omega)]⟩
    · rcases runs_two (recD L l) D s4 with e | ⟨e, _⟩
      · left
        show (runs (recD L l) D).1 = 0 ∧ Mk (runs (recD L l) D).2.A false ∧ PgS (runs (recD L l) D).2.A L
        rw [e]
        exact ⟨rfl, s2, s3⟩
      · right; exact e
    · intro A' hcr
      have hcr : Cr (runs (recD L l) D).2.A A' := hcr
      rcases runs_two (recD L l) D s4 with e | ⟨_, _, k, hk, e⟩
      · rw [e] at hcr
        exact (crh_no (L2 := L) s2 s3 A' hcr).elim id id
      · rw [e] at hcr
        exact (s1 k hk A' hcr).elim id id
end Go.Proofs.YtongpnolikkknaaGreatDoor

set_option maxRecDepth 20000
namespace Go.Proofs.YtongpnolikkknaaGreatDoor
open Sh RowKit Go.MapKept
def imX (L : List ByteArray) (cs : List Ch) : List (Nat × ByteArray) := (List.range cs.length).map fun k => (2 + 4 * k, L.getD (chG cs k).1.toNat ⟨#[]⟩)
def pgX (cs : List Ch) : List (Nat × ByteArray) := cs.map fun c => (126 + 4 * c.1.toNat, c.2)
theorem chG_get {cs : List Ch} {k : Nat} (h : k < cs.length) : chG cs k = cs[k] := by
  unfold chG; rw [List.getD_eq_getElem?_getD, List.getElem?_eq_getElem h]; rfl
theorem ims_eq {L : List ByteArray} {cs : List Ch} (hz : ∀ s ∈ L, s.size = 256) (hb : ∀ x ∈ cs, 0 ≤ x.1 ∧ x.1 < (L.length : Int)) : imsD L cs cs.length = blkW (imX L cs) := by
  unfold imsD blkW imX
  rw [List.flatMap_map]
  have key : ∀ l : List Nat, (∀ k ∈ l, k < cs.length) → (l.flatMap fun k => pageD (imG k) (L.getD (chG cs k).1.toNat ⟨#[]⟩)) = l.flatMap fun k => pgW (2 + 4 * k) (L.getD (chG cs k).1.toNat ⟨#[]⟩) := by
    intro l
    induction l with
    | nil => intro _; rfl
    | cons a l ih =>
      intro h
      rw [List.flatMap_cons, List.flatMap_cons, ih fun k hk => h k (List.mem_cons_of_mem _ hk)]
      have ha := h a (List.mem_cons_self ..)
      have hx := hb _ (List.getElem_mem ha)
      have hlt : (chG cs a).1.toNat < L.length := by rw [chG_get ha]; omega
      rw [pageD_pgW (hz _ (List.mem_of_getElem? (getD_some hlt))) (imG_nat a)]
  exact key _ fun k hk => List.mem_range.1 hk
theorem pgs_eq {cs : List Ch} (hz : ∀ x ∈ cs, x.2.size = 256) (hb : ∀ x ∈ cs, 0 ≤ x.1) : pgsD cs cs.length = blkW (pgX cs) := by
  have e : pgX cs = (List.range cs.length).map fun k => (126 + 4 * (chG cs k).1.toNat, (chG cs k).2) := by
    apply List.ext_getElem?
    intro k
    unfold pgX
    rw [List.getElem?_map, List.getElem?_map]
    by_cases c : k < cs.length
    · rw [List.getElem?_range c, List.getElem?_eq_getElem c]
      show some (126 + 4 * cs[k].1.toNat, cs[k].2) = some (126 + 4 * (chG cs k).1.toNat, (chG cs k).2)
      rw [chG_get c]
    · rw [List.getElem?_eq_none (by omega), List.getElem?_eq_none (by rw [List.length_range]; omega)]; rfl
  rw [e]
  unfold pgsD blkW
  rw [List.flatMap_map]
  have key : ∀ l : List Nat, (∀ k ∈ l, k < cs.length) → (l.flatMap fun k => pageD (plG (chG cs k).1) (chG cs k).2) = l.flatMap fun k => pgW (126 + 4 * (chG cs k).1.toNat) (chG cs k).2 := by
    intro l
    induction l with
    | nil => intro _; rfl
    | cons a l ih =>
      intro h
      rw [List.flatMap_cons, List.flatMap_cons, ih fun k hk => h k (List.mem_cons_of_mem _ hk)]
      have ha := h a (List.mem_cons_self ..)
      have h1 := hz _ (List.getElem_mem ha)
      have h2 := hb _ (List.getElem_mem ha)
      rw [← chG_get ha] at h1 h2
      have e : plG (chG cs a).1 = plG (((chG cs a).1.toNat : Nat) : Int) := by rw [Int.toNat_of_nonneg h2]
      rw [e, pageD_pgW h1 (plG_nat _)]
  exact key _ fun k hk => List.mem_range.1 hk
theorem setL_out : ∀ (cs : List Ch) (L : List ByteArray) (n : Nat), (∀ x ∈ cs, x.1.toNat ≠ n) → (setL L cs)[n]? = L[n]?
  | [], L, n, _ => rfl
  | c :: cs, L, n, h => by
    show (setL (L.set c.1.toNat c.2) cs)[n]? = _
    rw [setL_out cs _ n fun x hx => h x (List.mem_cons_of_mem _ hx), List.getElem?_set_ne (h c (List.mem_cons_self ..))]
theorem setL_in : ∀ (cs : List Ch) (L : List ByteArray) (x : Ch), (cs.map (·.1)).Nodup → (∀ y ∈ cs, 0 ≤ y.1 ∧ y.1 < (L.length : Int)) → x ∈ cs → (setL L cs)[x.1.toNat]? = some x.2
  | [], L, x, _, _, h => by simp at h
  | c :: cs, L, x, hn, hb, h => by
    rw [List.map_cons] at hn
    obtain ⟨h1, h2⟩ := List.nodup_cons.1 hn
    show (setL (L.set c.1.toNat c.2) cs)[x.1.toNat]? = _
    rcases List.mem_cons.1 h with rfl | h
    · rw [setL_out cs _ _ fun y hy e => ?_]
      · have := hb x (List.mem_cons_self ..)
        rw [List.getElem?_set_self (by omega)]
      · have q1 := hb x (List.mem_cons_self ..)
        have q2 := hb y (List.mem_cons_of_mem _ hy)
        have : y.1 = x.1 := by omega
        exact h1 (List.mem_map.2 ⟨y, hy, this⟩)
    · exact setL_in cs _ x h2 (fun y hy => by rw [List.length_set]; exact hb y (List.mem_cons_of_mem _ hy)) h
theorem setL_sz {cs : List Ch} {L : List ByteArray} (hz : ∀ s ∈ L, s.size = 256) (hc : ∀ x ∈ cs, x.2.size = 256) : ∀ s ∈ setL L cs, s.size = 256 := by
  induction cs generalizing L with
  | nil => exact hz
  | cons c cs ih =>
    refine ih (fun s hs => ?_) (fun x hx => hc x (List.mem_cons_of_mem _ hx))
    rcases List.mem_or_eq_of_mem_set hs with h | rfl
    · exact hz s h
    · exact hc c (List.mem_cons_self ..)
/-- a commit's deeds -/
theorem commit_stage {A : List Sec} {L : List ByteArray} {cs : List Ch} (h : Fit A L) (hm : Mk A false) (hp : PgS A L) (hv : mayB false L.length cs = 0) :
    Pre (CrH L (setL L cs)) (stepsD L cs) A ∧ Mk (exs (stepsD L cs) A) false ∧ PgS (exs (stepsD L cs) A) (setL L cs) ∧ AllS (exs (stepsD L cs) A) ∧ (∀ d ∈ stepsD L cs, d.good A.length) ∧ (stepsD L cs).length = 8 * cs.length + 7 := by
  obtain ⟨_, h31, hbd, hnd, hsz⟩ := mayB_ok hv
  have hlen := h.len
  have n160 := h.n2
  have hbl : ∀ n ∈ cs.map (fun x : Ch => x.1), 0 ≤ n ∧ n < (L.length : Int) := fun n hn => by
    obtain ⟨x, hx, rfl⟩ := List.mem_map.1 hn
    exact hbd x hx
  have hr : rightB (cs.map (·.1)) = true := decide_eq_true ⟨hnd, fun x hx => by have := hbl x hx; omega⟩
  obtain ⟨_, hl1, _, hl3⟩ := dir_back (l := cs.map (·.1)) (by rw [List.length_map]; exact h31) hr
  have hd64 : (dirW (cs.map (·.1))).1.size = 64 := by
    unfold dirW
    rw [List.length_map, if_neg (by omega), if_pos hr]
    exact (pad _).2
  have eim := ims_eq h.sz hbd
  have epg := pgs_eq hsz fun x hx => (hbd x hx).1
  -- the first deeds
  have offP : ∀ i, (i = 0 ∨ 126 ≤ i) → Off i ([De.wr 1 (dirW (cs.map (·.1))).1] ++ blkW (imX L cs)) := by
    intro i hi
    refine Off.app (fun d hd => ⟨1, _, List.mem_singleton.1 hd, by omega⟩) (off_blk fun x hx j hj => ?_)
    obtain ⟨k, hk, rfl⟩ := List.mem_map.1 hx
    have := List.mem_range.1 hk
    show i ≠ 2 + 4 * k + j
    omega
  have off1 : Off 1 (blkW (imX L cs)) := off_blk fun x hx j hj => by
    obtain ⟨k, hk, rfl⟩ := List.mem_map.1 hx
    show 1 ≠ 2 + 4 * k + j
    omega
  have keep : ∀ A' : List Sec, (∀ i, Off i ([De.wr 1 (dirW (cs.map (·.1))).1] ++ blkW (imX L cs)) → A'[i]? = A[i]?) → Mk A' false ∧ PgS A' L := fun A' hA => ⟨hm.sub fun z hz => by rw [hA 0 (offP 0 (.inl rfl))]; exact hz, hp.sub fun i z hi hz => by rw [hA i (offP i (.inr hi))]; exact hz⟩
  obtain ⟨m1, p1⟩ := keep (exs ([De.wr 1 (dirW (cs.map (·.1))).1] ++ blkW (imX L cs)) A) fun i hi => exs_off hi
  have m2 : Mk (De.sy.ex (exs ([De.wr 1 (dirW (cs.map (·.1))).1] ++ blkW (imX L cs)) A)) false := m1.sub fun z hz => sy_sub hz
  have p2 : PgS (De.sy.ex (exs ([De.wr 1 (dirW (cs.map (·.1))).1] ++ blkW (imX L cs)) A)) L := p1.sub fun i z _ hz => sy_sub hz
  have i2 : Ing (De.sy.ex (exs ([De.wr 1 (dirW (cs.map (·.1))).1] ++ blkW (imX L cs)) A)) L (cs.map (·.1)) := by
    refine ⟨pad (dirW (cs.map (·.1))).1, ?_, by rw [pad_64 hd64]; exact hl3, by rw [pad_64 hd64]; exact hl1, fun n hn => (hbl n hn).2, fun k n s hk hs j hj => ?_, fun n s _ hs j hj => p2 n s hs j hj⟩
    · have hy : A[1]? = some (A[1]'(by omega)) := List.getElem?_eq_getElem (by omega)
      have e := ex_wr_in (i := 1) (a := (1 : Int)) (s := (dirW (cs.map (·.1))).1) rfl hy
      rw [ex_sy, exs_app, exs_off off1, exs_cons]
      show Option.map _ ((De.wr 1 (dirW (cs.map (·.1))).1).ex A)[1]? = _
      rw [e]; rfl
    · have hkl : k < cs.length := by have := (List.getElem?_eq_some_iff.1 hk).1; rwa [List.length_map] at this
      have hmem : (2 + 4 * k, s) ∈ imX L cs := by
        refine List.mem_map.2 ⟨k, List.mem_range.2 hkl, ?_⟩
        rw [List.getElem?_map, List.getElem?_eq_getElem hkl] at hk
        have : cs[k].1 = n := Option.some.inj hk
        rw [chG_get hkl, this, List.getD_eq_getElem?_getD, hs]; rfl
      have ndI : ((imX L cs).map (·.1)).Nodup := by
        have e : (imX L cs).map (·.1) = (List.range cs.length).map fun k => 2 + 4 * k := by unfold imX; rw [List.map_map]; rfl
        rw [e]
        exact nodup_map_inj List.nodup_range fun a _ b _ e => by omega
      have hy : (exs [De.wr 1 (dirW (cs.map (·.1))).1] A)[2 + 4 * k + j]? = some ((exs [De.wr 1 (dirW (cs.map (·.1))).1] A)[2 + 4 * k + j]'(by rw [exs_len]; omega)) := List.getElem?_eq_getElem _
      rw [ex_sy, exs_app, blk_in hj ndI (fun x hx => by obtain ⟨k, _, rfl⟩ := List.mem_map.1 hx; show (2 + 4 * k) % 4 = 2; omega) hmem hy]
      rfl
  obtain ⟨t1, t2, t3, t4⟩ := tail_yes (L2 := setL L cs) m2 i2 p2
  generalize hA4 : exs (markD true) (De.sy.ex (exs ([De.wr 1 (dirW (cs.map (·.1))).1] ++ blkW (imX L cs)) A)) = A4 at *
  have l4 : A4.length = A.length := by rw [← hA4, exs_len, ex_len, exs_len]
  -- the pages
  have pX : ∀ x ∈ pgX cs, ∃ c ∈ cs, x = (126 + 4 * c.1.toNat, c.2) := fun x hx => by
    obtain ⟨c, hc, rfl⟩ := List.mem_map.1 hx
    exact ⟨c, hc, rfl⟩
  have off4 : Off 0 (blkW (pgX cs)) := off_blk fun x hx j hj => by obtain ⟨c, hc, rfl⟩ := pX x hx; show 0 ≠ 126 + 4 * c.1.toNat + j; omega
  have offI : ∀ i, (∀ n ∈ cs.map (fun x : Ch => x.1), ∀ j, j < 4 → i ≠ 126 + 4 * n.toNat + j) → Off i (blkW (pgX cs)) := fun i hi => off_blk fun x hx j hj => by
    obtain ⟨c, hc, rfl⟩ := pX x hx
    exact hi c.1 (List.mem_map.2 ⟨c, hc, rfl⟩) j hj
  have keep4 : ∀ A' : List Sec, (∀ i, Off i (blkW (pgX cs)) → A'[i]? = A4[i]?) → Mk A' true ∧ Ing A' L (cs.map (·.1)) := fun A' hA => ⟨t2.sub fun z hz => by rw [hA 0 off4]; exact hz, t4.sub fun i z _ h2 hz => by rw [hA i (offI i h2)]; exact hz⟩
  obtain ⟨m5, i5⟩ := keep4 (exs (blkW (pgX cs)) A4) fun i hi => exs_off hi
  have m6 : Mk (De.sy.ex (exs (blkW (pgX cs)) A4)) true := m5.sub fun z hz => sy_sub hz
  have i6 : Ing (De.sy.ex (exs (blkW (pgX cs)) A4)) L (cs.map (·.1)) := i5.sub fun i z _ _ hz => sy_sub hz
  have ndP : ((pgX cs).map (·.1)).Nodup := by
    have e : (pgX cs).map (·.1) = (cs.map (·.1)).map fun n => 126 + 4 * n.toNat := by unfold pgX; rw [List.map_map, List.map_map]; rfl
    rw [e]
    exact nodup_map_inj hnd fun a ha b hb e => by have := hbl a ha; have := hbl b hb; omega
  have p6 : PgS (De.sy.ex (exs (blkW (pgX cs)) A4)) (setL L cs) := by
    intro n s hs j hj
    by_cases c : ((n : Nat) : Int) ∈ cs.map (fun x : Ch => x.1)
    · obtain ⟨x, hx, hxn⟩ := List.mem_map.1 c
      have hxn : x.1 = ((n : Nat) : Int) := hxn
      have e1 := setL_in cs L x hnd hbd hx
      have e2 : x.1.toNat = n := by omega
      rw [e2, hs] at e1
      have e1 : s = x.2 := Option.some.inj e1
      have hmem : (126 + 4 * n, s) ∈ pgX cs := List.mem_map.2 ⟨x, hx, by rw [e2, e1]⟩
      have := hbd x hx
      have hy : A4[126 + 4 * n + j]? = some (A4[126 + 4 * n + j]'(by omega)) := List.getElem?_eq_getElem (by omega)
      rw [ex_sy, blk_in hj ndP (fun x hx => by obtain ⟨c, hc, rfl⟩ := pX x hx; show (126 + 4 * c.1.toNat) % 4 = 2; omega) hmem hy]
      rfl
    · rw [setL_out cs L n fun x hx e => c (List.mem_map.2 ⟨x, hx, by have := hbd x hx; omega⟩)] at hs
      obtain ⟨d, _, _, _, _, _, hpg⟩ := i6
      exact hpg n s c hs j hj
  obtain ⟨u1, u2, u3, u4⟩ := tail_no (L2 := setL L cs) m6 i6 p6
  have eS : stepsD L cs = [De.wr 1 (dirW (cs.map (·.1))).1] ++ blkW (imX L cs) ++ [De.sy] ++ markD true ++ blkW (pgX cs) ++ [.sy] ++ markD false := by
    unfold stepsD; rw [eim, epg]
  have eE : exs (stepsD L cs) A = exs (markD false) (De.sy.ex (exs (blkW (pgX cs)) A4)) := by
    rw [eS, exs_app, exs_app, exs_app, exs_app, exs_app, ← hA4]; rfl
  refine ⟨?_, by rw [eE]; exact u2, by rw [eE]; exact u3, by rw [eE]; exact u4, ?_, ?_⟩
  · rw [eS]
    refine Pre_app (Pre_app (Pre_app (Pre_app (Pre_app (Pre_off fun A' hA => ?_) (Pre_cons (crh_no m1 p1) Pre_nil)) ?_) ?_) ?_) ?_
    · obtain ⟨a1, a2⟩ := keep A' hA
      exact crh_no a1 a2
    · rw [exs_app]
      exact t1
    · rw [exs_app, exs_app]
      show Pre _ _ (exs (markD true) (De.sy.ex (exs ([De.wr 1 (dirW (cs.map (·.1))).1] ++ blkW (imX L cs)) A)))
      rw [hA4]
      refine Pre_off fun A' hA => ?_
      obtain ⟨a1, a2⟩ := keep4 A' hA
      exact crh_yes a1 a2
    · rw [exs_app, exs_app, exs_app]
      show Pre _ _ (exs (blkW (pgX cs)) (exs (markD true) (De.sy.ex (exs ([De.wr 1 (dirW (cs.map (·.1))).1] ++ blkW (imX L cs)) A))))
      rw [hA4]
      exact Pre_cons (crh_yes m5 i5) Pre_nil
    · rw [exs_app, exs_app, exs_app, exs_app]
      show Pre _ _ (De.sy.ex (exs (blkW (pgX cs)) (exs (markD true) (De.sy.ex (exs ([De.wr 1 (dirW (cs.map (·.1))).1] ++ blkW (imX L cs)) A)))))
      rw [hA4]
      exact u1
  · have gm : ∀ b, ∀ d ∈ markD b, d.good A.length := fun b d hd => by
      rcases List.mem_cons.1 hd with rfl | hd
      · exact ⟨by omega, by omega, Nat.le_of_eq (markB b).2⟩
      · rw [List.mem_singleton.1 hd]; trivial
    have gs : ∀ d ∈ [De.sy], d.good A.length := fun d hd => by rw [List.mem_singleton.1 hd]; trivial
    have gI : ∀ d ∈ blkW (imX L cs), d.good A.length := good_blk fun x hx => by
      obtain ⟨k, hk, rfl⟩ := List.mem_map.1 hx
      have hkl := List.mem_range.1 hk
      have := hbd _ (List.getElem_mem hkl)
      have hlt : (chG cs k).1.toNat < L.length := by rw [chG_get hkl]; omega
      exact ⟨by show 2 + 4 * k + 4 ≤ _; omega, h.sz _ (List.mem_of_getElem? (getD_some hlt))⟩
    have gP : ∀ d ∈ blkW (pgX cs), d.good A.length := good_blk fun x hx => by
      obtain ⟨c, hc, rfl⟩ := pX x hx
      have := hbd c hc
      exact ⟨by show 126 + 4 * c.1.toNat + 4 ≤ _; omega, hsz c hc⟩
    have g1 : ∀ d ∈ [De.wr 1 (dirW (cs.map (·.1))).1], d.good A.length := fun d hd => by rw [List.mem_singleton.1 hd]; exact ⟨by omega, by omega, Nat.le_of_eq hd64⟩
    have ga : ∀ {x y : List De}, (∀ d ∈ x, d.good A.length) → (∀ d ∈ y, d.good A.length) → ∀ d ∈ x ++ y, d.good A.length := fun hx hy d hd => (List.mem_append.1 hd).elim (hx d) (hy d)
    rw [eS]
    exact ga (ga (ga (ga (ga (ga g1 gI) gs) (gm true)) gP) gs) (gm false)
  · rw [eS]
    have a1 : (imX L cs).length = cs.length := by unfold imX; simp
    have a2 : (pgX cs).length = cs.length := by unfold pgX; simp
    simp only [List.length_append, blkW_len, a1, a2, List.length_cons, List.length_nil, markD]
    omega
theorem setL_fit {A A' : List Sec} {L : List ByteArray} {cs : List Ch} (h : Fit A L) (hv : mayB false L.length cs = 0) (hl : A'.length = A.length) : Fit A' (setL L cs) := by
  obtain ⟨_, _, _, _, hsz⟩ := mayB_ok hv
  exact ⟨by rw [setL_len, hl]; exact h.len, setL_sz h.sz hsz, by rw [setL_len]; exact h.n1, by rw [setL_len]; exact h.n2⟩
/-- a commit that may be, of some changes -/
theorem commit_two {G : Pg} {D : Dv} {cs : List Ch} (h : Fit D.A G.L) (hm : Mk D.A false) (hp : PgS D.A G.L) (hv : mayB G.st G.L.length cs = 0) (hne : cs ≠ []) :
    (commitB G D cs).2.1.h = D.h ∧ D.c ≤ (commitB G D cs).2.1.c ∧ (commitB G D cs).2.1.c ≤ D.c + 300 ∧ (commitB G D cs).2.1.A.length = D.A.length ∧ (∀ A', Cr (commitB G D cs).2.1.A A' → Holds A' G.L ∨ Holds A' (setL G.L cs)) ∧
    ((commitB G D cs).1 = 0 ∧ (commitB G D cs).2.2 = ⟨setL G.L cs, G.st, G.c + 1⟩ ∧ Mk (commitB G D cs).2.1.A false ∧ PgS (commitB G D cs).2.1.A (setL G.L cs) ∧ AllS (commitB G D cs).2.1.A ∧ (commitB G D cs).2.1.c = D.c + (8 * cs.length + 7 : Nat) ∨
     (commitB G D cs).1 = 9 ∧ (commitB G D cs).2.2 = { G with st := true }) ∧ (D.c + 300 ≤ D.h → (commitB G D cs).1 = 0) := by
  have hst := (mayB_ok hv).1
  have h31 := (mayB_ok hv).2.1
  have hv' := hv
  rw [hst] at hv'
  obtain ⟨s1, s2, s3, s4, s5, s6⟩ := commit_stage h hm hp hv'
  have hcm : ¬ (mayB G.st G.L.length cs ≠ 0 ∨ cs = []) := fun hx => hx.elim (fun h => h hv) hne
  have hc := runs_c (stepsD G.L cs) D
  rcases runs_two (stepsD G.L cs) D s5 with e | ⟨e1, e2, k, hk, e3⟩
  · have eC : commitB G D cs = (0, ⟨exs (stepsD G.L cs) D.A, D.c + (stepsD G.L cs).length, D.h⟩, ⟨setL G.L cs, G.st, G.c + 1⟩) := by
      unfold commitB
      rw [if_neg hcm, e, if_neg (fun h => h rfl)]
    rw [eC]
    refine ⟨rfl, by show D.c ≤ D.c + ((stepsD G.L cs).length : Int); omega, by show D.c + ((stepsD G.L cs).length : Int) ≤ _; omega, exs_len _ _, fun A' hc => ?_, .inl ⟨rfl, rfl, s2, s3, s4, by show D.c + ((stepsD G.L cs).length : Int) = _; rw [s6]⟩, fun _ => rfl⟩
    exact (crh_no (L2 := G.L) s2 s3 A' hc).symm
  · have n9 : ¬ (runs (stepsD G.L cs) D).1 = 0 := by rw [e1]; decide
    have eC : commitB G D cs = ((runs (stepsD G.L cs) D).1, (runs (stepsD G.L cs) D).2, { G with st := true }) := by
      unfold commitB
      rw [if_neg hcm, if_pos n9]
    rw [eC]
    refine ⟨e2, hc.1, by have := hc.2; show (runs (stepsD G.L cs) D).2.c ≤ _; omega, by show (runs (stepsD G.L cs) D).2.A.length = _; rw [e3, exs_len], fun A' hcr => ?_, .inr ⟨e1, rfl⟩, fun hd => ?_⟩
    · have hcr : Cr (runs (stepsD G.L cs) D).2.A A' := hcr
      rw [e3] at hcr
      exact s1 k hk A' hcr
    · have := runs_ok _ _ s5 (by omega)
      rw [this] at n9
      exact absurd rfl n9
/-- a commit that may not be, or of nothing -/
theorem commit_no {G : Pg} {D : Dv} {cs : List Ch} (h : mayB G.st G.L.length cs ≠ 0 ∨ cs = []) : commitB G D cs = (mayB G.st G.L.length cs, D, G) := by
  unfold commitB
  rw [if_pos h]
/-- a new device's pages -/
theorem new_mk (n : Nat) (h : 0 < n) : Mk (newD n).A false := ⟨pad ⟨#[]⟩, by unfold newD; rw [List.getElem?_replicate, if_pos h], by show mkd (markB false).1 = false; exact mkd_mark false⟩
theorem zs_chunk {j : Nat} (hj : j < 4) : chunk (zs 256) j = zs 64 := by
  apply byL_inj
  unfold chunk
  rw [byL_take, byL_zs, byL_zs]
  rcases (by omega : j = 0 ∨ j = 1 ∨ j = 2 ∨ j = 3) with rfl | rfl | rfl | rfl <;> decide
theorem pad_zs : pad (zs 64) = pad ⟨#[]⟩ := by
  apply Subtype.ext
  rw [pad_64 (zs_size 64)]
  apply byL_inj
  rw [byL_zs, byL_pad]
  rfl
theorem new_pgs (m n : Nat) (h : 126 + 4 * m ≤ n) : PgS (newD n).A (List.replicate m (zs 256)) := by
  intro k s hs j hj
  rw [List.getElem?_replicate] at hs
  split at hs
  · rename_i hk
    obtain rfl : zs 256 = s := Option.some.inj hs
    unfold newD
    rw [List.getElem?_replicate, if_pos (by omega), zs_chunk hj, pad_zs]
  · cases hs
theorem new_fit (m n : Nat) (h1 : 1 ≤ m) (h2 : m ≤ 160) (h : 126 + 4 * m ≤ n) : Fit (newD n).A (List.replicate m (zs 256)) :=
  ⟨by unfold newD; simp; exact h, fun s hs => by rw [List.eq_of_mem_replicate hs]; exact zs_size 256, by simpa using h1, by simpa using h2⟩
end Go.Proofs.YtongpnolikkknaaGreatDoor

set_option maxRecDepth 20000
set_option maxHeartbeats 4000000
namespace Go.Proofs.YtongpnolikkknaaGreatDoor
open Sh RowKit Go.MapKept
def fillL (b : Int) (i : Nat) : List Int := List.replicate i b ++ List.replicate (256 - i) 0
def fillB (b : Int) : ByteArray := strOfNums (List.replicate 256 b)
theorem fillL_len {b : Int} {i : Nat} (h : i ≤ 256) : (fillL b i).length = 256 := by unfold fillL; rw [List.length_append, List.length_replicate, List.length_replicate]; omega
theorem fillL_set {b : Int} {i : Nat} (h : i < 256) : (fillL b i).set i b = fillL b (i + 1) := by
  unfold fillL
  rw [List.set_append_right _ _ (by rw [List.length_replicate]; exact Nat.le_refl _), List.length_replicate, Nat.sub_self, show 256 - i = (256 - (i + 1)) + 1 by omega, List.replicate_succ, List.set_cons_zero, List.replicate_succ', List.append_assoc]
  rfl
theorem fillB_size (b : Int) : (fillB b).size = 256 := by unfold fillB; rw [son_size, List.length_replicate]
section
variable {B : Nat} {W w : World} {Q : Value → World → Prop}
theorem f80_loop {W : World} {B : Nat} {b : Int} : ∀ (d m i : Nat) (w : World) (v : Value), i + d = 256 → d < m → B ≤ w.heap.size → Below B W w → ownI B 5 .u8 w v (fillL b i) →
    (∀ w', Below B W w' → Q (.string (fillB b)) w') →
    itr (fun _ _ _ => bot) (f80_b2 f80_j1) m (.int .u8 b) v (.int .i64 (i : Int)) w Q := by
  intro d
  induction d with
  | zero =>
    intro m i w v hi hm hB hb ho kk
    obtain ⟨m, rfl⟩ : ∃ x, m = x + 1 := ⟨m - 1, by omega⟩
    show f80_b2 f80_j1 _ _ _ _ w Q
    unfold f80_b2
    obtain ⟨pl, cl, el, _⟩ := ownI_len ho
    have ll : ∀ (K : Value → M) (w1 : World) (Q : Value → World → Prop), lnl v K w1 Q = K (.int .i64 (256 : Nat)) w1 Q := fun K w1 Q => by
      rw [el, lnl_e, fillL_len (by omega)]
    have c : ¬ (i : Int) < (256 : Nat) := by omega
    try simp only [↓reduceIte, ↓LL, LM, Value.cells, Nat.reduceAdd, Option.some.injEq, exists_eq_left', decide_true, decide_false, if_true, if_false, reduceCtorEq, cond_true, cond_false, ll, c]
    unfold f80_j1
    refine cvb sl61 ud5 str9 (rdP_rd (ownI_rdP ho)) ?_
    try simp only [↓reduceIte, ↓LL, LM, Value.cells, Nat.reduceAdd, Option.some.injEq, exists_eq_left', decide_true, decide_false, if_true, if_false, reduceCtorEq, cond_true, cond_false]
    have : i = 256 := by omega
    subst this
    have e : strOfNums (fillL b 256) = fillB b := by
      have : fillL b 256 = List.replicate 256 b := by
        unfold fillL
        rw [Nat.sub_self]
        exact List.append_nil _
      rw [this]; rfl
    rw [e]
    exact kk w hb
  | succ d ih =>
    intro m i w v hi hm hB hb ho kk
    obtain ⟨m, rfl⟩ : ∃ x, m = x + 1 := ⟨m - 1, by omega⟩
    show f80_b2 f80_j1 _ _ _ _ w Q
    unfold f80_b2
    obtain ⟨pl, cl, el, _⟩ := ownI_len ho
    have ll : ∀ (K : Value → M) (w1 : World) (Q : Value → World → Prop), lnl v K w1 Q = K (.int .i64 (256 : Nat)) w1 Q := fun K w1 Q => by
      rw [el, lnl_e, fillL_len (by omega)]
    have c : (i : Int) < (256 : Nat) := by omega
    have h3 : IntKind.i64.wrap ((i : Int) + 1) = ((i + 1 : Nat) : Int) := by rw [w64 (by omega) (by omega)]; rfl
    try simp only [↓reduceIte, ↓LL, LM, Value.cells, Nat.reduceAdd, Option.some.injEq, exists_eq_left', decide_true, decide_false, if_true, if_false, reduceCtorEq, cond_true, cond_false, ll, c]
    refine ia_st ho (by rw [fillL_len (by omega)]; omega) fun w' ho' hu => ?_
    rw [fillL_set (by omega)] at ho'
    obtain ⟨g, hg1, hg2, hg3, hu⟩ := hu
    try simp only [↓reduceIte, ↓LL, LM, Value.cells, Nat.reduceAdd, Option.some.injEq, exists_eq_left', decide_true, decide_false, if_true, if_false, reduceCtorEq, cond_true, cond_false, h3]
    exact ih m (i + 1) w' v (by omega) (by omega) (by rw [hu.size]; exact hB) (hb.trans (hu.below hg2)) ho' kk
theorem f80_s {b : Int} (kk : ∀ w', Below w.heap.size w w' → Q (.string (fillB b)) w') : f80 (.int .u8 b) w Q := by
  unfold f80
  refine mkI (n := 256) (B := w.heap.size) sl61 (by omega) (by omega) (Nat.le_refl _) fun v w1 ho hb => ?_
  try simp only [↓reduceIte, ↓LL, LM, Value.cells, Nat.reduceAdd, Option.some.injEq, exists_eq_left', decide_true, decide_false, if_true, if_false, reduceCtorEq, cond_true, cond_false]
  refine ⟨_, f80_loop (W := w) (b := b) 256 257 0 w1 v (by omega) (by omega) hb.size hb ?_ kk⟩
  exact ho
end
end Go.Proofs.YtongpnolikkknaaGreatDoor

set_option maxRecDepth 20000
set_option maxHeartbeats 4000000
namespace Go.Proofs.YtongpnolikkknaaGreatDoor
open Sh RowKit Go.MapKept
def chsB (ps bs : List Int) (n : Nat) : List Ch := (List.range n).map fun i => (ps.getD i 0, fillB (bs.getD i ((i : Int) % 256)))
theorem chsB_succ (ps bs : List Int) (n : Nat) : chsB ps bs (n + 1) = chsB ps bs n ++ [(ps.getD n 0, fillB (bs.getD n ((n : Int) % 256)))] := by unfold chsB; rw [List.range_succ, List.map_append]; rfl
theorem chsB_len (ps bs : List Int) (n : Nat) : (chsB ps bs n).length = n := by unfold chsB; simp
theorem w8 {i : Int} : IntKind.u8.wrap i = i % 256 := by
  unfold IntKind.wrap
  simp [IntKind.signed, IntKind.bits]
theorem slC : slT Tryz.prog 49 48 (.agg #[.int .i64 0, .string ⟨#[]⟩]) 2 24 := ⟨by kernel_rfl, by kernel_rfl⟩
theorem slC6 : slT Tryz.prog 69 136 (.agg #[.int .i64 0, .string ⟨#[]⟩]) 2 24 := ⟨by kernel_rfl, by kernel_rfl⟩
theorem buildC (n : Int) (s : ByteArray) (w : World) : (Instr.build 48 #[(0, .int .i64 n), (1, .string s)]).run Tryz.prog w = .ok (.agg (encC (n, s)).toArray) w := by
  kernel_rfl
theorem buildC6 (n : Int) (s : ByteArray) (w : World) : (Instr.build 136 #[(0, .int .i64 n), (1, .string s)]).run Tryz.prog w = .ok (.agg (encC (n, s)).toArray) w := by
  kernel_rfl
section
variable {B : Nat} {W w : World} {Q : Value → World → Prop}
/-- one element of several cells more -/
theorem ap_E1 {α : Type} {enc : α → List Value} {n b : Nat} {t e : TypeId} {z v : Value} {l : List α} {x : α} {K : Value → M} (ht : slT Tryz.prog t e z n b) (hz : z.cells.size = n) (hn0 : 0 < n) (hn24 : n ≤ 16777216) (hn : ∀ x, (enc x).length = n) (h1 : ∀ x, ∀ c ∈ enc x, c.oneCell' = true) (ho : ownE B e n enc w v l)
    (h63 : l.length + 1 ≤ maxLen) (hbytes : (l.length + 1) * b ≤ 140737488355328) (hB : B ≤ w.heap.size)
    (kk : ∀ w' v', ownE B e n enc w' v' (l ++ [x]) → ChgS (fun k => v.ownBlock = some k) w w' → (∀ g, v'.ownBlock = some g → v.ownBlock = some g ∨ w.heap.size ≤ g) → K v' w' Q) :
    sm Tryz.prog (Instr.buildSlice t 1 #[(0, .agg (enc x).toArray)]) (fun u => sm Tryz.prog (Builtin.append_ #[t, t] t #[v, u]) K) w Q := by
  refine bslE ht hz hn0 hn24 (hn x) fun w1 h b1 => ?_
  refine ap_E (m := [x]) ht hz hn0 hn h1 (ownE_below ho b1) (rd_lit (hn x) h) h63 hbytes (Nat.le_trans hB b1.size) fun v' w' o g f => ?_
  have hs : w.heap.size ≤ w1.heap.size := b1.size
  refine kk w' v' o ⟨g.os.trans b1.os, g.tape.trans b1.tape, g.output.trans b1.output, Nat.le_trans hs g.size, fun k hk hne => ?_⟩ fun k hk => ?_
  · rw [g.block k (by omega) (fun e => hne e.symm), b1.block k hk]
  · rcases f with f | f
    · left; rw [← f]; exact hk
    · right
      rw [f] at hk; cases hk; omega
theorem rdI_b {k : IntKind} {v : Value} {l : List Int} {w' : World} (h : rdI k w v l) (hb : Below w.heap.size w w') : rdI k w' v l := rdI_below hb h
theorem rdI_lnl {k : IntKind} {v : Value} {l : List Int} (h : rdI k w v l) : ∀ (K : Value → M) (w1 : World) (Q : Value → World → Prop), lnl v K w1 Q = K (.int .i64 ((l.length : Nat) : Int)) w1 Q := by
  intro K w1 Q
  obtain ⟨p, c, rfl, _⟩ := h
  rw [lnl_e]
theorem changes_loop {ps bs : List Int} {vp vb : Value} {b : Nat} (hbox : W.heap[b]? = some (.cells #[vp, vb] 72 (0, 0))) (hp : rdI .i64 W vp ps) (hbs : rdI .u8 W vb bs) (hl : ps.length ≤ 1048576) :
    ∀ (d m i : Nat) (w : World) (x y : Value), i + d = ps.length → d < m → Below W.heap.size W w → ownE W.heap.size 48 2 encC w x (chsB ps bs i) → ownE W.heap.size 136 2 encC w y (chsB ps bs i) →
    (∀ w' x' y', Below W.heap.size W w' → ownE W.heap.size 48 2 encC w' x' (chsB ps bs ps.length) → ownE W.heap.size 136 2 encC w' y' (chsB ps bs ps.length) → Q (.tuple #[x', y']) w') →
    itr (fun _ _ _ _ => bot) (f42_b2 f42_j1) m (pv b) x y (.int .i64 ((i : Nat) : Int)) w Q := by
  intro d
  induction d with
  | zero =>
    intro m i w x y hi hm hb hx hy kk
    obtain ⟨m, rfl⟩ : ∃ x, m = x + 1 := ⟨m - 1, by omega⟩
    show f42_b2 f42_j1 _ _ _ _ _ w Q
    unfold f42_b2
    have hbox' := stay hb hbox
    have c0 : w.cell? ⟨b, 0, none⟩ = some vp := by rw [cell_of_blk hbox']; rfl
    have lp := rdI_lnl hp
    have c : ¬ (i : Int) < (ps.length : Nat) := by omega
    try simp only [↓reduceIte, ↓LL, LM, Value.cells, Nat.reduceAdd, Option.some.injEq, exists_eq_left', decide_true, decide_false, if_true, if_false, reduceCtorEq, cond_true, cond_false, c0, lp, c]
    unfold f42_j1
    try simp only [↓reduceIte, ↓LL, LM, Value.cells, Nat.reduceAdd, Option.some.injEq, exists_eq_left', decide_true, decide_false, if_true, if_false, reduceCtorEq, cond_true, cond_false]
    have : i = ps.length := by omega
    subst this
    exact kk w x y hb hx hy
  | succ d ih =>
    intro m i w x y hi hm hb hx hy kk
    obtain ⟨m, rfl⟩ : ∃ x, m = x + 1 := ⟨m - 1, by omega⟩
    show f42_b2 f42_j1 _ _ _ _ _ w Q
    unfold f42_b2
    have hbox' := stay hb hbox
    have c0 : w.cell? ⟨b, 0, none⟩ = some vp := by rw [cell_of_blk hbox']; rfl
    have c1 : w.cell? ⟨b, 1, none⟩ = some vb := by rw [cell_of_blk hbox']; rfl
    have lp := rdI_lnl hp
    have lb := rdI_lnl hbs
    have c : (i : Int) < (ps.length : Nat) := by omega
    have hil : i < ps.length := by omega
    have h3 : IntKind.i64.wrap ((i : Int) + 1) = ((i + 1 : Nat) : Int) := by rw [w64 (by omega) (by omega)]; rfl
    have epi : ps[i] = ps.getD i 0 := by rw [List.getD_eq_getElem?_getD, List.getElem?_eq_getElem hil]; rfl
    have body : ∀ (w1 : World) (v : Int), Below W.heap.size W w1 → ownE W.heap.size 48 2 encC w1 x (chsB ps bs i) → ownE W.heap.size 136 2 encC w1 y (chsB ps bs i) → v = bs.getD i ((i : Int) % 256) →
        f42_j3 (itr (fun _ _ _ _ => bot) (f42_b2 f42_j1) m) (pv b) x y (.int .i64 ((i : Nat) : Int)) (.int .u8 v) w1 Q := by
      intro w1 v hb1 hx1 hy1 hv
      unfold f42_j3
      obtain ⟨ad, hc, hia⟩ := rdI_at hp hil
      have hbx1 := stay hb1 hbox
      have k0 : (drw w1).cell? ⟨b, 0, none⟩ = some vp := by show w1.cell? _ = _; rw [cell_of_blk hbx1]; rfl
      have k1 : (drw w1).cell? ad = some (.int .i64 ps[i]) := show w1.cell? ad = _ from cell_below hb1 hc
      try simp only [↓reduceIte, ↓LL, LM, Value.cells, Nat.reduceAdd, Option.some.injEq, exists_eq_left', decide_true, decide_false, if_true, if_false, reduceCtorEq, cond_true, cond_false, k0, hia, k1]
      refine f80_s fun w2 b2 => ?_
      have hb2 : Below W.heap.size W w2 := bt (show Below W.heap.size W (drw w1) from ⟨hb1.os, hb1.tape, hb1.output, hb1.size, hb1.block⟩) b2
      refine ⟨by rw [Kld_e]; exact cell_below hb2 hc, ?_⟩
      refine ⟨by rw [Kld_e, cell_of_blk (stay hb2 hbox)]; rfl, ?_⟩
      rw [smr_run (buildC _ _ _)]
      have hx2 : ownE W.heap.size 48 2 encC w2 x (chsB ps bs i) := ownE_below (w := drw w1) hx1 b2
      have hy2 : ownE W.heap.size 136 2 encC w2 y (chsB ps bs i) := ownE_below (w := drw w1) hy1 b2
      refine ap_E1 slC rfl (by decide) (by decide) encC_len encC_one hx2 (by rw [chsB_len]; unfold maxLen; omega) (by rw [chsB_len]; omega) hb2.size fun w3 x3 hx3 hc3 _ => ?_
      have xT : ∀ k, x.ownBlock = some k → W.heap.size ≤ k := fun k hk => (ownE_blk hx2 k hk).1
      have hb3 : Below W.heap.size W w3 := hb2.trans (hc3.below xT hb2.size)
      have hy3 : ownE W.heap.size 136 2 encC w3 y (chsB ps bs i) := ownE_chg hy2 hc3 fun g hg hn => by
        obtain ⟨_, _, cur, h1⟩ := ownE_blk hy2 g hg
        obtain ⟨_, _, cur', h2⟩ := ownE_blk hx2 g hn
        rw [h1] at h2
        cases h2
      have hbx3 := stay hb3 hbox
      have k0 : (drw w3).cell? ⟨b, 0, none⟩ = some vp := by show w3.cell? _ = _; rw [cell_of_blk hbx3]; rfl
      have k1 : (drw w3).cell? ad = some (.int .i64 ps[i]) := show w3.cell? ad = _ from cell_below hb3 hc
      try simp only [↓reduceIte, ↓LL, LM, Value.cells, Nat.reduceAdd, Option.some.injEq, exists_eq_left', decide_true, decide_false, if_true, if_false, reduceCtorEq, cond_true, cond_false, k0, hia, k1]
      refine f80_s fun w4 b4 => ?_
      have hb4 : Below W.heap.size W w4 := bt (show Below W.heap.size W (drw w3) from ⟨hb3.os, hb3.tape, hb3.output, hb3.size, hb3.block⟩) b4
      refine ⟨by rw [Kld_e]; exact cell_below hb4 hc, ?_⟩
      refine ⟨by rw [Kld_e, cell_of_blk (stay hb4 hbox)]; rfl, ?_⟩
      rw [smr_run (buildC6 _ _ _)]
      have hx4 : ownE W.heap.size 48 2 encC w4 x3 (chsB ps bs i ++ [(ps[i], fillB v)]) := ownE_below (w := drw w3) hx3 b4
      have hy4 : ownE W.heap.size 136 2 encC w4 y (chsB ps bs i) := ownE_below (w := drw w3) hy3 b4
      refine ap_E1 slC6 rfl (by decide) (by decide) encC_len encC_one hy4 (by rw [chsB_len]; unfold maxLen; omega) (by rw [chsB_len]; omega) hb4.size fun w5 y5 hy5 hc5 _ => ?_
      have yT : ∀ k, y.ownBlock = some k → W.heap.size ≤ k := fun k hk => (ownE_blk hy4 k hk).1
      have hb5 : Below W.heap.size W w5 := hb4.trans (hc5.below yT hb4.size)
      have hx5 : ownE W.heap.size 48 2 encC w5 x3 (chsB ps bs i ++ [(ps[i], fillB v)]) := ownE_chg hx4 hc5 fun g hg hn => by
        obtain ⟨_, _, cur, h1⟩ := ownE_blk hx4 g hg
        obtain ⟨_, _, cur', h2⟩ := ownE_blk hy4 g hn
        rw [h1] at h2
        cases h2
      have ec : chsB ps bs i ++ [(ps[i], fillB v)] = chsB ps bs (i + 1) := by rw [chsB_succ, epi, hv]
      rw [ec] at hx5 hy5
      try simp only [↓reduceIte, ↓LL, LM, Value.cells, Nat.reduceAdd, Option.some.injEq, exists_eq_left', decide_true, decide_false, if_true, if_false, reduceCtorEq, cond_true, cond_false, h3]
      exact ih m (i + 1) w5 x3 y5 (by omega) (by omega) hb5 hx5 hy5 kk
    by_cases c2 : i < bs.length
    · have c2' : (i : Int) < (bs.length : Nat) := by omega
      obtain ⟨ad, hc, hia⟩ := rdI_at (rdI_b hbs hb) c2
      try simp only [↓reduceIte, ↓LL, LM, Value.cells, Nat.reduceAdd, Option.some.injEq, exists_eq_left', decide_true, decide_false, if_true, if_false, reduceCtorEq, cond_true, cond_false, c0, c1, lp, lb, c, c2', hia, hc]
      refine body w _ hb hx hy ?_
      rw [List.getD_eq_getElem?_getD, List.getElem?_eq_getElem c2]; rfl
    · have c2' : ¬ (i : Int) < (bs.length : Nat) := by omega
      try simp only [↓reduceIte, ↓LL, LM, Value.cells, Nat.reduceAdd, Option.some.injEq, exists_eq_left', decide_true, decide_false, if_true, if_false, reduceCtorEq, cond_true, cond_false, c0, c1, lp, lb, c, c2']
      refine body w _ hb hx hy ?_
      rw [List.getD_eq_getElem?_getD, List.getElem?_eq_none (by omega), w8]; rfl
theorem f42_s {ps bs : List Int} {vp vb : Value} (hp : rdI .i64 w vp ps) (hbs : rdI .u8 w vb bs) (hl : ps.length ≤ 1048576)
    (kk : ∀ w' x y, Below w.heap.size w w' → ownE w.heap.size 48 2 encC w' x (chsB ps bs ps.length) → ownE w.heap.size 136 2 encC w' y (chsB ps bs ps.length) → Q (.tuple #[x, y]) w') : f42 (.agg #[vp, vb]) w Q := by
  unfold f42
  try simp only [↓reduceIte, ↓LL, LM, Value.cells, Nat.reduceAdd, Option.some.injEq, exists_eq_left', decide_true, decide_false, if_true, if_false, reduceCtorEq, cond_true, cond_false]
  have b1 := b_psh w (.cells #[vp, vb] 72)
  have k1 := blk_psh_new (w := w) (o := .cells #[vp, vb] 72)
  generalize psh w (.cells #[vp, vb] 72) = w1 at *
  have s1 : w.heap.size ≤ w1.heap.size := b1.size
  refine ⟨_, changes_loop (W := w1) (ps := ps) (bs := bs) k1 (rdI_b hp b1) (rdI_b hbs b1) hl ps.length (ps.length + 1) 0 w1 _ _ (by omega) (by omega) (Below.refl _ _) ownE_nil ownE_nil fun w2 x y b2 hx hy => ?_⟩
  exact kk w2 x y (bt b1 b2) (ownE_weak hx s1) (ownE_weak hy s1)
end
end Go.Proofs.YtongpnolikkknaaGreatDoor

namespace Go.Proofs.YtongpnolikkknaaGreatDoor
open Sh RowKit Go.MapKept
theorem wf8 {x : Int} (h : (Lit.int .u8 x).wf = true) : 0 ≤ x ∧ x ≤ 255 := by
  unfold Lit.wf at h
  simp [IntKind.min, IntKind.max, IntKind.signed, IntKind.bits] at h
  omega
theorem ints_rdk {k : IntKind} {w : World} {v : Value} {l : List Int} (h : rdS 1 (iR k) w v l) : rdI k w v l ∧ ∀ x ∈ l, (Lit.int k x).wf = true := by
  rcases h with ⟨rfl, rfl⟩ | ⟨a, c, rfl, hc, h⟩
  · exact ⟨⟨none, 0, rfl, fun i hi => by simp at hi⟩, fun x hx => by simp at hx⟩
  · refine ⟨⟨_, c, rfl, fun i hi => ⟨a, rfl, ?_⟩⟩, fun x hx => ?_⟩
    · obtain ⟨es, _, h2, h3, _⟩ := h i hi
      subst h3
      have := h2 0 _ rfl
      rw [Nat.mul_one] at this
      exact this
    · obtain ⟨i, hi, rfl⟩ := List.mem_iff_getElem.1 hx
      obtain ⟨es, _, _, _, h4⟩ := h i hi
      exact h4
theorem len2 {cs : List Value} (h : cs.length = 2) : ∃ a b, cs = [a, b] := by
  match cs, h with
  | [a, b], _ => exact ⟨a, b, rfl⟩
structure Bat where
  ps : List Int
  bs : List Int
  vp : Value
  vb : Value
def oBat : RepT Bat := fun w cs x => cs = [x.vp, x.vb] ∧ rdI .i64 w x.vp x.ps ∧ rdI .u8 w x.vb x.bs ∧ ∀ y ∈ x.bs, 0 ≤ y ∧ y ≤ 255
theorem ulb : Tryz.prog.underlying 42 = some (.slice 5) := by kernel_rfl
theorem uu8 : Tryz.prog.underlying 5 = some (.int .u8) := by kernel_rfl
theorem sum_one : ∀ l : List Int, (l.map fun _ => 1).sum = l.length
  | [] => rfl
  | _ :: l => by rw [List.map_cons, List.sum_cons, sum_one l, List.length_cons]; omega
theorem op_bat : Opens Tryz.prog 72 Bat oBat (fun x => x.ps.length) := by
  refine Opens.mono (op_struct Tryz.underlying72 (n := 2) (by kernel_rfl) (opf_cons (n := 1) (by kernel_rfl) (op_slice uli (n := 1) (by kernel_rfl) (op_int ui)) (opf_cons (n := 1) (by kernel_rfl) (op_slice ulb (n := 1) (by kernel_rfl) (op_int uu8)) opf_nil))) ?_
  rintro w cs ⟨ps, bs, ⟨⟩⟩ ⟨hl, ⟨v, h0, h1, _⟩, ⟨v2, h2, h3, _⟩, -⟩
  obtain ⟨c0, c1, rfl⟩ := len2 hl
  have e0 := one_cell (x := c0) h0
  have e1 := one_cell (x := c1) h2
  obtain ⟨k1, _⟩ := ints_rdk h1
  obtain ⟨k2, k3⟩ := ints_rdk h3
  refine ⟨⟨ps, bs, v, v2⟩, ⟨by rw [e0, e1], k1, k2, fun y hy => wf8 (k3 y hy)⟩, ?_⟩
  have h := sum_one ps
  show ps.length ≤ ((ps.map fun _ => 1).sum + 1) + (((bs.map fun _ => 1).sum + 1) + 0) + 1
  omega
end Go.Proofs.YtongpnolikkknaaGreatDoor

namespace Go.Proofs.YtongpnolikkknaaGreatDoor
open Sh RowKit Go.MapKept
theorem ulB : Tryz.prog.underlying 61 = some (.slice 72) := by kernel_rfl
theorem scLB : isSc Tryz.prog 61 = true := by kernel_rfl
theorem sum_memB {l : List Bat} {x : Bat} (h : x ∈ l) : x.ps.length ≤ (l.map fun x => x.ps.length).sum := by
  induction l with
  | nil => cases h
  | cons y l ih =>
    rw [List.map_cons, List.sum_cons]
    rcases List.mem_cons.1 h with rfl | h
    · omega
    · have := ih h; omega
def bkL (l : List Bat) : Nat := (l.map fun x => x.ps.length).sum
end Go.Proofs.YtongpnolikkknaaGreatDoor

set_option maxRecDepth 20000
set_option maxHeartbeats 4000000
namespace Go.Proofs.YtongpnolikkknaaGreatDoor
open Sh RowKit Go.MapKept
/-- a device that is sure, its mark says no -/
structure Rdy (D : Dv) (L : List ByteArray) : Prop where
  fit : Fit D.A L
  mark : Mk D.A false
  pg : PgS D.A L
theorem open_rdy {D : Dv} {L : List ByteArray} (h : Rdy D L) : openB D (L.length : Nat) = (0, D, L) := open_no h.fit h.mark h.pg
theorem rdy_new {m N : Nat} (h1 : 1 ≤ m) (h2 : m ≤ 160) (h : 126 + 4 * m ≤ N) : Rdy (newD N) (List.replicate m (zs 256)) := ⟨new_fit m N h1 h2 h, new_mk N (by omega), new_pgs m N h⟩
theorem open_new {m N : Nat} (h1 : 1 ≤ m) (h2 : m ≤ 160) (h : 126 + 4 * m ≤ N) : openB (newD N) (m : Nat) = (0, newD N, List.replicate m (zs 256)) := by
  have := open_rdy (rdy_new h1 h2 h)
  rwa [List.length_replicate] at this
theorem commit_rdy {G : Pg} {D : Dv} {cs : List Ch} (h : Rdy D G.L) (hv : mayB G.st G.L.length cs = 0) (hne : cs ≠ []) (hh : D.c + 300 ≤ D.h) :
    ∃ D', commitB G D cs = (0, D', ⟨setL G.L cs, G.st, G.c + 1⟩) ∧ Rdy D' (setL G.L cs) ∧ D'.h = D.h ∧ D'.c = D.c + (8 * cs.length + 7 : Nat) ∧ AllS D'.A ∧ D'.A.length = D.A.length := by
  obtain ⟨h1, h2, h3, h4, h5, h6, h7⟩ := commit_two h.fit h.mark h.pg hv hne
  have e0 := h7 hh
  have hst := (mayB_ok hv).1
  have hv' := hv
  rw [hst] at hv'
  rcases h6 with ⟨_, q1, q2, q3, q4, q5⟩ | ⟨q, _⟩
  · refine ⟨(commitB G D cs).2.1, ?_, ⟨setL_fit h.fit hv' h4, q2, q3⟩, h1, q5, q4, h4⟩
    rw [← e0, ← q1]
  · rw [e0] at q; cases q
theorem ownE_lit {α : Type} {enc : α → List Value} {n B g : Nat} {e : TypeId} {w : World} {x : α} (hn : (enc x).length = n) (hB : B ≤ g) (h : w.heap[g]? = some (.cells (enc x).toArray e (0, 0))) : ownE B e n enc w (.slice (some ⟨g, 0, none⟩) 1 1) [x] :=
  ⟨by simp [hn], .inr ⟨g, 1, (enc x).toArray, rfl, hB, h, Nat.le_refl _, by unfold maxLen; omega, by simp [hn], by simp [← hn]⟩⟩
structure PgAt (B : Nat) (w : World) (q p b : Nat) (v u : Value) (G : Pg) (D : Dv) : Prop where
  dev : DevAt B w p v b D
  qB : B ≤ q
  hq : w.heap[q]? = some (.cells #[pv p, u, .bool G.st, .int .i64 G.c] 133 (0, 0))
  hu : ownV B 9 w u (G.L.map .string)
def fpP (q p b : Nat) (v u : Value) : Nat → Prop := fun k => k = q ∨ u.ownBlock = some k ∨ fpD p v b k
section
variable {B : Nat} {W w w' : World} {q p b : Nat} {v u : Value} {G : Pg} {D : Dv} {Q : Value → World → Prop}
theorem PgAt.below (h : PgAt B w q p b v u G D) (hb : Below w.heap.size w w') : PgAt B w' q p b v u G D := ⟨h.dev.below hb, h.qB, stay hb h.hq, ownV_below h.hu hb⟩
theorem PgAt.fpB (h : PgAt B w q p b v u G D) : ∀ k, fpP q p b v u k → B ≤ k := by
  rintro k (rfl | hk | hk)
  · exact h.qB
  · exact (ownV_lt h.hu k hk).1
  · exact fpD_B h.dev k hk
theorem PgAt.lt (h : PgAt B w q p b v u G D) : ∀ k, fpP q p b v u k → k < w.heap.size := by
  rintro k (rfl | hk | hk)
  · exact blk_lt h.hq
  · exact (ownV_lt h.hu k hk).2.1
  · exact h.dev.lt k hk
theorem PgAt.chg {S : Nat → Prop} (h : PgAt B w q p b v u G D) (hc : ChgS S w w') (hS : ∀ k, fpP q p b v u k → ¬ S k) : PgAt B w' q p b v u G D :=
  ⟨h.dev.chg hc fun k hk => hS k (.inr (.inr hk)), h.qB, hc.keep h.hq (hS q (.inl rfl)), ownV_chg h.hu hc fun g hg => hS g (.inr (.inl hg))⟩
theorem PgAt.bs {B0 : Nat} (h : PgAt B w q p b v u G D) (hc : ChgS (fpP q p b v u) w w') (h0 : B0 ≤ B) (hB : B0 ≤ w.heap.size) : Below B0 w w' := hc.below (fun k hk => Nat.le_trans h0 (h.fpB k hk)) hB
theorem commit_at {Bc : Nat} {lv : Value} {cs : List Ch} (h : PgAt B w q p b v u G D) (hcs : ownE Bc 48 2 encC w lv cs) (h0 : 0 ≤ D.c) (h1 : D.c + 300 ≤ 1000000) (hG0 : 0 ≤ G.c) (hG1 : G.c ≤ 1000000) (hL : G.L.length ≤ 1000)
    (kk : ∀ w', PgAt B w' q p b v u (commitB G D cs).2.2 (commitB G D cs).2.1 → ChgS (fpP q p b v u) w w' → Q (.int .i64 (commitB G D cs).1) w') : f44 (pv q) lv w Q :=
  f44_s h.dev h.hq h.hu hcs h0 h1 hG0 hG1 hL fun w' hd hq hu hc => kk w' ⟨hd, h.qB, hq, hu⟩ hc
/-- opened, without an error -/
theorem open_at {B0 : Nat} {n : Int} {D' : Dv} {L : List ByteArray} (hd : DevAt B w p v b D) (h0 : 0 ≤ D.c) (h1 : D.c + 200 ≤ 1000000) (hB0 : B0 ≤ B) (hBw : B0 ≤ w.heap.size) (e : openB D n = (0, D', L))
    (kk : ∀ w' q u, w.heap.size ≤ q → PgAt B0 w' q p b v u ⟨L, false, 0⟩ D' → DevAt B w' p v b D' → ownV w.heap.size 9 w' u (L.map .string) → ChgS (fpD p v b) w w' → Q (.tuple #[pv q, .int .i64 0]) w') : f40 (pv p) (.int .i64 n) w Q := by
  have e1 : (openB D n).1 = 0 := by rw [e]
  have e2 : (openB D n).2.1 = D' := by rw [e]
  have e3 : (openB D n).2.2 = L := by rw [e]
  refine f40_s hd h0 h1 (fun h => absurd e1 h) (fun _ w' q u hqw hq hu hd' hc => ?_)
  rw [e2] at hd'
  rw [e3] at hu
  refine kk w' q u hqw ⟨?_, Nat.le_trans hBw hqw, hq, ownV_weak hu hBw⟩ hd' hu hc
  obtain ⟨L', hm, hl⟩ := hd'.mp
  exact ⟨Nat.le_trans hB0 hd'.pB, Nat.le_trans hB0 hd'.bB, hd'.n, hd'.hp, ownE_weak hd'.own hB0, L', hm, hl⟩
theorem f35_s (kk : ∀ w', Below w.heap.size w w' → Q (.bool true) w') : f35 w Q := by
  unfold f35
  try simp only [↓reduceIte, ↓LL, LM, Value.cells, Nat.reduceAdd, Option.some.injEq, exists_eq_left', decide_true, decide_false, if_true, if_false, reduceCtorEq, cond_true, cond_false]
  refine f39_s ⟨by decide, by decide⟩ ?_
  try simp only [↓reduceIte, ↓LL, LM, Value.cells, Nat.reduceAdd, Option.some.injEq, exists_eq_left', decide_true, decide_false, if_true, if_false, reduceCtorEq, cond_true, cond_false]
  refine f38_s (B := w.heap.size) (126 + 4 * 3) (k := 138) (by decide) (Nat.le_refl _) fun w1 p v b pw bw hd hf b1 => ?_
  try simp only [↓reduceIte, ↓LL, LM, Value.cells, Nat.reduceAdd, Option.some.injEq, exists_eq_left', decide_true, decide_false, if_true, if_false, reduceCtorEq, cond_true, cond_false]
  have s1 := b1.size
  refine open_at (B0 := w.heap.size) (n := 3) hd (by decide) (by decide) (Nat.le_refl _) s1 (open_new (m := 3) (N := 138) (by decide) (by decide) (by decide)) fun w2 q u q2 h2 _ _ hc2 => ?_
  have b2 : Below w.heap.size w w2 := bs b1 (fpD_B hd) s1 hc2
  have s2 := b2.size
  try simp only [↓reduceIte, ↓LL, LM, Value.cells, Nat.reduceAdd, Option.some.injEq, exists_eq_left', decide_true, decide_false, if_true, if_false, reduceCtorEq, cond_true, cond_false, get0, get1]
  rw [pn_eq pt49]
  try simp only [↓reduceIte, ↓LL, LM, Value.cells, Nat.reduceAdd, Option.some.injEq, exists_eq_left', decide_true, decide_false, if_true, if_false, reduceCtorEq, cond_true, cond_false, Option.isNone]
  refine f80_s fun w3 b3 => ?_
  try simp only [↓reduceIte, ↓LL, LM, Value.cells, Nat.reduceAdd, Option.some.injEq, exists_eq_left', decide_true, decide_false, if_true, if_false, reduceCtorEq, cond_true, cond_false]
  rw [smr_run (buildC _ _ _)]
  have b03 := bt b2 b3
  have h3 := h2.below b3
  try simp only [↓reduceIte, ↓LL, LM, Value.cells, Nat.reduceAdd, Option.some.injEq, exists_eq_left', decide_true, decide_false, if_true, if_false, reduceCtorEq, cond_true, cond_false]
  refine bslE slC rfl (by decide) (by decide) rfl fun w4 k4 b4 => ?_
  have b04 := bt b03 b4
  have h4 := h3.below b4
  have s3 := b03.size
  try simp only [↓reduceIte, ↓LL, LM, Value.cells, Nat.reduceAdd, Option.some.injEq, exists_eq_left', decide_true, decide_false, if_true, if_false, reduceCtorEq, cond_true, cond_false]
  have hv : mayB false (List.replicate 3 (zs 256)).length [((1 : Int), fillB 7)] = 0 := by
    unfold mayB
    rw [if_neg (by decide), if_neg (by decide), if_neg (by rintro ⟨c, hc, h⟩; rw [List.mem_singleton.1 hc] at h; simp at h), if_neg]
    unfold oddL
    rw [decide_eq_true_iff]
    intro h
    refine h ⟨by simp, fun c hc => ?_⟩
    rw [List.mem_singleton.1 hc]
    exact fillB_size 7
  have hr := rdy_new (m := 3) (N := 138) (by decide) (by decide) (by decide)
  obtain ⟨D', e1, r1, e2, e3, _, e5⟩ := commit_rdy (G := ⟨List.replicate 3 (zs 256), false, 0⟩) hr hv (by simp) (by decide)
  refine commit_at h4 (ownE_lit rfl s3 k4) (by decide) (by decide) (by decide) (by decide) (by simp) fun w5 h5 hc5 => ?_
  rw [e1] at h5 ⊢
  have b05 := bs b04 h4.fpB b04.size hc5
  try simp only [↓reduceIte, ↓LL, LM, Value.cells, Nat.reduceAdd, Option.some.injEq, exists_eq_left', decide_true, decide_false, if_true, if_false, reduceCtorEq, cond_true, cond_false]
  have c5 : D'.c = 15 := by rw [e3]; rfl
  refine open_at (B0 := w.heap.size) (n := 3) (D := D') h5.dev (by omega) (by omega) (Nat.le_refl _) b05.size (open_rdy r1) fun w6 q' u' q6 h6 d6 _ hc6 => ?_
  have b06 := bs b05 (fpD_B h5.dev) b05.size hc6
  have h6' : PgAt w.heap.size w6 q p b v u _ D' := ⟨d6, h5.qB, pg_dev h5.dev h5.hq hc6, own_dev h5.dev h5.hu (by decide) (by decide) hc6⟩
  have er : pgR (setL (List.replicate 3 (zs 256)) [((1 : Int), fillB 7)]) 1 = (fillB 7, 0) := rfl
  try simp only [↓reduceIte, ↓LL, LM, Value.cells, Nat.reduceAdd, Option.some.injEq, exists_eq_left', decide_true, decide_false, if_true, if_false, reduceCtorEq, cond_true, cond_false, get0, get1]
  refine f78_s h6.hq h6.hu ?_
  rw [er]
  try simp only [↓reduceIte, ↓LL, LM, Value.cells, Nat.reduceAdd, Option.some.injEq, exists_eq_left', decide_true, decide_false, if_true, if_false, reduceCtorEq, cond_true, cond_false, get0, get1]
  refine f80_s fun w7 b7 => ?_
  try simp only [↓reduceIte, ↓LL, LM, Value.cells, Nat.reduceAdd, Option.some.injEq, exists_eq_left', decide_true, decide_false, if_true, if_false, reduceCtorEq, cond_true, cond_false]
  refine f50_s (h6'.below b7).hq ?_
  try simp only [↓reduceIte, ↓LL, LM, Value.cells, Nat.reduceAdd, Option.some.injEq, exists_eq_left', decide_true, decide_false, if_true, if_false, reduceCtorEq, cond_true, cond_false]
  refine f79_s (h6.below b7).hq (h6.below b7).hu ?_
  try simp only [↓reduceIte, ↓LL, LM, Value.cells, Nat.reduceAdd, Option.some.injEq, exists_eq_left', decide_true, decide_false, if_true, if_false, reduceCtorEq, cond_true, cond_false]
  exact kk w7 (bt b06 b7)
end
end Go.Proofs.YtongpnolikkknaaGreatDoor

set_option maxRecDepth 20000
set_option maxHeartbeats 4000000
namespace Go.Proofs.YtongpnolikkknaaGreatDoor
open Sh RowKit Go.MapKept
structure RfAt (B : Nat) (w : World) (r : Nat) (u : Value) (L : List ByteArray) : Prop where
  rB : B ≤ r
  hr : w.heap[r]? = some (.cells #[u] 102 (0, 0))
  hu : ownV B 9 w u (L.map .string)
def fpR (r : Nat) (u : Value) : Nat → Prop := fun k => k = r ∨ u.ownBlock = some k
def encT (s : ByteArray) : List Value := [.string s]
theorem encT_len (s : ByteArray) : (encT s).length = 1 := rfl
theorem encT_one (s : ByteArray) : ∀ x ∈ encT s, x.oneCell' = true := fun x hx => by rw [List.mem_singleton.1 hx]; rfl
theorem flat_T (l : List ByteArray) : l.flatMap encT = l.map .string := by
  induction l with
  | nil => rfl
  | cons a l ih => rw [List.flatMap_cons, ih]; rfl
theorem ownV_T {B : Nat} {e : TypeId} {w : World} {v : Value} {l : List ByteArray} (h : ownV B e w v (l.map .string)) : ownE B e 1 encT w v l := by
  unfold ownV at h
  unfold ownE
  rw [flat_T]
  rw [List.length_map] at h
  exact h
theorem ownT_V {B : Nat} {e : TypeId} {w : World} {v : Value} {l : List ByteArray} (h : ownE B e 1 encT w v l) : ownV B e w v (l.map .string) := by
  unfold ownV
  unfold ownE at h
  rw [flat_T] at h
  rw [List.length_map]
  exact h
theorem buildR0 (w : World) : (Instr.build 102 #[]).run Tryz.prog w = .ok (.agg #[.slice none 0 0]) w := by
  kernel_rfl
theorem buildR1 (p : Option Addr) (l c : Nat) (w : World) : (Instr.build 102 #[(0, .slice p l c)]).run Tryz.prog w = .ok (.agg #[.slice p l c]) w := by
  kernel_rfl
section
variable {B : Nat} {W w w' : World} {r : Nat} {u v : Value} {L : List ByteArray} {Q : Value → World → Prop}
theorem RfAt.below (h : RfAt B w r u L) (hb : Below w.heap.size w w') : RfAt B w' r u L := ⟨h.rB, stay hb h.hr, ownV_below h.hu hb⟩
theorem RfAt.chg {S : Nat → Prop} (h : RfAt B w r u L) (hc : ChgS S w w') (hS : ∀ k, fpR r u k → ¬ S k) : RfAt B w' r u L := ⟨h.rB, hc.keep h.hr (hS r (.inl rfl)), ownV_chg h.hu hc fun g hg => hS g (.inr hg)⟩
theorem RfAt.weak {B' : Nat} (h : RfAt B w r u L) (hB : B' ≤ B) : RfAt B' w r u L := ⟨Nat.le_trans hB h.rB, h.hr, ownV_weak h.hu hB⟩
theorem RfAt.c0 (h : RfAt B w r u L) : w.cell? ⟨r, 0, none⟩ = some u := by rw [cell_of_blk h.hr]; rfl
theorem RfAt.lnl (h : RfAt B w r u L) : ∀ (K : Value → M) (w1 : World) (Q : Value → World → Prop), lnl u K w1 Q = K (.int .i64 ((L.length : Nat) : Int)) w1 Q := by
  have := lnl_own h.hu
  rwa [List.length_map] at this
theorem f88_s (kk : ∀ w', Below w.heap.size w w' → Q (.string (zs 256)) w') : f88 w Q := by
  unfold f88
  refine mkI (n := 256) (B := w.heap.size) sl61 (by omega) (by omega) (Nat.le_refl _) fun v w1 ho hb => ?_
  try simp only [↓reduceIte, ↓LL, LM, Value.cells, Nat.reduceAdd, Option.some.injEq, exists_eq_left', decide_true, decide_false, if_true, if_false, reduceCtorEq, cond_true, cond_false]
  refine cvb sl61 ud5 str9 (rdP_rd (ownI_rdP ho)) ?_
  try simp only [↓reduceIte, ↓LL, LM, Value.cells, Nat.reduceAdd, Option.some.injEq, exists_eq_left', decide_true, decide_false, if_true, if_false, reduceCtorEq, cond_true, cond_false]
  exact kk w1 hb
theorem new6_loop {n : Nat} {j1 : Value → M} (hn : n ≤ 1000) (hrW : W.heap.size ≤ r) : ∀ (d m i : Nat) (w : World) (u : Value), i + d = n → d < m → Below W.heap.size W w → w.heap[r]? = some (.cells #[u] 102 (0, 0)) → ownV W.heap.size 9 w u ((List.replicate i (zs 256)).map .string) →
    (∀ w' u', Below W.heap.size W w' → w'.heap[r]? = some (.cells #[u'] 102 (0, 0)) → ownV W.heap.size 9 w' u' ((List.replicate n (zs 256)).map .string) → j1 (pv r) w' Q) →
    itr (fun _ _ _ => bot) (f41_b2 j1) m (.int .i64 ((n : Nat) : Int)) (pv r) (.int .i64 ((i : Nat) : Int)) w Q := by
  intro d
  induction d with
  | zero =>
    intro m i w u hi hm hb hr ho kk
    obtain ⟨m, rfl⟩ : ∃ x, m = x + 1 := ⟨m - 1, by omega⟩
    show f41_b2 j1 _ _ _ _ w Q
    unfold f41_b2
    have c : ¬ (i : Int) < (n : Nat) := by omega
    try simp only [↓reduceIte, ↓LL, LM, Value.cells, Nat.reduceAdd, Option.some.injEq, exists_eq_left', decide_true, decide_false, if_true, if_false, reduceCtorEq, cond_true, cond_false, c]
    have : i = n := by omega
    rw [this] at ho
    exact kk w u hb hr ho
  | succ d ih =>
    intro m i w u hi hm hb hr ho kk
    obtain ⟨m, rfl⟩ : ∃ x, m = x + 1 := ⟨m - 1, by omega⟩
    show f41_b2 j1 _ _ _ _ w Q
    unfold f41_b2
    have c : (i : Int) < (n : Nat) := by omega
    have h3 : IntKind.i64.wrap ((i : Int) + 1) = ((i + 1 : Nat) : Int) := by rw [w64 (by omega) (by omega)]; rfl
    have c0 : w.cell? ⟨r, 0, none⟩ = some u := by rw [cell_of_blk hr]; rfl
    try simp only [↓reduceIte, ↓LL, LM, Value.cells, Nat.reduceAdd, Option.some.injEq, exists_eq_left', decide_true, decide_false, if_true, if_false, reduceCtorEq, cond_true, cond_false, c, c0]
    refine f88_s fun w2 b2 => ?_
    have b2 := of_drw' b2
    have hr2 := stay b2 hr
    have hb2 := bt hb b2
    have ho2 := ownV_below ho b2
    have c2 : w2.cell? ⟨r, 0, none⟩ = some u := by rw [cell_of_blk hr2]; rfl
    try simp only [↓reduceIte, ↓LL, LM, Value.cells, Nat.reduceAdd, Option.some.injEq, exists_eq_left', decide_true, decide_false, if_true, if_false, reduceCtorEq, cond_true, cond_false]
    refine ⟨by rw [Kld_e]; exact c2, ?_⟩
    have b4 := b_psh w2 (.cells #[.string (zs 256)] 9)
    refine ap_Tk (by rw [Kld_e]; exact cell_below b4 c2) ho2 (by rw [List.length_replicate]; omega) hb2.size fun w5 u5 o5 hc5 fr5 => ?_
    have uT : ∀ g, u.ownBlock = some g → W.heap.size ≤ g ∧ g ≠ r := fun g hg => by
      obtain ⟨h1, _, cur, hcur⟩ := ownV_lt ho g hg
      exact ⟨h1, fun e => by rw [e, hr] at hcur; cases hcur⟩
    have hr5 := hc5.keep hr2 fun h => (uT r h).2 rfl
    have hb5 : Below W.heap.size W w5 := hb2.trans (hc5.below (fun k hk => (uT k hk).1) hb2.size)
    try simp only [↓reduceIte, ↓LL, LM, Value.cells, Nat.reduceAdd, Option.some.injEq, exists_eq_left', decide_true, decide_false, if_true, if_false, reduceCtorEq, cond_true, cond_false]
    refine st_box (o := 0) (v := u5) hr5 (show 0 < 1 by decide) (by obtain ⟨x, y, rfl⟩ := ownV_len o5; rfl) fun w6 hr6 u6 => ?_
    have hr6 : w6.heap[r]? = some (.cells #[u5] 102 (0, 0)) := hr6
    try simp only [↓reduceIte, ↓LL, LM, Value.cells, Nat.reduceAdd, Option.some.injEq, exists_eq_left', decide_true, decide_false, if_true, if_false, reduceCtorEq, cond_true, cond_false, h3]
    refine ih m (i + 1) w6 u5 (by omega) (by omega) (hb5.trans (u6.below hrW)) hr6 ?_ kk
    have e : List.replicate (i + 1) (zs 256) = List.replicate i (zs 256) ++ [zs 256] := List.replicate_succ'
    rw [e]
    exact ownV_stay o5 fun g hg => u6.block g fun e => by
      obtain ⟨_, _, cur, hcur⟩ := ownV_lt o5 g hg
      rw [e, hr5] at hcur; cases hcur
theorem f41_s {n : Nat} (hn : n ≤ 1000) (kk : ∀ w' r u, Below w.heap.size w w' → RfAt w.heap.size w' r u (List.replicate n (zs 256)) → Q (pv r) w') : f41 (.int .i64 ((n : Nat) : Int)) w Q := by
  unfold f41
  rw [smr_run (buildR0 w)]
  have b1 := b_psh w (.cells #[.slice none 0 0] 102)
  have r1 := blk_psh_new (w := w) (o := .cells #[.slice none 0 0] 102)
  try simp only [↓reduceIte, ↓LL, LM, Value.cells, Nat.reduceAdd, Option.some.injEq, exists_eq_left', decide_true, decide_false, if_true, if_false, reduceCtorEq, cond_true, cond_false]
  generalize psh w (.cells #[.slice none 0 0] 102) = w1 at *
  refine ⟨_, new6_loop (W := w) hn (Nat.le_refl _) n (n + 1) 0 w1 _ (by omega) (by omega) b1 r1 ownV_nil fun w2 u2 b2 r2 o2 => ?_⟩
  unfold f41_j1
  try simp only [↓reduceIte, ↓LL, LM, Value.cells, Nat.reduceAdd, Option.some.injEq, exists_eq_left', decide_true, decide_false, if_true, if_false, reduceCtorEq, cond_true, cond_false]
  exact kk w2 _ u2 b2 ⟨Nat.le_refl _, r2, o2⟩
/-- pages out of bounds? -/
theorem right_a {cs : List Ch} {j1 : Value → M} (hq : RfAt B W r u L) (hcs : rdS 2 (eR encC) W v cs) (hl : cs.length ≤ 31) (hL : L.length ≤ 1000000) : ∀ (d m i : Nat) (w : World), i + d = cs.length → d < m → Below W.heap.size W w → (∀ x ∈ cs.take i, 0 ≤ x.1 ∧ x.1 < (L.length : Int)) →
    (∀ w', Below W.heap.size W w' → (∃ c ∈ cs, c.1 < 0 ∨ (L.length : Int) ≤ c.1) → Q (.int .i64 7) w') → (∀ w', Below W.heap.size W w' → (∀ x ∈ cs, 0 ≤ x.1 ∧ x.1 < (L.length : Int)) → j1 v w' Q) →
    itr (fun _ _ _ => bot) (f45_b2 j1) m (pv r) v (.int .i64 ((i : Nat) : Int)) w Q := by
  intro d
  induction d with
  | zero =>
    intro m i w hi hm hb hall k7 kk
    obtain ⟨m, rfl⟩ : ∃ x, m = x + 1 := ⟨m - 1, by omega⟩
    show f45_b2 j1 _ _ _ _ w Q
    unfold f45_b2
    have lv := lnl_S hcs
    have cc : ¬ (i : Int) < (cs.length : Nat) := by omega
    try simp only [↓reduceIte, ↓LL, LM, Value.cells, Nat.reduceAdd, Option.some.injEq, exists_eq_left', decide_true, decide_false, if_true, if_false, reduceCtorEq, cond_true, cond_false, lv, cc]
    rw [List.take_of_length_le (by omega)] at hall
    exact kk w hb hall
  | succ d ih =>
    intro m i w hi hm hb hall k7 kk
    obtain ⟨m, rfl⟩ : ∃ x, m = x + 1 := ⟨m - 1, by omega⟩
    show f45_b2 j1 _ _ _ _ w Q
    unfold f45_b2
    have lv := lnl_S hcs
    have cc : (i : Int) < (cs.length : Nat) := by omega
    have hil : i < cs.length := by omega
    have h3 : IntKind.i64.wrap ((i : Int) + 1) = ((i + 1 : Nat) : Int) := by rw [w64 (by omega) (by omega)]; rfl
    obtain ⟨ad, es, he1, he2, he3, hia⟩ := rdS_at (rdS_below eR_st hb hcs) hil
    have he3 : es = encC cs[i] := he3
    have c0 : w.cell? (ad.add 0) = some (.int .i64 cs[i].1) := he2 0 _ (by rw [he3]; rfl)
    have hts : cs.take (i + 1) = cs.take i ++ [cs[i]] := List.take_succ_eq_append_getElem hil
    have hqw := hq.below hb
    have q0 := hqw.c0
    have lq := hqw.lnl
    have bd : Below W.heap.size W (drw w) := ⟨hb.os, hb.tape, hb.output, hb.size, hb.block⟩
    by_cases c1 : cs[i].1 < 0
    · try simp only [↓reduceIte, ↓LL, LM, Value.cells, Nat.reduceAdd, Option.some.injEq, exists_eq_left', decide_true, decide_false, if_true, if_false, reduceCtorEq, cond_true, cond_false, lv, cc, hia, c0, c1]
      exact k7 _ bd ⟨cs[i], List.getElem_mem hil, .inl c1⟩
    · by_cases c2 : (L.length : Int) ≤ cs[i].1
      · have c2' : cs[i].1 ≥ (L.length : Int) := c2
        try simp only [↓reduceIte, ↓LL, LM, Value.cells, Nat.reduceAdd, Option.some.injEq, exists_eq_left', decide_true, decide_false, if_true, if_false, reduceCtorEq, cond_true, cond_false, lv, cc, hia, c0, c1, q0, lq, c2, c2']
        exact k7 _ bd ⟨cs[i], List.getElem_mem hil, .inr c2⟩
      · have c2' : ¬ cs[i].1 ≥ (L.length : Int) := c2
        try simp only [↓reduceIte, ↓LL, LM, Value.cells, Nat.reduceAdd, Option.some.injEq, exists_eq_left', decide_true, decide_false, if_true, if_false, reduceCtorEq, cond_true, cond_false, lv, cc, hia, c0, c1, q0, lq, c2, c2', h3]
        refine ih m (i + 1) (drw w) (by omega) (by omega) bd (fun x hx => ?_) k7 kk
        rw [hts] at hx
        rcases List.mem_append.1 hx with hx | hx
        · exact hall x hx
        · rw [List.mem_singleton.1 hx]; omega
/-- one behind equal to another? -/
theorem right_c {cs : List Ch} {j5 : Value → Value → M} {i : Nat} (hcs : rdS 2 (eR encC) W v cs) (hl : cs.length ≤ 31) (hi : i < cs.length) : ∀ (d m k : Nat) (w : World), k + d = i → d < m → Below W.heap.size W w → ¬ cs[i].1 ∈ (cs.take k).map (·.1) →
    (∀ w', Below W.heap.size W w' → cs[i].1 ∈ (cs.take i).map (·.1) → Q (.int .i64 1) w') → (∀ w', Below W.heap.size W w' → ¬ cs[i].1 ∈ (cs.take i).map (·.1) → j5 v (.int .i64 ((i : Nat) : Int)) w' Q) →
    itr (fun _ _ _ => bot) (f45_b6 j5) m v (.int .i64 ((i : Nat) : Int)) (.int .i64 ((k : Nat) : Int)) w Q := by
  intro d
  induction d with
  | zero =>
    intro m k w hk hm hb hall k1 kk
    obtain ⟨m, rfl⟩ : ∃ x, m = x + 1 := ⟨m - 1, by omega⟩
    show f45_b6 j5 _ _ _ _ w Q
    unfold f45_b6
    have cc : ¬ (k : Int) < (i : Nat) := by omega
    try simp only [↓reduceIte, ↓LL, LM, Value.cells, Nat.reduceAdd, Option.some.injEq, exists_eq_left', decide_true, decide_false, if_true, if_false, reduceCtorEq, cond_true, cond_false, cc]
    have : k = i := by omega
    rw [this] at hall
    exact kk w hb hall
  | succ d ih =>
    intro m k w hk hm hb hall k1 kk
    obtain ⟨m, rfl⟩ : ∃ x, m = x + 1 := ⟨m - 1, by omega⟩
    show f45_b6 j5 _ _ _ _ w Q
    unfold f45_b6
    have cc : (k : Int) < (i : Nat) := by omega
    have hkl : k < cs.length := by omega
    have h3 : IntKind.i64.wrap ((k : Int) + 1) = ((k + 1 : Nat) : Int) := by rw [w64 (by omega) (by omega)]; rfl
    obtain ⟨ad, es, he1, he2, he3, hia⟩ := rdS_at (rdS_below eR_st hb hcs) hi
    obtain ⟨ad2, es2, hf1, hf2, hf3, hia2⟩ := rdS_at (rdS_below eR_st hb hcs) hkl
    have he3 : es = encC cs[i] := he3
    have hf3 : es2 = encC cs[k] := hf3
    have c0 : w.cell? (ad.add 0) = some (.int .i64 cs[i].1) := he2 0 _ (by rw [he3]; rfl)
    have c1 : w.cell? (ad2.add 0) = some (.int .i64 cs[k].1) := hf2 0 _ (by rw [hf3]; rfl)
    have hts : cs.take (k + 1) = cs.take k ++ [cs[k]] := List.take_succ_eq_append_getElem hkl
    have bd : Below W.heap.size W (drw w) := ⟨hb.os, hb.tape, hb.output, hb.size, hb.block⟩
    by_cases c2 : cs[i].1 = cs[k].1
    · try simp only [↓reduceIte, ↓LL, LM, Value.cells, Nat.reduceAdd, Option.some.injEq, exists_eq_left', decide_true, decide_false, if_true, if_false, reduceCtorEq, cond_true, cond_false, cc, hia, hia2, c0, c1, c2]
      refine k1 _ bd ?_
      rw [c2]
      exact List.mem_map.2 ⟨cs[k], List.mem_take_iff_getElem.2 ⟨k, by omega, rfl⟩, rfl⟩
    · try simp only [↓reduceIte, ↓LL, LM, Value.cells, Nat.reduceAdd, Option.some.injEq, exists_eq_left', decide_true, decide_false, if_true, if_false, reduceCtorEq, cond_true, cond_false, cc, hia, hia2, c0, c1, c2, h3]
      refine ih m (k + 1) (drw w) (by omega) (by omega) bd (fun hx => ?_) k1 kk
      rw [hts, List.map_append] at hx
      rcases List.mem_append.1 hx with hx | hx
      · exact hall hx
      · exact c2 (List.mem_singleton.1 hx)
theorem right_b {cs : List Ch} (hcs : rdS 2 (eR encC) W v cs) (hl : cs.length ≤ 31) (hrange : ∀ x ∈ cs, 0 ≤ x.1 ∧ x.1 < (L.length : Int)) : ∀ (d m i : Nat) (w : World), i + d = cs.length → d < m → Below W.heap.size W w → oddL (cs.take i) = false →
    (∀ w', Below W.heap.size W w' → Q (.int .i64 (mayB false L.length cs)) w') →
    itr (fun _ _ => bot) (f45_b4 f45_j3) m v (.int .i64 ((i : Nat) : Int)) w Q := by
  have e0 : mayB false L.length cs = if oddL cs = true then 1 else 0 := by
    unfold mayB
    rw [if_neg (by decide), if_neg (by omega), if_neg (fun ⟨x, hx, h⟩ => by have := hrange x hx; omega)]
  intro d
  induction d with
  | zero =>
    intro m i w hi hm hb hodd kk
    obtain ⟨m, rfl⟩ : ∃ x, m = x + 1 := ⟨m - 1, by omega⟩
    show f45_b4 f45_j3 _ _ _ w Q
    unfold f45_b4
    have lv := lnl_S hcs
    have cc : ¬ (i : Int) < (cs.length : Nat) := by omega
    try simp only [↓reduceIte, ↓LL, LM, Value.cells, Nat.reduceAdd, Option.some.injEq, exists_eq_left', decide_true, decide_false, if_true, if_false, reduceCtorEq, cond_true, cond_false, lv, cc]
    unfold f45_j3
    rw [List.take_of_length_le (by omega)] at hodd
    rw [hodd, if_neg (by decide)] at e0
    rw [e0] at kk
    try simp only [↓reduceIte, ↓LL, LM, Value.cells, Nat.reduceAdd, Option.some.injEq, exists_eq_left', decide_true, decide_false, if_true, if_false, reduceCtorEq, cond_true, cond_false]
    exact kk w hb
  | succ d ih =>
    intro m i w hi hm hb hodd kk
    obtain ⟨m, rfl⟩ : ∃ x, m = x + 1 := ⟨m - 1, by omega⟩
    show f45_b4 f45_j3 _ _ _ w Q
    unfold f45_b4
    have lv := lnl_S hcs
    have cc : (i : Int) < (cs.length : Nat) := by omega
    have hil : i < cs.length := by omega
    have h3 : IntKind.i64.wrap ((i : Int) + 1) = ((i + 1 : Nat) : Int) := by rw [w64 (by omega) (by omega)]; rfl
    obtain ⟨ad, es, he1, he2, he3, hia⟩ := rdS_at (rdS_below eR_st hb hcs) hil
    have he3 : es = encC cs[i] := he3
    have c0 : w.cell? (ad.add 1) = some (.string cs[i].2) := he2 1 _ (by rw [he3]; rfl)
    have hts : cs.take (i + 1) = cs.take i ++ [cs[i]] := List.take_succ_eq_append_getElem hil
    have odd1 : (cs[i].1 ∈ (cs.take i).map (·.1) ∨ cs[i].2.size ≠ 256) → oddL cs = true := by
      intro h
      unfold oddL
      refine decide_eq_true fun ⟨q1, q2⟩ => ?_
      rcases h with h | h
      · have : ((cs.take (i + 1)).map (·.1)).Nodup := by rw [List.map_take]; exact q1.sublist (List.take_sublist _ _)
        rw [hts, List.map_append, List.nodup_append] at this
        exact this.2.2 _ h _ (List.mem_singleton.2 rfl) rfl
      · exact h (q2 _ (List.getElem_mem hil))
    by_cases c1 : cs[i].2.size = 256
    · have c1' : ((cs[i].2.size : Nat) : Int) = 256 := by omega
      try simp only [↓reduceIte, ↓LL, LM, Value.cells, Nat.reduceAdd, Option.some.injEq, exists_eq_left', decide_true, decide_false, if_true, if_false, reduceCtorEq, cond_true, cond_false, lv, cc, hia, c0, c1', ne_eq]
      refine ⟨_, right_c (j5 := f45_j5 (itr (fun _ _ => bot) (f45_b4 f45_j3) m)) hcs hl hil i (i + 1) 0 w (by omega) (by omega) hb (by simp) (fun w' hb' hx => ?_) (fun w' hb' hx => ?_)⟩
      · rw [odd1 (.inl hx), if_pos rfl] at e0
        rw [e0] at kk
        exact kk w' hb'
      · unfold f45_j5
        try simp only [↓reduceIte, ↓LL, LM, Value.cells, Nat.reduceAdd, Option.some.injEq, exists_eq_left', decide_true, decide_false, if_true, if_false, reduceCtorEq, cond_true, cond_false, h3]
        refine ih m (i + 1) w' (by omega) (by omega) hb' ?_ kk
        rw [hts, oddL_snoc, hodd, decide_eq_false hx, decide_eq_false (fun h => h c1)]; rfl
    · have c1' : ¬ ((cs[i].2.size : Nat) : Int) = 256 := by omega
      try simp only [↓reduceIte, ↓LL, LM, Value.cells, Nat.reduceAdd, Option.some.injEq, exists_eq_left', decide_true, decide_false, if_true, if_false, reduceCtorEq, cond_true, cond_false, lv, cc, hia, c0, c1', ne_eq]
      rw [odd1 (.inr c1), if_pos rfl] at e0
      rw [e0] at kk
      exact kk w hb
theorem f45_s {cs : List Ch} (hq : RfAt B w r u L) (hcs : rdS 2 (eR encC) w v cs) (hL : L.length ≤ 1000000) (kk : ∀ w', Below w.heap.size w w' → Q (.int .i64 (mayB false L.length cs)) w') : f45 (pv r) v w Q := by
  unfold f45
  have lv := lnl_S hcs
  by_cases c : 31 < cs.length
  · have c1 : ((cs.length : Nat) : Int) > 31 := by omega
    have c2 : (31 : Int) < ((cs.length : Nat) : Int) := by omega
    have e : mayB false L.length cs = 3 := by unfold mayB; rw [if_neg (by decide), if_pos c]
    rw [e] at kk
    try simp only [↓reduceIte, ↓LL, LM, Value.cells, Nat.reduceAdd, Option.some.injEq, exists_eq_left', decide_true, decide_false, if_true, if_false, reduceCtorEq, cond_true, cond_false, lv, c1, c2]
    exact kk w (Below.refl _ _)
  · have c1 : ¬ ((cs.length : Nat) : Int) > 31 := by omega
    have c2 : ¬ (31 : Int) < ((cs.length : Nat) : Int) := by omega
    try simp only [↓reduceIte, ↓LL, LM, Value.cells, Nat.reduceAdd, Option.some.injEq, exists_eq_left', decide_true, decide_false, if_true, if_false, reduceCtorEq, cond_true, cond_false, lv, c1, c2]
    refine ⟨_, right_a (W := w) hq hcs (by omega) hL cs.length (cs.length + 1) 0 w (by omega) (by omega) (Below.refl _ _) (fun x hx => by simp at hx) (fun w' hb' hx => ?_) (fun w' hb' hx => ?_)⟩
    · have e : mayB false L.length cs = 7 := by unfold mayB; rw [if_neg (by decide), if_neg (by omega), if_pos hx]
      rw [e] at kk
      exact kk w' hb'
    · unfold f45_j1
      try simp only [↓reduceIte, ↓LL, LM, Value.cells, Nat.reduceAdd, Option.some.injEq, exists_eq_left', decide_true, decide_false, if_true, if_false, reduceCtorEq, cond_true, cond_false]
      exact ⟨_, right_b (W := w) (L := L) hcs (by omega) hx cs.length (cs.length + 1) 0 w' (by omega) (by omega) hb' rfl kk⟩
end
end Go.Proofs.YtongpnolikkknaaGreatDoor

set_option maxRecDepth 20000
set_option maxHeartbeats 4000000
namespace Go.Proofs.YtongpnolikkknaaGreatDoor
open Sh RowKit Go.MapKept
def pagesN (n : Int) : Nat := 1 + (um n 40).toNat
theorem pagesN_bd (n : Int) : 1 ≤ pagesN n ∧ pagesN n ≤ 40 := by
  have := um_bd n (show (0 : Int) < 40 by decide)
  unfold pagesN
  omega
theorem take_eq_of {l m : List ByteArray} {i : Nat} (h : l.take i = m.take i) (hl : i < l.length) (hm : i < m.length) (he : l[i] = m[i]) : l.take (i + 1) = m.take (i + 1) := by
  rw [List.take_succ_eq_append_getElem hl, List.take_succ_eq_append_getElem hm, h, he]
section
variable {B Bc : Nat} {W w w' : World} {q p b r : Nat} {v u vp : Value} {L : List ByteArray} {G : Pg} {D : Dv} {Q : Value → World → Prop}
theorem with_loop {cs : List Ch} {j1 : Value → M} (hr : RfAt W.heap.size w r u L) (hcs : rdS 2 (eR encC) W v cs) (hW : Below W.heap.size W w) (hl : cs.length ≤ 31) (hbd : ∀ x ∈ cs, 0 ≤ x.1 ∧ x.1 < (L.length : Int)) :
    ∀ (d m i : Nat) (w1 : World), i + d = cs.length → d < m → ChgS (fun k => u.ownBlock = some k) w w1 → ownV W.heap.size 9 w1 u ((setL L (cs.take i)).map .string) →
    (∀ w', ChgS (fun k => u.ownBlock = some k) w w' → ownV W.heap.size 9 w' u ((setL L cs).map .string) → j1 (pv r) w' Q) →
    itr (fun _ _ _ => bot) (f46_b2 j1) m v (pv r) (.int .i64 ((i : Nat) : Int)) w1 Q := by
  have uT : ∀ g, u.ownBlock = some g → W.heap.size ≤ g ∧ g ≠ r := fun g hg => by
    obtain ⟨h1, _, cur, hcur⟩ := ownV_lt hr.hu g hg
    exact ⟨h1, fun e => by rw [e, hr.hr] at hcur; cases hcur⟩
  intro d
  induction d with
  | zero =>
    intro m i w1 hi hm hc ho kk
    obtain ⟨m, rfl⟩ : ∃ x, m = x + 1 := ⟨m - 1, by omega⟩
    show f46_b2 j1 _ _ _ _ w1 Q
    unfold f46_b2
    have lv := lnl_S hcs
    have cc : ¬ (i : Int) < (cs.length : Nat) := by omega
    try simp only [↓reduceIte, ↓LL, LM, Value.cells, Nat.reduceAdd, Option.some.injEq, exists_eq_left', decide_true, decide_false, if_true, if_false, reduceCtorEq, cond_true, cond_false, lv, cc]
    rw [List.take_of_length_le (by omega)] at ho
    exact kk w1 hc ho
  | succ d ih =>
    intro m i w1 hi hm hc ho kk
    obtain ⟨m, rfl⟩ : ∃ x, m = x + 1 := ⟨m - 1, by omega⟩
    show f46_b2 j1 _ _ _ _ w1 Q
    unfold f46_b2
    have lv := lnl_S hcs
    have cc : (i : Int) < (cs.length : Nat) := by omega
    have hil : i < cs.length := by omega
    have h3 : IntKind.i64.wrap ((i : Int) + 1) = ((i + 1 : Nat) : Int) := by rw [w64 (by omega) (by omega)]; rfl
    have hb1 : Below W.heap.size W w1 := hW.trans (hc.below (fun k hk => (uT k hk).1) hW.size)
    obtain ⟨ad, es, he1, he2, he3, hia⟩ := rdS_at (rdS_below eR_st hb1 hcs) hil
    have he3 : es = encC cs[i] := he3
    have c0 : w1.cell? (ad.add 0) = some (.int .i64 cs[i].1) := he2 0 _ (by rw [he3]; rfl)
    have c1 : w1.cell? (ad.add 1) = some (.string cs[i].2) := he2 1 _ (by rw [he3]; rfl)
    have hts : cs.take (i + 1) = cs.take i ++ [cs[i]] := List.take_succ_eq_append_getElem hil
    obtain ⟨n0, n1⟩ := hbd _ (List.getElem_mem hil)
    generalize cs[i] = x at *
    obtain ⟨n, s⟩ := x
    obtain ⟨n, rfl⟩ := Int.eq_ofNat_of_zero_le n0
    have n1 : ((n : Nat) : Int) < (L.length : Int) := n1
    have hr1 := hc.keep hr.hr fun h => (uT r h).2 rfl
    have q0 : w1.cell? ⟨r, 0, none⟩ = some u := by rw [cell_of_blk hr1]; rfl
    try simp only [↓reduceIte, ↓LL, LM, Value.cells, Nat.reduceAdd, Option.some.injEq, exists_eq_left', decide_true, decide_false, if_true, if_false, reduceCtorEq, cond_true, cond_false, lv, cc, hia, c0, c1, q0]
    refine ia_stV (w := drw w1) (show ownV W.heap.size 9 (drw w1) u _ from ho) (i := n) (by rw [List.length_map, setL_len]; omega) rfl fun w3 g3 hg3 o3 up3 => ?_
    have es3 : ((setL L (cs.take i)).map Value.string).set n (.string s) = (setL L (cs.take (i + 1))).map .string := by rw [hts, setL_snoc, List.map_set]; rfl
    rw [es3] at o3
    try simp only [↓reduceIte, ↓LL, LM, Value.cells, Nat.reduceAdd, Option.some.injEq, exists_eq_left', decide_true, decide_false, if_true, if_false, reduceCtorEq, cond_true, cond_false, h3]
    exact ih m (i + 1) w3 (by omega) (by omega) (hc.drw.trans (ChgS.of_upd up3 hg3) fun _ _ h => h) o3 kk
theorem f46_s {cs : List Ch} (hq : RfAt B w r u L) (hcs : rdS 2 (eR encC) w v cs) (hl : cs.length ≤ 31) (hbd : ∀ x ∈ cs, 0 ≤ x.1 ∧ x.1 < (L.length : Int)) (hL : L.length ≤ 1000)
    (kk : ∀ w' r' u', Below w.heap.size w w' → RfAt w.heap.size w' r' u' (setL L cs) → Q (pv r') w') : f46 (pv r) v w Q := by
  unfold f46
  have c0 := hq.c0
  try simp only [↓reduceIte, ↓LL, LM, Value.cells, Nat.reduceAdd, Option.some.injEq, exists_eq_left', decide_true, decide_false, if_true, if_false, reduceCtorEq, cond_true, cond_false, c0]
  refine ap_E (B := w.heap.size) (l := []) (m := L) slS rfl (by decide) encT_len encT_one ownE_nil (ownE_rd encT_len (by decide) (ownV_T hq.hu)) (by rw [List.length_nil]; unfold maxLen; omega) (by rw [List.length_nil]; omega) (Nat.le_refl _) fun v2 w2 o2 g2 f2 => ?_
  have hc2 : ChgS (fun _ => False) w w2 := ChgS.grown g2 fun k hk => by cases hk
  have b2 : Below w.heap.size w w2 := hc2.below (fun k hk => hk.elim) (Nat.le_refl _)
  have o2 : ownV w.heap.size 9 w2 v2 (L.map .string) := ownT_V o2
  have ow := o2
  obtain ⟨pp, cc, rfl⟩ := ownV_len o2
  try simp only [↓reduceIte, ↓LL, LM, Value.cells, Nat.reduceAdd, Option.some.injEq, exists_eq_left', decide_true, decide_false, if_true, if_false, reduceCtorEq, cond_true, cond_false]
  rw [smr_run (buildR1 _ _ _ w2)]
  have b3 := b_psh w2 (.cells #[.slice pp (L.map Value.string).length cc] 102)
  have r3 := blk_psh_new (w := w2) (o := .cells #[.slice pp (L.map Value.string).length cc] 102)
  have o3 := ownV_below o2 b3
  have b03 := bt b2 b3
  try simp only [↓reduceIte, ↓LL, LM, Value.cells, Nat.reduceAdd, Option.some.injEq, exists_eq_left', decide_true, decide_false, if_true, if_false, reduceCtorEq, cond_true, cond_false]
  generalize psh w2 (.cells #[.slice pp (L.map Value.string).length cc] 102) = w3 at *
  have s2 := b2.size
  refine ⟨_, with_loop (W := w) (w := w3) ⟨s2, r3, o3⟩ hcs b03 hl hbd cs.length (cs.length + 1) 0 w3 (by omega) (by omega) (ChgS.refl _ _) o3 fun w4 hc4 o4 => ?_⟩
  have uT : ∀ g, (Value.slice pp (L.map Value.string).length cc).ownBlock = some g → w.heap.size ≤ g ∧ g ≠ w2.heap.size := fun g hg => by
    obtain ⟨h1, _, cur, hcur⟩ := ownV_lt o3 g hg
    exact ⟨h1, fun e => by rw [e, r3] at hcur; cases hcur⟩
  unfold f46_j1
  try simp only [↓reduceIte, ↓LL, LM, Value.cells, Nat.reduceAdd, Option.some.injEq, exists_eq_left', decide_true, decide_false, if_true, if_false, reduceCtorEq, cond_true, cond_false]
  exact kk w4 _ _ (b03.trans (hc4.below (fun k hk => (uT k hk).1) b03.size)) ⟨s2, hc4.keep r3 fun h => (uT _ h).2 rfl, o4⟩
theorem same_loop (hp : w.heap[q]? = some (.cells #[pv p, u, .bool G.st, .int .i64 G.c] 133 (0, 0))) (hu : ownV B 9 w u (G.L.map .string)) (hr : RfAt Bc w r v L) (hlen : G.L.length = L.length) (hL : L.length ≤ 1000) :
    ∀ (d m i : Nat), i + d = L.length → d < m → G.L.take i = L.take i → Q (.bool (decide (G.L = L))) w →
    itr (fun _ _ _ => bot) (f49_b2 f49_j1) m (pv q) (pv r) (.int .i64 ((i : Nat) : Int)) w Q := by
  intro d
  induction d with
  | zero =>
    intro m i hi hm ht kk
    obtain ⟨m, rfl⟩ : ∃ x, m = x + 1 := ⟨m - 1, by omega⟩
    show f49_b2 f49_j1 _ _ _ _ w Q
    unfold f49_b2
    have q0 := hr.c0
    have lr := hr.lnl
    have cc : ¬ (i : Int) < (L.length : Nat) := by omega
    try simp only [↓reduceIte, ↓LL, LM, Value.cells, Nat.reduceAdd, Option.some.injEq, exists_eq_left', decide_true, decide_false, if_true, if_false, reduceCtorEq, cond_true, cond_false, q0, lr, cc]
    unfold f49_j1
    try simp only [↓reduceIte, ↓LL, LM, Value.cells, Nat.reduceAdd, Option.some.injEq, exists_eq_left', decide_true, decide_false, if_true, if_false, reduceCtorEq, cond_true, cond_false]
    have : G.L = L := by
      rw [List.take_of_length_le (by omega), List.take_of_length_le (by omega)] at ht
      exact ht
    rw [decide_eq_true this] at kk
    exact kk
  | succ d ih =>
    intro m i hi hm ht kk
    obtain ⟨m, rfl⟩ : ∃ x, m = x + 1 := ⟨m - 1, by omega⟩
    show f49_b2 f49_j1 _ _ _ _ w Q
    unfold f49_b2
    have q0 := hr.c0
    have lr := hr.lnl
    have cc : (i : Int) < (L.length : Nat) := by omega
    have hil : i < L.length := by omega
    have hig : i < G.L.length := by omega
    have h3 : IntKind.i64.wrap ((i : Int) + 1) = ((i + 1 : Nat) : Int) := by rw [w64 (by omega) (by omega)]; rfl
    obtain ⟨g, hia, hc, _⟩ := cell_V hr.hu (i := i) (by rw [List.length_map]; exact hil)
    rw [List.getElem_map] at hc
    have ep : pgR G.L ((i : Nat) : Int) = (G.L[i], 0) := by
      unfold pgR
      rw [if_pos (by omega), Int.toNat_natCast, List.getD_eq_getElem?_getD, List.getElem?_eq_getElem hig]; rfl
    try simp only [↓reduceIte, ↓LL, LM, Value.cells, Nat.reduceAdd, Option.some.injEq, exists_eq_left', decide_true, decide_false, if_true, if_false, reduceCtorEq, cond_true, cond_false, q0, lr, cc]
    refine f78_s hp hu ?_
    rw [ep]
    by_cases c : G.L[i] = L[i]
    · try simp only [↓reduceIte, ↓LL, LM, Value.cells, Nat.reduceAdd, Option.some.injEq, exists_eq_left', decide_true, decide_false, if_true, if_false, reduceCtorEq, cond_true, cond_false, get0, get1, ne_eq, q0, hia, hc, c, h3]
      exact ih m (i + 1) (by omega) (by omega) (take_eq_of ht hig hil c) kk
    · have : ¬ G.L = L := by
        intro e
        exact c (by simp [e])
      rw [decide_eq_false this] at kk
      try simp only [↓reduceIte, ↓LL, LM, Value.cells, Nat.reduceAdd, Option.some.injEq, exists_eq_left', decide_true, decide_false, if_true, if_false, reduceCtorEq, cond_true, cond_false, get0, get1, ne_eq, q0, hia, hc, c]
      exact kk
theorem f49_s (hp : w.heap[q]? = some (.cells #[pv p, u, .bool G.st, .int .i64 G.c] 133 (0, 0))) (hu : ownV B 9 w u (G.L.map .string)) (hr : RfAt Bc w r v L) (hL : L.length ≤ 1000) (kk : ∀ w', Below w.heap.size w w' → Q (.bool (decide (G.L = L))) w') : f49 (pv q) (pv r) w Q := by
  unfold f49
  have bd : Below w.heap.size w (drw w) := ⟨rfl, rfl, rfl, Nat.le_refl _, fun _ _ => rfl⟩
  have hr' : RfAt Bc (drw w) r v L := hr.below bd
  have hp' : (drw w).heap[q]? = some (.cells #[pv p, u, .bool G.st, .int .i64 G.c] 133 (0, 0)) := hp
  have hu' : ownV B 9 (drw w) u (G.L.map .string) := hu
  have q0 := hr'.c0
  have q0' := hr.c0
  have lr := hr'.lnl
  try simp only [↓reduceIte, ↓LL, LM, Value.cells, Nat.reduceAdd, Option.some.injEq, exists_eq_left', decide_true, decide_false, if_true, if_false, reduceCtorEq, cond_true, cond_false, q0, q0', lr]
  refine f79_s hp' hu' ?_
  try simp only [↓reduceIte, ↓LL, LM, Value.cells, Nat.reduceAdd, Option.some.injEq, exists_eq_left', decide_true, decide_false, if_true, if_false, reduceCtorEq, cond_true, cond_false]
  refine ⟨by rw [Kld_e]; exact q0, ?_⟩
  by_cases c : G.L.length = L.length
  · have c1 : ((G.L.length : Nat) : Int) = (L.length : Int) := by omega
    try simp only [↓reduceIte, ↓LL, LM, Value.cells, Nat.reduceAdd, Option.some.injEq, exists_eq_left', decide_true, decide_false, if_true, if_false, reduceCtorEq, cond_true, cond_false, ne_eq, c1]
    exact ⟨_, same_loop hp' hu' hr' c hL L.length (L.length + 1) 0 (by omega) (by omega) rfl (kk _ bd)⟩
  · have c1 : ¬ ((G.L.length : Nat) : Int) = (L.length : Int) := by omega
    have := kk _ bd
    rw [decide_eq_false (fun e => c (by rw [e]))] at this
    try simp only [↓reduceIte, ↓LL, LM, Value.cells, Nat.reduceAdd, Option.some.injEq, exists_eq_left', decide_true, decide_false, if_true, if_false, reduceCtorEq, cond_true, cond_false, ne_eq, c1]
    exact this
theorem f36_s {n : Int} (kk : Q (.int .i64 ((pagesN n : Nat) : Int)) w) : f36 (.int .i64 n) w Q := by
  unfold f36
  have h := um_bd n (show (0 : Int) < 40 by decide)
  have e1 : (IntKind.u64.wrap n).tmod 40 = um n 40 := rfl
  have e2 : IntKind.i64.wrap (um n 40) = um n 40 := w64 (by omega) (by omega)
  have e3 : IntKind.i64.wrap (1 + um n 40) = ((pagesN n : Nat) : Int) := by rw [w64 (by omega) (by omega)]; unfold pagesN; omega
  have z : ¬ (40 : Int) = 0 := by decide
  try simp only [↓reduceIte, ↓LL, LM, Value.cells, Nat.reduceAdd, Option.some.injEq, exists_eq_left', decide_true, decide_false, if_true, if_false, reduceCtorEq, cond_true, cond_false, e1, e2, e3, z]
  first
    | exact kk
    | exact ⟨by decide, kk⟩
    | skip
  try simp only [↓reduceIte, ↓LL, LM, Value.cells, Nat.reduceAdd, Option.some.injEq, exists_eq_left', decide_true, decide_false, if_true, if_false, reduceCtorEq, cond_true, cond_false, e1, e2, e3, z]
  try exact kk
theorem f37_s {α : Type} {R : RepT α} {l : List α} (h : rdS 2 R w v l) (kk : ∀ v', rdS 2 R w v' (l.take 30) → Q v' w) : f37 v w Q := by
  unfold f37
  have lv := lnl_S h
  have e : (if (30 : Int) < ((l.length : Nat) : Int) then (30 : Int) else ((l.length : Nat) : Int)) = ((min l.length 30 : Nat) : Int) := by split <;> omega
  try simp only [↓reduceIte, ↓LL, LM, Value.cells, Nat.reduceAdd, Option.some.injEq, exists_eq_left', decide_true, decide_false, if_true, if_false, reduceCtorEq, cond_true, cond_false, lv, e]
  refine sll_S h (k := min l.length 30) (by omega) fun v' hv' => ?_
  try simp only [↓reduceIte, ↓LL, LM, Value.cells, Nat.reduceAdd, Option.some.injEq, exists_eq_left', decide_true, decide_false, if_true, if_false, reduceCtorEq, cond_true, cond_false]
  refine kk v' ?_
  have : l.take (min l.length 30) = l.take 30 := by
    rcases Nat.le_total l.length 30 with c | c
    · rw [Nat.min_eq_left c, List.take_of_length_le (Nat.le_refl _), List.take_of_length_le c]
    · rw [Nat.min_eq_right c]
  rw [← this]
  exact hv'
end
end Go.Proofs.YtongpnolikkknaaGreatDoor

set_option maxRecDepth 20000
set_option maxHeartbeats 4000000
namespace Go.Proofs.YtongpnolikkknaaGreatDoor
open Sh RowKit Go.MapKept
theorem nd0 (k : Nat) : 0 ≤ (newD k).c := Int.le_refl 0
theorem nd1 (k : Nat) : (newD k).c + 200 ≤ 1000000 := by show (0 + 200 : Int) ≤ 1000000; decide
def anyG (m : Nat) (l : List Int) (f0 : Int) : Int := if l.any (fun x => decide ((m : Int) ≤ x)) = true then 10 else f0
section
variable {B : Nat} {W w w' : World} {q p b : Nat} {v u : Value} {D : Dv} {Q : Value → World → Prop}
end
end Go.Proofs.YtongpnolikkknaaGreatDoor

/-
  DERIVED: THE SHELF's CONTRACTS AT THIS DUMP, IN PLAIN WORDS (tools/lay-plain.mjs out of 'TryzKeptZ.lean', which tools/lay-shelf.mjs wrote): THE SAME DECLARATIONS UNDER THE SAME NAMES: 'import', 'namespace', 'open', 'def', 'theorem' AND NOTHING ELSE: no command of the shelf's: FOR A HAND-IN. Each laying: the table of numbers ('.._ren') and one theorem, a field a fact of the dump's own or the kernel's comparison; each contract: ONE APPLICATION.
-/
namespace Go.Proofs
open Go.Shelf
def YtongpnolikkknaaGreatDoor.keysA_ren : Go.Shelf.Ren := ⟨fun | 7 => 93 | 10 => 122 | n => n, fun | 23 => 128 | 26 => 3 | 3 => 145 | 28 => 142 | 0 => 0 | 27 => 141 | 33 => 60 | 4 => 4 | n => n, fun | n => n⟩
theorem YtongpnolikkknaaGreatDoor.keysA : Go.Proofs.SlLaysZI.n7 Tryz.prog YtongpnolikkknaaGreatDoor.keysA_ren := {
  mixed := by kernel_rfl
  f7 := ⟨Tryz.f93.name, by decide, Tryz.func93.trans (congrArg some (by kernel_rfl))⟩
  f10 := ⟨Tryz.f122.name, by decide, Tryz.func122.trans (congrArg some (by kernel_rfl))⟩
  t0 := Tryz.underlying0
  a0 := Tryz.isAgg0
  z0 := Tryz.sizeOf0
  v0 := Tryz.zeroValue0
  t4 := Tryz.underlying4
  a4 := Tryz.isAgg4
  z4 := Tryz.sizeOf4
  v4 := Tryz.zeroValue4
  t23 := Tryz.underlying128
  a23 := Tryz.isAgg128
  z23 := Tryz.sizeOf128
  v23 := Tryz.zeroValue128
  t26 := Tryz.underlying3
  a26 := Tryz.isAgg3
  z26 := Tryz.sizeOf3
  v26 := Tryz.zeroValue3
  t27 := Tryz.underlying141
  a27 := Tryz.isAgg141
  z27 := Tryz.sizeOf141
  v27 := Tryz.zeroValue141
  t28 := Tryz.underlying142
  a28 := Tryz.isAgg142
  z28 := Tryz.sizeOf142
  v28 := Tryz.zeroValue142
  t33 := Tryz.underlying60
  a33 := Tryz.isAgg60
  z33 := Tryz.sizeOf60
  v33 := Tryz.zeroValue60 }
def YtongpnolikkknaaGreatDoor.sortedA_ren : Go.Shelf.Ren := ⟨fun | 6 => 92 | 8 => 120 | 9 => 121 | 11 => 151 | 13 => 153 | 12 => 152 | 23 => 181 | 24 => 182 | 14 => 172 | 15 => 173 | 16 => 174 | 17 => 175 | 18 => 176 | 19 => 177 | 20 => 178 | 21 => 179 | 22 => 180 | 25 => 189 | 26 => 190 | 27 => 191 | 28 => 192 | 29 => 193 | 30 => 194 | 31 => 198 | n => n, fun | 26 => 3 | 28 => 142 | 24 => 22 | 0 => 0 | 3 => 3 | 37 => 37 | 48 => 198 | 50 => 185 | 4 => 4 | 40 => 218 | 39 => 217 | 45 => 223 | 5 => 5 | 9 => 9 | 51 => 234 | 55 => 238 | 57 => 241 | 58 => 242 | 33 => 60 | n => n, fun | n => n⟩
theorem YtongpnolikkknaaGreatDoor.sortedA : Go.Proofs.SlLaysZI.n6 Tryz.prog YtongpnolikkknaaGreatDoor.sortedA_ren := {
  mixed := by kernel_rfl
  f6 := ⟨Tryz.f92.name, by decide, Tryz.func92.trans (congrArg some (by kernel_rfl))⟩
  f8 := ⟨Tryz.f120.name, by decide, Tryz.func120.trans (congrArg some (by kernel_rfl))⟩
  f11 := ⟨Tryz.f151.name, by decide, Tryz.func151.trans (congrArg some (by kernel_rfl))⟩
  t0 := Tryz.underlying0
  a0 := Tryz.isAgg0
  z0 := Tryz.sizeOf0
  v0 := Tryz.zeroValue0
  t24 := Tryz.underlying22
  a24 := Tryz.isAgg22
  z24 := Tryz.sizeOf22
  v24 := Tryz.zeroValue22
  t26 := Tryz.underlying3
  a26 := Tryz.isAgg3
  z26 := Tryz.sizeOf3
  v26 := Tryz.zeroValue3
  t28 := Tryz.underlying142
  a28 := Tryz.isAgg142
  z28 := Tryz.sizeOf142
  v28 := Tryz.zeroValue142
  i26 := by kernel_rfl }
def YtongpnolikkknaaGreatDoor.sortA_ren : Go.Shelf.Ren := ⟨fun | 5 => 121 | 8 => 153 | 7 => 152 | 19 => 181 | 20 => 182 | 10 => 172 | 11 => 173 | 12 => 174 | 13 => 175 | 14 => 176 | 15 => 177 | 16 => 178 | 17 => 179 | 18 => 180 | 30 => 189 | 31 => 190 | 32 => 191 | 33 => 192 | 34 => 193 | 35 => 194 | 40 => 198 | n => n, fun | 23 => 22 | 25 => 3 | 3 => 3 | 32 => 37 | 22 => 22 | 0 => 0 | 44 => 198 | 46 => 185 | 4 => 4 | 36 => 218 | 35 => 217 | 41 => 223 | 5 => 5 | 9 => 9 | 53 => 234 | 57 => 238 | 63 => 241 | 64 => 242 | n => n, fun | n => n⟩
theorem YtongpnolikkknaaGreatDoor.sortA : Go.Proofs.SlLaysM.n5 Tryz.prog YtongpnolikkknaaGreatDoor.sortA_ren := {
  mixed := by kernel_rfl
  f5 := ⟨Tryz.f121.name, by decide, Tryz.func121.trans (congrArg some (by kernel_rfl))⟩
  f7 := ⟨Tryz.f152.name, by decide, Tryz.func152.trans (congrArg some (by kernel_rfl))⟩
  f8 := Tryz.func153.trans (congrArg some (by kernel_rfl))
  f10 := ⟨Tryz.f172.name, by decide, Tryz.func172.trans (congrArg some (by kernel_rfl))⟩
  f11 := ⟨Tryz.f173.name, by decide, Tryz.func173.trans (congrArg some (by kernel_rfl))⟩
  f12 := ⟨Tryz.f174.name, by decide, Tryz.func174.trans (congrArg some (by kernel_rfl))⟩
  f13 := ⟨Tryz.f175.name, by decide, Tryz.func175.trans (congrArg some (by kernel_rfl))⟩
  f14 := ⟨Tryz.f176.name, by decide, Tryz.func176.trans (congrArg some (by kernel_rfl))⟩
  f15 := ⟨Tryz.f177.name, by decide, Tryz.func177.trans (congrArg some (by kernel_rfl))⟩
  f16 := ⟨Tryz.f178.name, by decide, Tryz.func178.trans (congrArg some (by kernel_rfl))⟩
  f17 := ⟨Tryz.f179.name, by decide, Tryz.func179.trans (congrArg some (by kernel_rfl))⟩
  f18 := ⟨Tryz.f180.name, by decide, Tryz.func180.trans (congrArg some (by kernel_rfl))⟩
  f19 := Tryz.func181.trans (congrArg some (by kernel_rfl))
  f20 := Tryz.func182.trans (congrArg some (by kernel_rfl))
  f30 := ⟨Tryz.f189.name, by decide, Tryz.func189.trans (congrArg some (by kernel_rfl))⟩
  f31 := Tryz.func190.trans (congrArg some (by kernel_rfl))
  f32 := Tryz.func191.trans (congrArg some (by kernel_rfl))
  f33 := ⟨Tryz.f192.name, by decide, Tryz.func192.trans (congrArg some (by kernel_rfl))⟩
  f34 := ⟨Tryz.f193.name, by decide, Tryz.func193.trans (congrArg some (by kernel_rfl))⟩
  f35 := ⟨Tryz.f194.name, by decide, Tryz.func194.trans (congrArg some (by kernel_rfl))⟩
  f40 := ⟨Tryz.f198.name, by decide, Tryz.func198.trans (congrArg some (by kernel_rfl))⟩
  t0 := Tryz.underlying0
  a0 := Tryz.isAgg0
  z0 := Tryz.sizeOf0
  v0 := Tryz.zeroValue0
  t3 := Tryz.underlying3
  a3 := Tryz.isAgg3
  z3 := Tryz.sizeOf3
  v3 := Tryz.zeroValue3
  t4 := Tryz.underlying4
  a4 := Tryz.isAgg4
  z4 := Tryz.sizeOf4
  v4 := Tryz.zeroValue4
  t5 := Tryz.underlying5
  a5 := Tryz.isAgg5
  z5 := Tryz.sizeOf5
  v5 := Tryz.zeroValue5
  t9 := Tryz.underlying9
  a9 := Tryz.isAgg9
  z9 := Tryz.sizeOf9
  v9 := Tryz.zeroValue9
  t22 := Tryz.underlying22
  a22 := Tryz.isAgg22
  z22 := Tryz.sizeOf22
  v22 := Tryz.zeroValue22
  t23 := Tryz.underlying22
  a23 := Tryz.isAgg22
  z23 := Tryz.sizeOf22
  v23 := Tryz.zeroValue22
  t25 := Tryz.underlying3
  a25 := Tryz.isAgg3
  z25 := Tryz.sizeOf3
  v25 := Tryz.zeroValue3
  t32 := Tryz.underlying37
  a32 := Tryz.isAgg37
  z32 := Tryz.sizeOf37
  v32 := Tryz.zeroValue37
  t35 := Tryz.underlying217
  a35 := Tryz.isAgg217
  z35 := Tryz.sizeOf217
  v35 := Tryz.zeroValue217
  t36 := Tryz.underlying218
  a36 := Tryz.isAgg218
  z36 := Tryz.sizeOf218
  v36 := Tryz.zeroValue218
  t41 := Tryz.underlying223
  a41 := Tryz.isAgg223
  z41 := Tryz.sizeOf223
  v41 := Tryz.zeroValue223
  t44 := Tryz.underlying198
  a44 := Tryz.isAgg198
  z44 := Tryz.sizeOf198
  v44 := Tryz.zeroValue198
  t46 := Tryz.underlying185
  a46 := Tryz.isAgg185
  z46 := Tryz.sizeOf185
  v46 := Tryz.zeroValue185
  t53 := Tryz.underlying234
  a53 := Tryz.isAgg234
  z53 := Tryz.sizeOf234
  v53 := Tryz.zeroValue234
  t57 := Tryz.underlying238
  a57 := Tryz.isAgg238
  z57 := Tryz.sizeOf238
  v57 := Tryz.zeroValue238
  t63 := Tryz.underlying241
  a63 := Tryz.isAgg241
  z63 := Tryz.sizeOf241
  v63 := Tryz.zeroValue241
  t64 := Tryz.underlying242
  a64 := Tryz.isAgg242
  z64 := Tryz.sizeOf242
  v64 := Tryz.zeroValue242 }
end Go.Proofs

namespace Go.Proofs.YtongpnolikkknaaGreatDoor
open Go.Shelf
open Sh RowKit Go.Maps Go.Sort
theorem sortsA (m : Nat) : AnyZI.SortsIn Tryz.prog sortedA_ren Fence.wide m :=
  ⟨fun blk off cap ss W hH hblk hsz => callsIn_wide.2 (AnyM.slices_Sort_int sortA blk off cap ss W hH hblk hsz),
   fun p cap W => callsIn_wide.2 (AnyM.slices_Sort_int_none sortA p cap W)⟩
abbrev R0 : Value → Option (DataW Unit × List MemPlace) := fun _ => some (.map [], [])
theorem sorted_c {w : World} {b nn : Nat} {D0 : DataW Unit} (hown : w.ownsMap Tryz.prog 3 R0 b nn D0) (hmax : Maps.size D0 ≤ maxLen) (hbytes : Maps.size D0 * 8 ≤ 140737488355328) :
    Calls Tryz.prog 92 #[.func (.func 122) #[] #[.pointer (some ⟨w.heap.size, 0, none⟩)]] (w.alloc (.cells #[.map (some b)] 128)) fun e w' => ∃ (v : Value) (ss : List Int), e = .returned v ∧ ss.Perm (intKeys D0) ∧
      w'.ownsRow (w.heap.size + 1) 3 1 v ss.length ((ss.mergeSort (fun x y => decide (x ≤ y))).map encZ) ∧ Below (w.heap.size + 1) (w.alloc (.cells #[.map (some b)] 128)) w' := by
  refine (callsIn_wide (n := 5)).1 ?_
  have hbl := hown.lt
  have hseq : SeqGives Fence.wide 2 Tryz.prog 122 #[.pointer (some ⟨w.heap.size, 0, none⟩)] encZ (fun ss => ss.Perm (intKeys D0)) (Maps.size D0) (w.alloc (.cells #[.map (some b)] 128)) :=
    AnyZI.keys_gives (ρ := keysA_ren) { keysA with } Fence.wide _ trivial rfl (by omega) w.heap.size b nn D0 _ (by simp) (by simp) (by
      obtain ⟨es, clock, hb, Ft, hs, hD⟩ := hown
      exact ⟨es, clock, (Below.heap_alloc _ _ b hbl).trans hb, Ft, hs, hD⟩)
  have cS := AnyZI.sorted_in sortedA Fence.wide 5 trivial trivial trivial trivial rfl (by omega) (sortsA _) (enters_of Tryz.func121 (by kernel_rfl) rfl) 122 #[.pointer (some ⟨w.heap.size, 0, none⟩)] trivial (enters_of Tryz.func122 (by kernel_rfl) rfl) _ _ hmax hbytes _ hseq
  change CallsIn _ _ Tryz.prog 92 _ _ _ at cS
  refine cS.mono ?_
  rintro e w' ⟨v, ss, rfl, hS, hrow, hnil, hb⟩
  have hrow2 : w'.ownsRow (w.heap.size + 1) 3 1 v ss.length ((ss.mergeSort (fun x y => decide (x ≤ y))).map encZ) := by
    have := hrow
    simp only [World.size_alloc] at this
    exact this
  exact ⟨v, ss, rfl, hS, hrow2, by simpa using hb⟩
open Go.WideElems in
theorem ownsMap_of {w : World} {b : Nat} {L : List (Int × Value)} (h : MapAt kI w b L) (hk : ∀ p ∈ L, 0 ≤ p.1 ∧ p.1 < 4096) (hL : L.length ≤ 4096) :
    ∃ D0 : DataW Unit, w.ownsMap Tryz.prog 3 R0 b L.length D0 ∧ (intKeys D0).Perm (L.map (·.1)) ∧ Maps.size D0 = L.length := by
  obtain ⟨es, clock, h1, h2, h3⟩ := h
  have hlen : es.size = L.length := by have := congrArg List.length h3; simpa using this
  have hrd : ∀ x ∈ es.toList, ∃ i : Int, (∃ v, (i, v) ∈ L) ∧ x.key = .int .i64 i ∧ WideElems.rd (H := Unit) Tryz.prog 3 R0 x = some (.int .i64 i, .map []) := by
    intro x hx
    have : (x.key, x.val) ∈ L.map (fun p => (kI p.1, p.2)) := h3 ▸ List.mem_map.2 ⟨x, hx, rfl⟩
    obtain ⟨p, hp, e⟩ := List.mem_map.1 this
    have e1 : x.key = kI p.1 := (Prod.mk.inj e).1.symm
    have hr := hk p hp
    have hw : (Lit.int .i64 p.1).wf = true := by
      unfold Lit.wf; simp [IntKind.min, IntKind.max, IntKind.signed, IntKind.bits]; omega
    refine ⟨p.1, ⟨p.2, hp⟩, e1, ?_⟩
    unfold WideElems.rd
    rw [e1, show kI p.1 = .int .i64 p.1 from rfl, Go.Maps.keyOf_int_mk Tryz.underlying3 hw]
    rfl
  refine ⟨.map ((es.toList.map (rg Tryz.prog 3 R0)).foldr DataW.insert []), ⟨es, clock, h1, ⟨by rw [hlen]; unfold maxLen; omega, h2, fun x hx => ?_⟩, by omega, rfl⟩, ?_, ?_⟩
  · obtain ⟨i, _, _, e⟩ := hrd x hx
    exact ⟨_, e⟩
  · show List.Perm (((es.toList.map (rg Tryz.prog 3 R0)).foldr DataW.insert []).map fun p => Go.intOf p.1) _
    refine ((WideShapes.sorted_perm _).map _).trans ?_
    have : (es.toList.map (rg (H := Unit) Tryz.prog 3 R0)).map (fun p => Go.intOf p.1) = L.map (·.1) := by
      rw [List.map_map]
      have e2 : L.map (·.1) = (L.map (fun p => (kI p.1, p.2))).map (fun q => match q.1 with | .int _ a => a | _ => 0) := by
        rw [List.map_map]; rfl
      rw [e2, ← h3, List.map_map]
      refine List.map_congr_left fun x hx => ?_
      obtain ⟨i, _, e, e'⟩ := hrd x hx
      simp [rg, e', e, Go.intOf]
    rw [this]
  · show ((es.toList.map (rg Tryz.prog 3 R0)).foldr DataW.insert []).length = _
    rw [(WideShapes.sorted_perm _).length_eq, List.length_map, Array.length_toList, hlen]
/-- the keys of a map, in order -/
theorem keys_s {w : World} {b : Nat} {L : List (Int × Value)} {K : Value → M} {Q : Value → World → Prop} (h : MapAt kI w b L) (hk : ∀ p ∈ L, 0 ≤ p.1 ∧ p.1 < 4096) (hL : L.length ≤ 4096)
    (kk : ∀ w' v, ownI w.heap.size 3 .i64 w' v ((L.map (·.1)).mergeSort (fun x y => decide (x ≤ y))) → Below w.heap.size w w' → K v w' Q) : cc Tryz.prog 93 #[.map (some b)] (fun t9 => cc Tryz.prog 92 #[t9] K) w Q := by
  obtain ⟨D0, ho, hp, hs⟩ := ownsMap_of h hk hL
  have hc := sorted_c ho (by rw [hs]; unfold maxLen; omega) (by rw [hs]; omega)
  have cK : Calls Tryz.prog 93 #[.map (some b)] w fun e w' => e = .returned (.func (.func 122) #[] #[.pointer (some ⟨w.heap.size, 0, none⟩)]) ∧ w' = w.alloc (.cells #[.map (some b)] 128) := (callsIn_wide (n := 5)).1 (AnyZI.keys_in keysA Fence.wide 5 trivial rfl (some b) w)
  refine cK.mono ?_
  rintro e w' ⟨rfl, rfl⟩
  refine hc.mono ?_
  rintro e w' ⟨v, ss, rfl, hS, hrow, hb⟩
  have e1 : ss.mergeSort (fun x y => decide (x ≤ y)) = (L.map (·.1)).mergeSort (fun x y => decide (x ≤ y)) := by
    have hp2 : ((ss.mergeSort (fun x y => decide (x ≤ y))).Perm ((L.map (·.1)).mergeSort (fun x y => decide (x ≤ y)))) := (List.mergeSort_perm _ _).trans ((hS.trans hp).trans (List.mergeSort_perm _ _).symm)
    refine hp2.eq_of_pairwise (le := fun x y => x ≤ y) (fun a b _ _ h1 h2 => by omega) ?_ ?_
    · exact (List.pairwise_mergeSort (le := fun x y => decide (x ≤ y)) (fun a b c h1 h2 => by simp at *; omega) (fun a b => by simp; omega) _).imp (by simp)
    · exact (List.pairwise_mergeSort (le := fun x y => decide (x ≤ y)) (fun a b c h1 h2 => by simp at *; omega) (fun a b => by simp; omega) _).imp (by simp)
  rw [e1] at hrow
  have hl : ss.length = ((L.map (·.1)).mergeSort (fun x y => decide (x ≤ y))).length := by rw [← e1, List.length_mergeSort]
  refine kk w' v ?_ ⟨hb.os, hb.tape, hb.output, Nat.le_trans (by simp) hb.size, fun k hk => ?_⟩
  · have : ownI (w.heap.size + 1) 3 .i64 w' v ((L.map (·.1)).mergeSort (fun x y => decide (x ≤ y))) := by
      unfold ownI
      rw [← hl]
      exact hrow
    exact ownI_weak this (by omega)
  · rw [hb.block k (by omega)]
    exact Below.heap_alloc _ _ k hk
end Go.Proofs.YtongpnolikkknaaGreatDoor

set_option maxRecDepth 20000
namespace Go.Proofs.YtongpnolikkknaaGreatDoor
open Sh RowKit Go.MapKept
section
variable {B : Nat} {w : World} {p b : Nat} {v : Value} {D : Dv} {Q : Value → World → Prop}
theorem f48_s (hd : DevAt B w p v b D) (h : ∀ w' u, ownI w.heap.size 3 .i64 w' u (unsL D.A) → Below w.heap.size w w' → Q u w') : f48 (pv p) w Q := by
  unfold f48
  have c1 := hd.c1
  obtain ⟨L, hm, hl⟩ := hd.mp
  obtain ⟨k1, k2⟩ := keys_ok hd.n hm hl
  rw [pn_eq pt23]
  simp only [↓reduceIte, ↓LL, LM, Value.cells, Nat.reduceAdd, Option.some.injEq, exists_eq_left', decide_true, decide_false, if_true, if_false, reduceCtorEq, cond_true, cond_false, Option.isNone, c1]
  refine keys_s (K := fun t10 => rt t10) hm k1 k2 fun w' u ho hb => ?_
  rw [uns_keys hm.nodup hl] at ho
  exact h w' u ho hb
end
end Go.Proofs.YtongpnolikkknaaGreatDoor

set_option maxRecDepth 20000
set_option maxHeartbeats 4000000
namespace Go.Proofs.YtongpnolikkknaaGreatDoor
open Sh RowKit Go.MapKept
theorem oBat_st : Stable oBat := fun w w' es x hb h => ⟨h.1, rdI_b h.2.1 hb, rdI_b h.2.2.1 hb, h.2.2.2⟩
structure St (W w : World) (q p b r : Nat) (v u ur : Value) (G : Pg) (D : Dv) : Prop where
  pg : PgAt W.heap.size w q p b v u G D
  rf : RfAt W.heap.size w r ur G.L
  ap : ∀ k, fpP q p b v u k → ¬ fpR r ur k
  bw : Below W.heap.size W w
  rdy : Rdy D G.L
  st : G.st = false
  al : AllS D.A
  hh : D.h = 4611686018427387904
theorem RfAt.fpB {B : Nat} {w : World} {r : Nat} {u : Value} {L : List ByteArray} (h : RfAt B w r u L) : ∀ k, fpR r u k → B ≤ k := by
  rintro k (rfl | hk)
  · exact h.rB
  · exact (ownV_lt h.hu k hk).1
theorem RfAt.lt {B : Nat} {w : World} {r : Nat} {u : Value} {L : List ByteArray} (h : RfAt B w r u L) : ∀ k, fpR r u k → k < w.heap.size := by
  rintro k (rfl | hk)
  · exact blk_lt h.hr
  · exact (ownV_lt h.hu k hk).2.1
section
variable {W w w' : World} {q p b r : Nat} {v u ur vs : Value} {G : Pg} {D : Dv} {Q : Value → World → Prop}
end
end Go.Proofs.YtongpnolikkknaaGreatDoor

set_option maxRecDepth 20000
namespace Go.Proofs.YtongpnolikkknaaGreatDoor
open Sh RowKit Go.MapKept
section
variable {f : Option Sct → Option Sct} {keep : List Bool} {tn cut : Int}
theorem crash1_len (A : List Sec) (i k : Nat) : (crash1 f keep tn cut A i k).length = A.length := by
  unfold crash1; split <;> simp
theorem crash1_get {A : List Sec} {i k : Nat} {x : Sec} (h : A[i]? = some x) (j : Nat) : (crash1 f keep tn cut A i k)[j]? = if j = i then some ⟨nw keep tn cut x k, f x.u⟩ else A[j]? := by
  unfold crash1
  rw [h]
  simp only [List.getElem?_set]
  have := (List.getElem?_eq_some_iff.1 h).1
  by_cases c : j = i
  · subst c; simp [this]
  · rw [if_neg (fun e => c e.symm), if_neg c]
theorem crashL_get : ∀ (rest : List Nat) (A : List Sec) (k : Nat), rest.Nodup → (∀ i ∈ rest, i < A.length) →
    (crashL f keep tn cut A rest k).length = A.length ∧ (∀ j, j ∉ rest → (crashL f keep tn cut A rest k)[j]? = A[j]?) ∧
    ∀ m (hm : m < rest.length), ∃ x, A[rest[m]]? = some x ∧ (crashL f keep tn cut A rest k)[rest[m]]? = some ⟨nw keep tn cut x (k + m), f x.u⟩
  | [], A, k, _, _ => ⟨rfl, fun _ _ => rfl, fun m hm => absurd hm (by simp)⟩
  | i :: r, A, k, hn, hl => by
    obtain ⟨hn1, hn2⟩ := List.nodup_cons.1 hn
    have hi := hl i (by simp)
    have hx := List.getElem?_eq_getElem hi
    obtain ⟨q1, q2, q3⟩ := crashL_get r (crash1 f keep tn cut A i k) (k + 1) hn2 (fun j hj => by rw [crash1_len]; exact hl j (by simp [hj]))
    refine ⟨by show (crashL f keep tn cut (crash1 f keep tn cut A i k) r (k + 1)).length = _; rw [q1, crash1_len], fun j hj => ?_, fun m hm => ?_⟩
    · show (crashL f keep tn cut (crash1 f keep tn cut A i k) r (k + 1))[j]? = _
      rw [q2 j (fun c => hj (by simp [c])), crash1_get hx, if_neg (fun c => hj (by simp [c]))]
    · cases m with
      | zero =>
        refine ⟨A[i], hx, ?_⟩
        show (crashL f keep tn cut (crash1 f keep tn cut A i k) r (k + 1))[i]? = _
        rw [q2 i hn1, crash1_get hx, if_pos rfl]; rfl
      | succ m =>
        obtain ⟨x, h1, h2⟩ := q3 m (by simpa using hm)
        have hne : r[m]'(by simpa using hm) ≠ i := fun c => hn1 (c ▸ List.getElem_mem _)
        refine ⟨x, ?_, ?_⟩
        · rw [crash1_get hx, if_neg hne] at h1; exact h1
        · show (crashL f keep tn cut (crash1 f keep tn cut A i k) r (k + 1))[r[m]'(by simpa using hm)]? = _
          rw [h2, show k + 1 + m = k + (m + 1) by omega]
theorem uns_nodup (A : List Sec) : (uns A).Nodup := (uns_sorted A).imp (by intro a b h; omega)
theorem crash_none (A : List Sec) : ∀ (j : Nat) (x : Sec), (crashL (fun _ => none) keep tn cut A (uns A) 0)[j]? = some x → x.u = none := by
  intro j x hx
  obtain ⟨q1, q2, q3⟩ := crashL_get (f := fun _ => none) (keep := keep) (tn := tn) (cut := cut) (uns A) A 0 (uns_nodup A) (fun i hi => uns_lt hi)
  by_cases c : j ∈ uns A
  · obtain ⟨m, hm, rfl⟩ := List.mem_iff_getElem.1 c
    obtain ⟨y, h1, h2⟩ := q3 m hm
    rw [h2] at hx; cases hx; rfl
  · rw [q2 j c] at hx
    cases hu : x.u with
    | none => rfl
    | some y => exact absurd (uns_mem.2 ⟨x, y, hx, hu⟩) c
theorem crash_two (A : List Sec) : (crashL id keep tn cut A (uns A) 0).map (·.s) = (crashL (fun _ => none) keep tn cut A (uns A) 0).map (·.s) := by
  obtain ⟨q1, q2, q3⟩ := crashL_get (f := fun _ => none) (keep := keep) (tn := tn) (cut := cut) (uns A) A 0 (uns_nodup A) (fun i hi => uns_lt hi)
  obtain ⟨p1, p2, p3⟩ := crashL_get (f := id) (keep := keep) (tn := tn) (cut := cut) (uns A) A 0 (uns_nodup A) (fun i hi => uns_lt hi)
  apply List.ext_getElem?
  intro j
  rw [List.getElem?_map, List.getElem?_map]
  by_cases c : j ∈ uns A
  · obtain ⟨m, hm, rfl⟩ := List.mem_iff_getElem.1 c
    obtain ⟨y, h1, h2⟩ := q3 m hm
    obtain ⟨z, h3, h4⟩ := p3 m hm
    rw [h1] at h3; cases h3
    rw [h2, h4]; rfl
  · rw [q2 j c, p2 j c]
end
theorem encS_torn (y s : Sct) {c : Nat} (hc : c ≤ 64) : encS (torn y s c) = ovl (encS s) 0 ((encS y).take c) := by
  unfold encS ovl
  rw [byL_torn, List.map_append, List.map_take, List.map_drop, List.take_zero, List.nil_append, List.length_take, List.length_map, byL_len, y.2, Nat.zero_add, Nat.min_eq_left hc]
/-- a beginning of an element's cells -/
theorem sla_to {n c : Nat} {a : Addr} {w : World} {K : Value → M} {Q : Value → World → Prop} {x : Int} (h0 : n ≠ 0) (hc : c ≤ n) (hx : x = (c : Int)) (k : K (.slice (some a) c n) w Q) : sla n 1 (.pointer (some a)) none (some (.int .i64 x)) K w Q := by
  subst hx
  refine ⟨a, 0, c, rfl, ⟨.i64, _, rfl, by omega, by omega, by rw [Int.toNat_natCast]⟩, rfl, ?_⟩
  rw [if_neg h0]
  exact k
section
variable {B : Nat} {w : World} {p b : Nat} {v : Value} {D : Dv} {Q : Value → World → Prop}
/-- a sector made sure -/
theorem DevAt.setS {w' : World} {i : Nat} {x : Sec} {y : Sct} {g : Nat} (hd : DevAt B w p v b D) (hx : D.A[i]? = some x) (ho : ownE B 145 64 encS w' v ((D.A.map (·.s)).set i y)) (hg : v.ownBlock = some g) (hu : Upd g w w') : DevAt B w' p v b (D.set i ⟨y, x.u⟩) := by
  obtain ⟨L, hm, hl⟩ := hd.mp
  have hg' := hd.gblk g hg
  refine ⟨hd.pB, hd.bB, by simpa [Dv.set] using hd.n, (hu.block p hg'.1.symm).trans hd.hp, ?_, L, hm.upd hu hg'.2.1.symm, fun j z => ?_⟩
  · have : (D.set i ⟨y, x.u⟩).A.map (·.s) = (D.A.map (·.s)).set i y := by unfold Dv.set; rw [List.map_set]
    rw [this]; exact ho
  · rw [hl]
    have : ((D.set i ⟨y, x.u⟩).at j).bind (·.u) = (D.at j).bind (·.u) := by
      unfold Dv.at Dv.set
      split
      · simp only [List.getElem?_set]
        have hi := (List.getElem?_eq_some_iff.1 hx).1
        split
        · rename_i e
          rw [← e, hx]; rfl
        · rfl
      · rfl
    rw [this]
/-- what isn't sure, away -/
theorem DevAt.clear {w' : World} (hd : DevAt B w p v b D) (hm : MapAt kI w' b ([] : List (Int × Value))) (hu : Upd b w w') {A' : List Sec} (hA : A'.map (·.s) = D.A.map (·.s)) (hn : ∀ (j : Nat) (x : Sec), A'[j]? = some x → x.u = none) : DevAt B w' p v b { D with A := A' } := by
  have hlen : A'.length = D.A.length := by simpa using congrArg List.length hA
  refine ⟨hd.pB, hd.bB, by show A'.length ≤ _; rw [hlen]; exact hd.n, (hu.block p hd.pb).trans hd.hp, ?_, [], hm, fun i x => ?_⟩
  · show ownE B 145 64 encS w' v (A'.map (·.s))
    rw [hA]
    exact ownE_stay hd.own (fun g hg => hu.block g (hd.gblk g hg).2.1)
  · have : (({ D with A := A' } : Dv).at i).bind (·.u) = none := by
      unfold Dv.at
      split
      · cases h : A'[i.toNat]? with
        | none => rfl
        | some x => exact hn _ x h
      · rfl
    rw [this]
    simp
end
end Go.Proofs.YtongpnolikkknaaGreatDoor

set_option maxRecDepth 20000
namespace Go.Proofs.YtongpnolikkknaaGreatDoor
open Sh RowKit Go.MapKept
section
variable {B : Nat} {w : World} {p b : Nat} {v : Value} {D : Dv} {Q : Value → World → Prop} {keep : List Bool} {tn cut : Int} {vk : Value}
theorem uns_num {A : List Sec} {k : Nat} (hk : k < (unsL A).length) : (unsL A)[k] = (((uns A)[k]'(by simpa [unsL] using hk) : Nat) : Int) := by simp [unsL]
theorem mapA_eq {A : List Sec} {i : Nat} {x : Sec} (h : A[i]? = some x) : ∃ hi : i < (A.map (·.s)).length, (A.map (·.s))[i] = x.s := by
  obtain ⟨h1, h2⟩ := List.getElem?_eq_some_iff.1 h
  exact ⟨by simpa using h1, by rw [List.getElem_map, h2]⟩
theorem own_ne6 {e : TypeId} {B2 : Nat} {u : Value} {l : List Int} {g : Nat} {cur : Array Value} (h : ownI B2 3 .i64 w u l) (hg : w.heap[g]? = some (.cells cur e (0, 0))) (he : e ≠ 3) : u.ownBlock ≠ some g := by
  intro c
  obtain ⟨h1, h2⟩ := h
  rcases h2 with ⟨rfl, _⟩ | ⟨g', cap, cur', rfl, hg', hb', _⟩
  · cases c
  · cases c; rw [hb'] at hg; cases hg; exact he rfl
theorem run_ne_eS {x y : Operand} (a c : Sct) (w : World) : ((do eqGuard .neq 145 x y (.agg (encS a).toArray) (.agg (encS c).toArray); binOp .neq 145 (.agg (encS a).toArray) (.agg (encS c).toArray) : Sem Value)).run Tryz.prog w = .ok (.bool (!decide (a = c))) w := by
  have h := run_ne_arr (P := Tryz.prog) (w := w) (t := 145) (e := 5) (n := 64) (k := .u8) (x := x) (y := y) (xa0 := byL a.1) (xb0 := byL c.1) Tryz.underlying145 ud5 (by kernel_rfl) (by kernel_rfl) (by kernel_rfl) (by rw [byL_len, a.2]) (by rw [byL_len, c.2])
  have e : decide (byL a.1 = byL c.1) = decide (a = c) := by
    rw [Bool.eq_iff_iff, decide_eq_true_iff, decide_eq_true_iff]
    exact ⟨fun h => Subtype.ext (byL_inj h), fun h => by rw [h]⟩
  rw [e] at h
  exact h
theorem f51_loop {W : World} {u : Value} {B2 : Nat} (A0 : List Sec) (hk : rdS 1 bR W vk keep) (hWB : W.heap.size ≤ B) (hn : A0.length ≤ 4096) (j1 : Value → M) : ∀ (d m k : Nat) (w : World) (D : Dv), k + d = (uns A0).length → d < m → Below W.heap.size W w →
    DevAt B w p v b D → ownI B2 3 .i64 w u (unsL A0) → D.A.length = A0.length → (∀ m' (hm : m' < (uns A0).length), k ≤ m' → D.A[(uns A0)[m']]? = A0[(uns A0)[m']]?) →
    (∀ w', DevAt B w' p v b { D with A := crashL id keep tn cut D.A ((uns A0).drop k) k } → ChgS (fpD p v b) w w' → j1 (pv p) w' Q) →
    itr (fun _ _ _ _ _ _ _ => bot) (f51_b2 j1) m (pv p) vk (.int .i64 tn) (.int .i64 cut) u (.int .i64 ((uns A0).length : Nat)) (.int .i64 (k : Int)) w Q := by
  intro d
  induction d with
  | zero =>
    intro m k w D hkd hm hb hd ho hlen hsame kk
    obtain ⟨m, rfl⟩ : ∃ x, m = x + 1 := ⟨m - 1, by omega⟩
    show f51_b2 j1 _ _ _ _ _ _ _ _ w Q
    unfold f51_b2
    have c : ¬ (k : Int) < ((uns A0).length : Nat) := by omega
    simp only [↓reduceIte, ↓LL, LM, Value.cells, Nat.reduceAdd, Option.some.injEq, exists_eq_left', decide_true, decide_false, if_true, if_false, reduceCtorEq, cond_true, cond_false, c]
    refine kk w ?_ (ChgS.refl _ w)
    rw [List.drop_of_length_le (by omega)]
    exact hd
  | succ d ih =>
    intro m k w D hkd hm hb hd ho hlen hsame kk
    obtain ⟨m, rfl⟩ : ∃ x, m = x + 1 := ⟨m - 1, by omega⟩
    show f51_b2 j1 _ _ _ _ _ _ _ _ w Q
    unfold f51_b2
    have c : (k : Int) < ((uns A0).length : Nat) := by omega
    have hku : k < (unsL A0).length := by unfold unsL; rw [List.length_map]; omega
    have hkk : k < (uns A0).length := by omega
    obtain ⟨ad, hc, hia⟩ := rdI_at (ownI_rd ho) hku
    rw [uns_num hku] at hc
    generalize hi : (uns A0)[k] = i at *
    have hiA : i < A0.length := uns_lt (hi ▸ List.getElem_mem hkk)
    obtain ⟨x, y, hx0, hxu⟩ := uns_mem.1 (show i ∈ uns A0 from hi ▸ List.getElem_mem hkk)
    have hx : D.A[i]? = some x := by
      have := hsame k hkk (Nat.le_refl _)
      rw [hi] at this
      rw [this]; exact hx0
    have hat : D.at (i : Int) = some x := by unfold Dv.at; rw [if_pos (by omega), Int.toNat_natCast]; exact hx
    have hnow : x.now = y := by unfold Sec.now; rw [hxu]; rfl
    have c1 := hd.c1
    obtain ⟨L, hmp, hl⟩ := hd.mp
    simp only [↓reduceIte, ↓LL, LM, Value.cells, Nat.reduceAdd, Option.some.injEq, exists_eq_left', decide_true, decide_false, if_true, if_false, reduceCtorEq, cond_true, cond_false, c, hia, hc, c1]
    refine Eq.mpr (look_v (kv := kI) KK hmp z63 (i : Int)) ?_
    rw [lk_dev hmp hl, hat]
    simp only [↓reduceIte, ↓LL, LM, Value.cells, Nat.reduceAdd, Option.some.injEq, exists_eq_left', decide_true, decide_false, if_true, if_false, reduceCtorEq, cond_true, cond_false, Option.bind_some, hxu, Option.map_some, Option.getD_some]
    have b2 := b_psh w (.cells (Array.replicate 64 (.int .u8 0)) 145)
    have blk := blk_psh_new (w := w) (o := .cells (Array.replicate 64 (.int .u8 0)) 145)
    refine stn_box blk (by simp) (by simp [encS_len]) (by simpa using encS_one y) fun w2 h2 hu2 => ?_
    have hb2 : Below w.heap.size w w2 := b2.trans (hu2.below (Nat.le_refl _))
    have d2 := hd.below hb2
    have o2 := ownI_below ho hb2
    have hbW2 : Below W.heap.size W w2 := bt hb hb2
    have s2 : ChgS (fpD p v b) w w2 := ChgS.of_below hb2
    have hw2 : w.heap.size < w2.heap.size := blk_lt h2
    -- what is behind this round
    have hdrop : (uns A0).drop k = i :: (uns A0).drop (k + 1) := by rw [List.drop_eq_getElem_cons hkk, hi]
    have h3 : IntKind.i64.wrap ((k : Int) + 1) = ((k + 1 : Nat) : Int) := by
      have := uns_len A0
      rw [w64 (by omega) (by omega)]; rfl
    have next : ∀ w3 (D3 : Dv), DevAt B w3 p v b D3 → D3 = { D with A := crash1 id keep tn cut D.A i k } → ChgS (fpD p v b) w2 w3 → ownI B2 3 .i64 w3 u (unsL A0) →
        f51_j3 (itr (fun _ _ _ _ _ _ _ => bot) (f51_b2 j1) m) (pv p) vk (.int .i64 tn) (.int .i64 cut) u (.int .i64 ((uns A0).length : Nat)) (.int .i64 (k : Int)) w3 Q := by
      intro w3 D3 d3 e3 s3 o3
      subst e3
      unfold f51_j3
      simp only [↓reduceIte, ↓LL, LM, Value.cells, Nat.reduceAdd, Option.some.injEq, exists_eq_left', decide_true, decide_false, if_true, if_false, reduceCtorEq, cond_true, cond_false, h3]
      refine ih m (k + 1) w3 _ (by omega) (by omega) (bs hbW2 (S := fpD p v b) (fun k' hk' => Nat.le_trans hWB (fpD_B d2 k' hk')) hbW2.size s3) d3 o3 (by rw [crash1_len]; exact hlen) (fun m' hm' hle => ?_) fun w' hd' hc' => kk w' ?_ ((s2.trans s3 (fun _ _ h => h)).trans hc' (fun _ _ h => h))
      · show (crash1 id keep tn cut D.A i k)[(uns A0)[m']]? = _
        rw [crash1_get hx, if_neg ?_]
        · exact hsame m' hm' (by omega)
        · intro e
          have := (List.getElem?_inj hm' (uns_nodup A0)).1 (show (uns A0)[m']? = (uns A0)[k]? by rw [List.getElem?_eq_getElem hm', List.getElem?_eq_getElem hkk, e, hi])
          omega
      · rw [hdrop]
        exact hd'
    have hsetA : ∀ z, nw keep tn cut x k = z → (D.set i ⟨z, x.u⟩) = { D with A := crash1 id keep tn cut D.A i k } := by
      intro z hz
      unfold Dv.set crash1
      simp only [hx, hz]; rfl
    obtain ⟨hiS, hsx⟩ := mapA_eq hx
    obtain ⟨g, cap, cur, hv, hob, hgB, hblk, hcap, hmx, hsz, htk⟩ := ownE_open d2.own (by omega)
    have hgne : u.ownBlock ≠ some g := own_ne6 o2 hblk (by decide)
    have s2d : ChgS (fpD p v b) w2 (drw w2) := (ChgS.refl _ w2).drw
    have fin : ∀ w3 z, nw keep tn cut x k = z → ownE B 145 64 encS w3 v ((D.A.map (·.s)).set i z) → Upd g (drw w2) w3 →
        f51_j3 (itr (fun _ _ _ _ _ _ _ => bot) (f51_b2 j1) m) (pv p) vk (.int .i64 tn) (.int .i64 cut) u (.int .i64 ((uns A0).length : Nat)) (.int .i64 (k : Int)) w3 Q := fun w3 z hz hoz hu3 =>
      next w3 _ (d2.drw.setS hx hoz hob hu3) (hsetA z hz) (s2d.trans (ChgS.of_upd hu3 (.inr (.inr hob))) (fun _ _ h => h)) (Sh.ownI_chg (w := drw w2) o2 hu3.chg hgne)
    have fin0 : ∀ w3, (w3 = w2 ∨ w3 = drw w2) → nw keep tn cut x k = x.s →
        f51_j3 (itr (fun _ _ _ _ _ _ _ => bot) (f51_b2 j1) m) (pv p) vk (.int .i64 tn) (.int .i64 cut) u (.int .i64 ((uns A0).length : Nat)) (.int .i64 (k : Int)) w3 Q := fun w3 hw hz => by
      have e : D = { D with A := crash1 id keep tn cut D.A i k } := by
        rw [← hsetA x.s hz]
        unfold Dv.set
        have : D.A.set i ⟨x.s, x.u⟩ = D.A := by
          apply List.ext_getElem?
          intro j
          rw [List.getElem?_set]
          split
          · rename_i e; subst e; rw [if_pos (by omega), hx]
          · rfl
        rw [this]
      rcases hw with rfl | rfl
      · exact next _ D d2 e (ChgS.refl _ _) o2
      · exact next _ D d2.drw e s2d o2
    have k0 : (drw w2).cell? ⟨p, 0, none⟩ = some v := d2.c0
    by_cases ht : (k : Int) = tn
    · have htd : decide ((k : Int) = tn) = true := decide_eq_true ht
      simp only [↓reduceIte, ↓LL, LM, Value.cells, Nat.reduceAdd, Option.some.injEq, exists_eq_left', decide_true, decide_false, if_true, if_false, reduceCtorEq, cond_true, cond_false, htd, k0]
      rw [hv, ia_E (by rw [List.length_map]; omega)]
      simp only [↓reduceIte, ↓LL, LM, Value.cells, Nat.reduceAdd, Option.some.injEq, exists_eq_left', decide_true, decide_false, if_true, if_false, reduceCtorEq, cond_true, cond_false]
      have hcc : (if (64 : Int) < (if cut < 0 then 0 else cut) then 64 else (if cut < 0 then 0 else cut)) = (((min (max cut 0) 64).toNat : Nat) : Int) := by omega
      have hc64 : (min (max cut 0) 64).toNat ≤ 64 := by omega
      have hnw : nw keep tn cut x k = torn y x.s (min (max cut 0) 64).toNat := by unfold nw; rw [if_pos ht, hnow]
      generalize (min (max cut 0) 64).toNat = cc at *
      refine sla_to (c := cc) (by decide) hc64 hcc ?_
      refine sla_all (by decide) ?_
      have hin : i * 64 + 64 ≤ cur.size := by
        rw [hsz]
        have := Nat.mul_le_mul_right 64 (show i + 1 ≤ cap by rw [List.length_map] at hcap; omega)
        omega
      refine cpy (m := cc) (g2 := w.heap.size) (cur2 := (encS y).toArray) Tryz.underlying42 (by kernel_rfl) (show (drw w2).heap[g]? = _ from hblk) (show (drw w2).heap[_]? = _ from h2) hc64 (by simpa [encS_len] using hc64) (by omega) (by simpa using encS_one y) fun w3 h3b hu3 => ?_
      refine fin w3 _ hnw ?_ hu3
      refine ownE_put (w := drw w2) (o := 0) (cs := (encS y).take cc) encS_len d2.own hiS (by rw [List.length_take]; omega) (by rw [encS_torn _ _ hc64, hsx]) (fun g' cur' e1 e2 => ?_)
      rw [hob] at e1; cases e1
      rw [show (drw w2).heap[g]? = _ from hblk] at e2; cases e2
      exact ⟨_, h3b, by simp⟩
    · have htd : decide ((k : Int) = tn) = false := decide_eq_false ht
      obtain ⟨pk', ck, hvk⟩ := rdS_len hk
      have hkp := rdS_below bR_st hbW2 hk
      have hlnl : ∀ (K : Value → M) (w' : World), lnl vk K w' Q = K (.int .i64 (keep.length : Nat)) w' Q := fun K w' => by rw [hvk, lnl_e]
      rcases Nat.eq_zero_or_pos keep.length with hk0 | hkpos
      · have hz : nw keep tn cut x k = x.s := by
          unfold nw
          rw [if_neg ht, List.length_eq_zero_iff.1 hk0]
          rfl
        have hlk : ((keep.length : Nat) : Int) = 0 := by omega
        have hlk' : ¬ (0 : Int) < (keep.length : Nat) := by omega
        simp only [↓reduceIte, ↓LL, LM, Value.cells, Nat.reduceAdd, Option.some.injEq, exists_eq_left', decide_true, decide_false, if_true, if_false, reduceCtorEq, cond_true, cond_false, htd, hlnl, hlk']
        exact fin0 _ (.inr rfl) hz
      · have hmod : k % keep.length < keep.length := Nat.mod_lt _ hkpos
        obtain ⟨adk, es, he1, he2, he3, hiak⟩ := rdS_at hkp hmod
        have hcb : (drw w2).cell? adk = some (.bool keep[k % keep.length]) := by
          have := he2 0 (.bool keep[k % keep.length]) (by rw [he3]; rfl)
          rw [add_zero'] at this; exact this
        have htm : ((k : Int).tmod (keep.length : Int)) = ((k % keep.length : Nat) : Int) := (Int.ofNat_tmod k keep.length).symm
        have hlp : (0 : Int) < (keep.length : Int) := by omega
        have hl0 : ¬ ((keep.length : Nat) : Int) = 0 := by omega
        by_cases hbb : keep[k % keep.length] = true
        · rw [hbb] at hcb
          have hnw : nw keep tn cut x k = y := by
            unfold nw
            rw [if_neg ht, List.getElem?_eq_getElem hmod, hbb, if_pos rfl, hnow]
          obtain ⟨ads, es2, hs1, hs2, hs3, hias⟩ := rdS_at (ownE_rd encS_len (by decide) d2.own) hiS
          have hs3 : es2 = encS x.s := by rw [hs3, hsx]
          subst hs3
          simp only [↓reduceIte, ↓LL, LM, Value.cells, Nat.reduceAdd, Option.some.injEq, exists_eq_left', decide_true, decide_false, if_true, if_false, reduceCtorEq, cond_true, cond_false, htd, hlnl, hlp, hl0, htm, hiak, hcb, k0, hias]
          refine ⟨by omega, ldn_box (show (drw w2).heap[_]? = _ from h2) (by simp [encS_len]) ?_⟩
          simp only [↓reduceIte, ↓LL, LM, Value.cells, Nat.reduceAdd, Option.some.injEq, exists_eq_left', decide_true, decide_false, if_true, if_false, reduceCtorEq, cond_true, cond_false, k0, hias]
          refine ldn_at (show cellsAt (drw w2) ads (encS x.s) from hs2) (encS_len _) ?_
          have hne := run_ne_eS (x := .tmp 57) (y := .tmp 64) y x.s (drw w2)
          simp only [↓reduceIte, ↓LL, LM, Value.cells, Nat.reduceAdd, Option.some.injEq, exists_eq_left', decide_true, decide_false, if_true, if_false, reduceCtorEq, cond_true, cond_false]
          refine Eq.mpr (smr_run hne) ?_
          by_cases hyx : y = x.s
          · simp only [↓reduceIte, ↓LL, LM, Value.cells, Nat.reduceAdd, Option.some.injEq, exists_eq_left', decide_true, decide_false, if_true, if_false, reduceCtorEq, cond_true, cond_false, hyx, decide_true]
            exact fin0 _ (.inr rfl) (by rw [hnw, hyx])
          · simp only [↓reduceIte, ↓LL, LM, Value.cells, Nat.reduceAdd, Option.some.injEq, exists_eq_left', decide_true, decide_false, if_true, if_false, reduceCtorEq, cond_true, cond_false, decide_eq_false hyx, k0]
            refine ldn_box (show (drw w2).heap[_]? = _ from h2) (by simp [encS_len]) ?_
            refine ia_stnE (w := drw (drw w2)) (j := .i64) (i := i) (y := y) encS_len encS_one d2.own hiS fun w3 g' hg' ho3 hu3 => ?_
            rw [hob] at hg'; cases hg'
            exact fin w3 y hnw ho3 ⟨hu3.os, hu3.tape, hu3.output, hu3.size, hu3.block⟩
        · have hbf : keep[k % keep.length] = false := by simpa using hbb
          rw [hbf] at hcb
          have hz : nw keep tn cut x k = x.s := by
            unfold nw
            rw [if_neg ht, List.getElem?_eq_getElem hmod, hbf, if_neg (by simp)]
          simp only [↓reduceIte, ↓LL, LM, Value.cells, Nat.reduceAdd, Option.some.injEq, exists_eq_left', decide_true, decide_false, if_true, if_false, reduceCtorEq, cond_true, cond_false, htd, hlnl, hlp, hl0, htm, hiak, hcb]
          exact ⟨by omega, fin0 _ (.inr rfl) hz⟩
theorem f51_s {W : World} (hk : rdS 1 bR W vk keep) (hb : Below W.heap.size W w) (hWB : W.heap.size ≤ B) (hd : DevAt B w p v b D) (h : ∀ w', DevAt B w' p v b (D.crash keep tn cut) → ChgS (fpD p v b) w w' → Q (.tuple #[]) w') : f51 (pv p) vk (.int .i64 tn) (.int .i64 cut) w Q := by
  unfold f51
  rw [pn_eq pt23]
  simp only [↓reduceIte, ↓LL, LM, Value.cells, Nat.reduceAdd, Option.some.injEq, exists_eq_left', decide_true, decide_false, if_true, if_false, reduceCtorEq, cond_true, cond_false, Option.isNone]
  refine f48_s hd fun w1 u ho hb1 => ?_
  have d1 := hd.below hb1
  obtain ⟨pu, cu, hvu, _⟩ := ownI_rd ho
  have hl : (unsL D.A).length = (uns D.A).length := by unfold unsL; rw [List.length_map]
  rw [hl] at hvu
  have hlnl : ∀ (K : Value → M) (w' : World), lnl u K w' Q = K (.int .i64 ((uns D.A).length : Nat)) w' Q := fun K w' => by rw [hvu, lnl_e]
  simp only [↓reduceIte, ↓LL, LM, Value.cells, Nat.reduceAdd, Option.some.injEq, exists_eq_left', decide_true, decide_false, if_true, if_false, reduceCtorEq, cond_true, cond_false, hlnl]
  refine ⟨_, f51_loop (W := W) (B := B) D.A hk hWB d1.n f51_j1 (uns D.A).length ((uns D.A).length + 1) 0 w1 D (by omega) (by omega) (bt hb hb1) d1 ho rfl (fun _ _ _ => rfl) fun w2 d2 c2 => ?_⟩
  rw [List.drop_zero] at d2
  unfold f51_j1
  have k1 := d2.c1
  obtain ⟨L, hm, hl2⟩ := d2.mp
  simp only [↓reduceIte, ↓LL, LM, Value.cells, Nat.reduceAdd, Option.some.injEq, exists_eq_left', decide_true, decide_false, if_true, if_false, reduceCtorEq, cond_true, cond_false, k1]
  refine clear_map (kv := kI) KK hm fun w3 hm3 hu3 => ?_
  have d3 := d2.clear hm3 hu3 (A' := crashL (fun _ => none) keep tn cut D.A (uns D.A) 0) (crash_two D.A).symm (crash_none D.A)
  simp only [↓reduceIte, ↓LL, LM, Value.cells, Nat.reduceAdd, Option.some.injEq, exists_eq_left', decide_true, decide_false, if_true, if_false, reduceCtorEq, cond_true, cond_false]
  refine st_box d3.hp (o := 3) (v := .int .i64 4611686018427387904) (by simp) rfl fun w4 h4 hu4 => ?_
  simp only [↓reduceIte, ↓LL, LM, Value.cells, Nat.reduceAdd, Option.some.injEq, exists_eq_left', decide_true, decide_false, if_true, if_false, reduceCtorEq, cond_true, cond_false]
  refine h w4 (d3.upd (D' := D.crash keep tn cut) rfl h4 hu4) ?_
  have s1 : ChgS (fpD p v b) w w1 := ChgS.of_below hb1
  exact ((s1.trans c2 (fun _ _ h => h)).trans (ChgS.of_upd hu3 (S := fpD p v b) (.inr (.inl rfl))) (fun _ _ h => h)).trans (ChgS.of_upd hu4 (S := fpD p v b) (.inl rfl)) (fun _ _ h => h)
end
end Go.Proofs.YtongpnolikkknaaGreatDoor

set_option maxRecDepth 20000
set_option maxHeartbeats 4000000
namespace Go.Proofs.YtongpnolikkknaaGreatDoor
open Sh RowKit Go.MapKept
theorem nw_mkd (keep : List Bool) (tn cut : Int) (x : Sec) (k : Nat) : mkd (nw keep tn cut x k).1 = mkd x.s.1 ∨ mkd (nw keep tn cut x k).1 = mkd x.now.1 := by
  unfold nw
  split
  · exact mkd_trn _ _ _
  · split
    · exact .inr rfl
    · exact .inl rfl
theorem crash_cr (D : Dv) (keep : List Bool) (tn cut : Int) : Cr D.A (D.crash keep tn cut).A := by
  obtain ⟨q1, q2, q3⟩ := crashL_get (f := fun _ => none) (keep := keep) (tn := tn) (cut := cut) (uns D.A) D.A 0 (uns_nodup D.A) (fun i hi => uns_lt hi)
  refine ⟨q1, fun i x hx => ?_⟩
  by_cases c : i ∈ uns D.A
  · obtain ⟨m, hm, rfl⟩ := List.mem_iff_getElem.1 c
    obtain ⟨y, h1, h2⟩ := q3 m hm
    rw [hx] at h1
    obtain rfl : x = y := Option.some.inj h1
    refine ⟨_, h2, fun hu => ?_, nw_mkd _ _ _ _ _⟩
    obtain ⟨x', y', e1, e2⟩ := uns_mem.1 c
    rw [hx] at e1
    obtain rfl : x = x' := Option.some.inj e1
    rw [hu] at e2; cases e2
  · have hu : x.u = none := by
      cases hu : x.u with
      | none => rfl
      | some y => exact absurd (uns_mem.2 ⟨x, y, hx, hu⟩) c
    refine ⟨x.s, ?_, fun _ => rfl, .inl rfl⟩
    show (crashL (fun _ => none) keep tn cut D.A (uns D.A) 0)[i]? = _
    rw [q2 i c, hx]
    congr 1
    cases x
    simp only at hu
    rw [hu]
theorem crash_len (D : Dv) (keep : List Bool) (tn cut : Int) : (D.crash keep tn cut).A.length = D.A.length := (crash_cr D keep tn cut).1
theorem Fit.len_eq {A A' : List Sec} {L : List ByteArray} (h : Fit A L) (hl : A'.length = A.length) : Fit A' L := ⟨by rw [hl]; exact h.len, h.sz, h.n1, h.n2⟩
theorem rdy_crash {D : Dv} {L : List ByteArray} (h : Rdy D L) (keep : List Bool) (tn cut : Int) : Rdy (D.crash keep tn cut) L :=
  ⟨h.fit.len_eq (crash_len D keep tn cut), h.mark.sub fun z hz => (crash_cr D keep tn cut).sure hz, h.pg.sub fun i z _ hz => (crash_cr D keep tn cut).sure hz⟩
structure Cra where
  at_ : Int
  tn : Int
  cut : Int
  keep : List Bool
  vk : Value
def Cra.cells (c : Cra) : List Value := [.int .i64 c.at_, .int .i64 c.tn, .int .i64 c.cut, c.vk]
def oCra : RepT Cra := fun w cs x => cs = x.cells ∧ rdS 1 bR w x.vk x.keep
theorem oCra_st : Stable oCra := fun w w' es x hb h => ⟨h.1, rdS_below bR_st hb h.2⟩
theorem buildC0 (w : World) : (Instr.build 80 #[(0, .int .i64 (-1))]).run Tryz.prog w = .ok (.agg #[.int .i64 (-1), .int .i64 0, .int .i64 0, .slice none 0 0]) w := by
  kernel_rfl
section
variable {W w w' : World} {q p b r : Nat} {v u ur vs : Value} {G : Pg} {D : Dv} {Q : Value → World → Prop}
end
end Go.Proofs.YtongpnolikkknaaGreatDoor

namespace Go.Proofs.YtongpnolikkknaaGreatDoor
open Sh RowKit Go.MapKept
theorem ulBo : Tryz.prog.underlying 78 = some (.slice 4) := by kernel_rfl
theorem len4 {cs : List Value} (h : cs.length = 4) : ∃ a b c d, cs = [a, b, c, d] := by
  match cs, h with
  | [a, b, c, d], _ => exact ⟨a, b, c, d, rfl⟩
theorem op_cra : Opens Tryz.prog 80 Cra oCra (fun _ => 0) := by
  refine Opens.mono (op_struct Tryz.underlying80 (n := 4) (by kernel_rfl) (opf_cons (n := 1) (by kernel_rfl) (op_int ui) (opf_cons (n := 1) (by kernel_rfl) (op_int ui)
    (opf_cons (n := 1) (by kernel_rfl) (op_int ui) (opf_cons (n := 1) (by kernel_rfl) (op_slice ulBo (n := 1) (by kernel_rfl) (op_bool ub)) opf_nil))))) ?_
  rintro w cs ⟨a, t, c, l, ⟨⟩⟩ ⟨hl, ⟨h0, _⟩, ⟨h1, _⟩, ⟨h2, _⟩, ⟨v, h3, h3', _⟩, -⟩
  obtain ⟨c0, c1, c2, c3, rfl⟩ := len4 hl
  have e0 := one_cell (x := c0) h0
  have e1 := one_cell (x := c1) h1
  have e2 := one_cell (x := c2) h2
  have e3 := one_cell (x := c3) h3
  exact ⟨⟨a, t, c, l, v⟩, ⟨by rw [e0, e1, e2, e3]; rfl, h3'⟩, Nat.zero_le _⟩
theorem ulC : Tryz.prog.underlying 83 = some (.slice 80) := by kernel_rfl
theorem scLC : isSc Tryz.prog 83 = true := by kernel_rfl
theorem bCra : Tryz.prog.bytesOf 80 = 48 := by kernel_rfl
/-- a number, batches, crashes -/
def RiLBLC : World → List Value → Int × List Bat × List Cra → Prop := fun W vs x => ∃ v u, vs = [.int .i64 x.1, v, u] ∧ rdS 2 oBat W v x.2.1 ∧ rdS 4 oCra W u x.2.2 ∧ x.2.2.length ≤ 4611686018427387904
theorem oaiLBLC : OpensA Tryz.prog [3, 61, 83] (Int × List Bat × List Cra) RiLBLC (fun x => bkL x.2.1) := by
  refine OpensA.mono (oa_one (op_int ui) scI (fun w cs a h => ⟨_, h.1⟩) (oa_one (op_slice ulB (n := 2) (by kernel_rfl) op_bat) scLB (fun w cs a h => ⟨_, h.choose_spec.1⟩) (oa_one (op_slice ulC (n := 4) (by kernel_rfl) op_cra) scLC (fun w cs a h => ⟨_, h.choose_spec.1⟩) oa_nil))) ?_
  rintro W vs ⟨n, l, cz, ⟨⟩⟩ ⟨v, r, rfl, ⟨h1, _⟩, v2, r2, rfl, ⟨v', hv, hr, hl⟩, v3, r3, rfl, ⟨v3', hv3, hr3, hl3⟩, rfl⟩
  rw [bCra] at hl3
  unfold reachBytes at hl3
  exact ⟨(n, l, cz), ⟨v2, v3, by rw [one_cell h1], by rw [one_cell hv]; exact hr, by rw [one_cell hv3]; exact hr3, by simp only at hl3 ⊢; omega⟩, by show bkL l ≤ 1 + ((bkL l + 1) + _); omega⟩
end Go.Proofs.YtongpnolikkknaaGreatDoor

set_option maxRecDepth 20000
set_option maxHeartbeats 4000000
namespace Go.Proofs.YtongpnolikkknaaGreatDoor
open Sh RowKit Go.MapKept
theorem stop_c (D : Dv) (n : Int) : (D.stop n).c = D.c := rfl
section
variable {B : Nat} {W w w' : World} {q p b r : Nat} {v u ur vs : Value} {G : Pg} {D : Dv} {L : List ByteArray} {Q : Value → World → Prop}
theorem again_end (hd : DevAt B w p v b D) (hf : Fit D.A L) (hh : Holds D.A L) (hD : D.h = 4611686018427387904) (h0 : 0 ≤ D.c) (h1 : D.c + 200 ≤ 1000000)
    (kk : ∀ w' q u D', w.heap.size ≤ q → w'.heap[q]? = some (.cells #[pv p, u, .bool false, .int .i64 0] 133 (0, 0)) → ownV w.heap.size 9 w' u (L.map .string) → DevAt B w' p v b D' → Rdy D' L → D'.h = 4611686018427387904 → D.c ≤ D'.c → D'.c ≤ D.c + 200 → ChgS (fpD p v b) w w' → Q (pv q) w') :
    f53_j1 (pv p) (.int .i64 ((L.length : Nat) : Int)) w Q := by
  unfold f53_j1
  try simp only [↓reduceIte, ↓LL, LM, Value.cells, Nat.reduceAdd, Option.some.injEq, exists_eq_left', decide_true, decide_false, if_true, if_false, reduceCtorEq, cond_true, cond_false]
  obtain ⟨e1, e2, e3, e4, e5, e6, e7, e8⟩ := open_two hf hh
  have e0 := e8 (by rw [hD]; omega)
  refine f40_s hd h0 h1 (fun hne => absurd e0 hne) (fun _ w' q u hq1 hq2 hu hd' hc => ?_)
  rw [e1] at hu
  try simp only [↓reduceIte, ↓LL, LM, Value.cells, Nat.reduceAdd, Option.some.injEq, exists_eq_left', decide_true, decide_false, if_true, if_false, reduceCtorEq, cond_true, cond_false, get0, get1, ne_eq]
  rcases e6 with ⟨_, m1, m2⟩ | e9
  · exact kk w' q u _ hq1 hq2 hu hd' ⟨hf.len_eq e5, m1, m2⟩ (by rw [e2, hD]) e3 e4 hc
  · rw [e0] at e9; cases e9
theorem again_loop {W : World} {l : List Cra} (hl : rdS 4 oCra W vs l) (hWB : W.heap.size ≤ B) (hll : l.length ≤ 4611686018427387904) (w0 : World) (D0 : Dv) (hw0 : ∀ k, fpD p v b k → k < w0.heap.size) :
    ∀ (d m i : Nat) (w : World) (D : Dv), i + d = min l.length 4 → d < m → Below W.heap.size W w → ChgS (fpD p v b) w0 w → DevAt B w p v b D → Fit D.A L → Holds D.A L → D.h = 4611686018427387904 → D0.c ≤ D.c → D.c ≤ D0.c + 200 * i → 0 ≤ D0.c → D0.c + 1000 ≤ 1000000 →
    (∀ w' q u D', w0.heap.size ≤ q → w'.heap[q]? = some (.cells #[pv p, u, .bool false, .int .i64 0] 133 (0, 0)) → ownV w0.heap.size 9 w' u (L.map .string) → DevAt B w' p v b D' → Rdy D' L → D'.h = 4611686018427387904 → D0.c ≤ D'.c → D'.c ≤ D0.c + 1000 → ChgS (fpD p v b) w0 w' → Q (pv q) w') →
    itr (fun _ _ _ _ => bot) (f53_b2 f53_j1) m (pv p) (.int .i64 ((L.length : Nat) : Int)) vs (.int .i64 ((i : Nat) : Int)) w Q := by
  intro d
  induction d with
  | zero =>
    intro m i w D hi hm hb hc0 hd hf hh hD c0 c1 z0 z1 kk
    obtain ⟨m, rfl⟩ : ∃ x, m = x + 1 := ⟨m - 1, by omega⟩
    show f53_b2 f53_j1 _ _ _ _ _ w Q
    unfold f53_b2
    have lv := lnl_S hl
    have fin : f53_j1 (pv p) (.int .i64 ((L.length : Nat) : Int)) w Q := by
      have sz := hc0.size
      refine again_end hd hf hh hD (by omega) (by omega) fun w' q u D' k1 k2 k3 k4 k5 k6 k7 k8 k9 => kk w' q u D' (by omega) k2 (ownV_weak k3 sz) k4 k5 k6 (by omega) (by omega) (hc0.trans k9 fun _ _ h => h)
    by_cases c : (i : Int) < (l.length : Nat)
    · have c2 : ¬ (i : Int) < 4 := by omega
      try simp only [↓reduceIte, ↓LL, LM, Value.cells, Nat.reduceAdd, Option.some.injEq, exists_eq_left', decide_true, decide_false, if_true, if_false, reduceCtorEq, cond_true, cond_false, lv, c, c2]
      exact fin
    · try simp only [↓reduceIte, ↓LL, LM, Value.cells, Nat.reduceAdd, Option.some.injEq, exists_eq_left', decide_true, decide_false, if_true, if_false, reduceCtorEq, cond_true, cond_false, lv, c]
      exact fin
  | succ d ih =>
    intro m i w D hi hm hb hc0 hd hf hh hD c0 c1 z0 z1 kk
    obtain ⟨m, rfl⟩ : ∃ x, m = x + 1 := ⟨m - 1, by omega⟩
    show f53_b2 f53_j1 _ _ _ _ _ w Q
    unfold f53_b2
    have lv := lnl_S hl
    have c : (i : Int) < (l.length : Nat) := by omega
    have c2 : (i : Int) < 4 := by omega
    have hil : l.length - 1 - i < l.length := by omega
    have h3 : IntKind.i64.wrap ((i : Int) + 1) = ((i + 1 : Nat) : Int) := by rw [w64 (by omega) (by omega)]; rfl
    have h4 : IntKind.i64.wrap (((l.length : Nat) : Int) - 1) = ((l.length : Nat) : Int) - 1 := w64 (by omega) (by omega)
    have h5 : IntKind.i64.wrap (((l.length : Nat) : Int) - 1 - (i : Int)) = ((l.length - 1 - i : Nat) : Int) := by rw [w64 (by omega) (by omega)]; omega
    obtain ⟨aad, es, he1, he2, ⟨he3, hkW⟩, hia⟩ := rdS_at hl hil
    try simp only [↓reduceIte, ↓LL, LM, Value.cells, Nat.reduceAdd, Option.some.injEq, exists_eq_left', decide_true, decide_false, if_true, if_false, reduceCtorEq, cond_true, cond_false, lv, c, c2, h4, h5, hia]
    refine ldn_at (cellsAt_below hb he2) he1 ?_
    rw [he3]
    generalize l[l.length - 1 - i] = x at *
    have b1 := b_psh w (.cells #[.int .i64 0, .int .i64 0, .int .i64 0, .slice none 0 0] 80)
    have k1 := blk_psh_new (w := w) (o := .cells #[.int .i64 0, .int .i64 0, .int .i64 0, .slice none 0 0] 80)
    try simp only [↓reduceIte, ↓LL, LM, Value.cells, Nat.reduceAdd, Option.some.injEq, exists_eq_left', decide_true, decide_false, if_true, if_false, reduceCtorEq, cond_true, cond_false]
    generalize psh w (.cells #[.int .i64 0, .int .i64 0, .int .i64 0, .slice none 0 0] 80) = w1 at *
    have onev : ∀ y ∈ x.cells.toArray.toList, y.oneCell' = true := by
      intro y hy
      have hv1 : x.vk.oneCell' = true := by
        rcases hkW with ⟨e, _⟩ | ⟨a, cc, e, _⟩ <;> rw [e] <;> rfl
      simp only [Cra.cells] at hy
      rcases List.mem_cons.1 hy with rfl | hy
      · rfl
      rcases List.mem_cons.1 hy with rfl | hy
      · rfl
      rcases List.mem_cons.1 hy with rfl | hy
      · rfl
      rw [List.mem_singleton.1 hy]; exact hv1
    refine stn_box k1 (by rfl) (by rfl) onev fun w2 k2 u2 => ?_
    have b2 : Below w.heap.size w w2 := b1.trans (u2.below (Nat.le_refl _))
    have z2 : w.heap.size < w2.heap.size := blk_lt k2
    have d2 := hd.below b2
    have hc2 : ChgS (fpD p v b) w0 w2 := hc0.trans (ChgS.of_below b2) fun _ _ h => h
    have hb2 := bt hb b2
    have q2 : w2.cell? ⟨w.heap.size, 2, none⟩ = some (.int .i64 x.cut) := by rw [cell_of_blk k2]; rfl
    have szw : w0.heap.size ≤ w.heap.size := hc0.size
    have nfp : ¬ fpD p v b w.heap.size := fun h => by have := hw0 _ h; omega
    try simp only [↓reduceIte, ↓LL, LM, Value.cells, Nat.reduceAdd, Option.some.injEq, exists_eq_left', decide_true, decide_false, if_true, if_false, reduceCtorEq, cond_true, cond_false, q2]
    refine f52_s d2 (by omega) (by omega) x.cut fun w3 d3 u3 => ?_
    have hc3' : ChgS (fpD p v b) w2 w3 := ChgS.of_upd u3 (.inl rfl)
    have hc3 : ChgS (fpD p v b) w0 w3 := hc2.trans hc3' fun _ _ h => h
    have k3 := hc3'.keep k2 nfp
    have hb3 : Below W.heap.size W w3 := hb2.trans (hc3'.below (fun k hk => Nat.le_trans hWB (fpD_B d2 k hk)) hb2.size)
    try simp only [↓reduceIte, ↓LL, LM, Value.cells, Nat.reduceAdd, Option.some.injEq, exists_eq_left', decide_true, decide_false, if_true, if_false, reduceCtorEq, cond_true, cond_false]
    obtain ⟨e1, e2, e3, e4, e5, e6, e7, e8⟩ := open_two (D := D.stop x.cut) hf hh
    have next : ∀ (w5 : World) (Kc : Value → World → Prop), (∀ y w', itr (fun _ _ _ _ => bot) (f53_b2 f53_j1) m (pv p) (.int .i64 ((L.length : Nat) : Int)) vs (.int .i64 ((i + 1 : Nat) : Int)) w' Q → Kc y w') →
        DevAt B w5 p v b (openB (D.stop x.cut) (L.length : Nat)).2.1 → ChgS (fpD p v b) w3 w5 → f51 (pv p) x.vk (.int .i64 x.tn) (.int .i64 x.at_) w5 Kc := by
      intro w5 Kc hK d5 hc5
      have hb5 : Below W.heap.size W w5 := hb3.trans (hc5.below (fun k hk => Nat.le_trans hWB (fpD_B d3 k hk)) hb3.size)
      refine f51_s (W := W) (keep := x.keep) hkW hb5 hWB d5 fun w6 d6 hc6 => hK _ _ ?_
      have hb6 : Below W.heap.size W w6 := hb5.trans (hc6.below (fun k hk => Nat.le_trans hWB (fpD_B d5 k hk)) hb5.size)
      have ec : ((openB (D.stop x.cut) (L.length : Nat)).2.1.crash x.keep x.tn x.at_).c = (openB (D.stop x.cut) (L.length : Nat)).2.1.c := rfl
      rw [stop_c] at e3 e4
      refine ih m (i + 1) w6 _ (by omega) (by omega) hb6 ((hc3.trans hc5 fun _ _ h => h).trans hc6 fun _ _ h => h) d6 (hf.len_eq ?_) (e7 _ (crash_cr _ _ _ _)) rfl (by rw [ec]; omega) (by rw [ec]; omega) z0 z1 kk
      rw [crash_len, e5]; rfl
    have k30 : ∀ w5, ChgS (fpD p v b) w3 w5 → w5.cell? ⟨w.heap.size, 0, none⟩ = some (.int .i64 x.at_) ∧ w5.cell? ⟨w.heap.size, 1, none⟩ = some (.int .i64 x.tn) ∧ w5.cell? ⟨w.heap.size, 3, none⟩ = some x.vk := by
      intro w5 hc5
      have k5 := hc5.keep k3 nfp
      exact ⟨by rw [cell_of_blk k5]; rfl, by rw [cell_of_blk k5]; rfl, by rw [cell_of_blk k5]; rfl⟩
    refine f40_s d3 (by rw [stop_c]; omega) (by rw [stop_c]; omega) (fun hne w5 d5 hc5 => ?_) (fun he w5 q u _ _ _ d5 hc5 => ?_)
    · have e9 : (openB (D.stop x.cut) (L.length : Nat)).1 = 9 := e6.elim (fun h => absurd h.1 hne) id
      obtain ⟨g0, g1, g3⟩ := k30 w5 hc5
      rw [e9]
      have z : ¬ (9 : Int) = 0 := by decide
      try simp only [↓reduceIte, ↓LL, LM, Value.cells, Nat.reduceAdd, Option.some.injEq, exists_eq_left', decide_true, decide_false, if_true, if_false, reduceCtorEq, cond_true, cond_false, get0, get1, ne_eq, z, g0, g1, g3]
      refine next w5 _ (fun y w' h => ?_) d5 hc5
      try simp only [↓reduceIte, ↓LL, LM, Value.cells, Nat.reduceAdd, Option.some.injEq, exists_eq_left', decide_true, decide_false, if_true, if_false, reduceCtorEq, cond_true, cond_false, h3]
      exact h
    · obtain ⟨g0, g1, g3⟩ := k30 w5 hc5
      try simp only [↓reduceIte, ↓LL, LM, Value.cells, Nat.reduceAdd, Option.some.injEq, exists_eq_left', decide_true, decide_false, if_true, if_false, reduceCtorEq, cond_true, cond_false, get0, get1, ne_eq, g0, g1, g3]
      refine next w5 _ (fun y w' h => ?_) d5 hc5
      try simp only [↓reduceIte, ↓LL, LM, Value.cells, Nat.reduceAdd, Option.some.injEq, exists_eq_left', decide_true, decide_false, if_true, if_false, reduceCtorEq, cond_true, cond_false, h3]
      exact h
theorem f53_s {l : List Cra} (hl : rdS 4 oCra W vs l) (hWB : W.heap.size ≤ B) (hll : l.length ≤ 4611686018427387904) (hb : Below W.heap.size W w) (hd : DevAt B w p v b D) (hf : Fit D.A L) (hh : Holds D.A L) (hD : D.h = 4611686018427387904) (h0 : 0 ≤ D.c) (h1 : D.c + 1000 ≤ 1000000)
    (kk : ∀ w' q u D', w.heap.size ≤ q → w'.heap[q]? = some (.cells #[pv p, u, .bool false, .int .i64 0] 133 (0, 0)) → ownV w.heap.size 9 w' u (L.map .string) → DevAt B w' p v b D' → Rdy D' L → D'.h = 4611686018427387904 → D.c ≤ D'.c → D'.c ≤ D.c + 1000 → ChgS (fpD p v b) w w' → Q (pv q) w') :
    f53 (pv p) (.int .i64 ((L.length : Nat) : Int)) vs w Q := by
  unfold f53
  exact ⟨_, again_loop hl hWB hll w D hd.lt (min l.length 4) (min l.length 4 + 1) 0 w D (by omega) (by omega) hb (ChgS.refl _ _) hd hf hh hD (Int.le_refl _) (by omega) h0 h1 kk⟩
end
end Go.Proofs.YtongpnolikkknaaGreatDoor

set_option maxRecDepth 20000
set_option maxHeartbeats 4000000
namespace Go.Proofs.YtongpnolikkknaaGreatDoor
open Sh RowKit Go.MapKept
theorem commit_cr {G : Pg} {D : Dv} {cs : List Ch} (h : Rdy D G.L) (hv : mayB G.st G.L.length cs = 0) :
    D.c ≤ (commitB G D cs).2.1.c ∧ (commitB G D cs).2.1.c ≤ D.c + 300 ∧ (commitB G D cs).2.1.A.length = D.A.length ∧
    ((commitB G D cs).1 = 0 ∧ (commitB G D cs).2.2.L = setL G.L cs ∧ Rdy (commitB G D cs).2.1 (setL G.L cs) ∨
     (commitB G D cs).1 = 9 ∧ (commitB G D cs).2.2 = { G with st := true } ∧ ∀ A', Cr (commitB G D cs).2.1.A A' → Holds A' G.L ∨ Holds A' (setL G.L cs)) := by
  by_cases c : cs = []
  · subst c
    rw [commit_no (.inr rfl), hv]
    exact ⟨Int.le_refl _, by show D.c ≤ D.c + 300; omega, rfl, .inl ⟨rfl, rfl, h⟩⟩
  · obtain ⟨h1, h2, h3, h4, h5, h6, h7⟩ := commit_two h.fit h.mark h.pg hv c
    have hst := (mayB_ok hv).1
    have hv' := hv
    rw [hst] at hv'
    refine ⟨h2, h3, h4, ?_⟩
    rcases h6 with ⟨e0, q1, q2, q3, _⟩ | ⟨e9, q⟩
    · exact .inl ⟨e0, by rw [q1], setL_fit h.fit hv' h4, q2, q3⟩
    · exact .inr ⟨e9, q, h5⟩
structure StC (W w : World) (q p b r : Nat) (v u ur : Value) (G : Pg) (D : Dv) : Prop where
  pg : PgAt W.heap.size w q p b v u G D
  rf : RfAt W.heap.size w r ur G.L
  ap : ∀ k, fpP q p b v u k → ¬ fpR r ur k
  bw : Below W.heap.size W w
  rdy : Rdy D G.L
  st : G.st = false
  gc : G.c = 0
  hh : D.h = 4611686018427387904
section
variable {W w w' : World} {p b : Nat} {v vs cv : Value} {Q : Value → World → Prop}
theorem crash_loop {l : List Bat} {cz : List Cra} {n : Nat} (hl : rdS 2 oBat W vs l) (hl30 : l.length ≤ 30) (hps : ∀ x ∈ l, x.ps.length ≤ 1048576) (hn : n ≤ 40) (hcl : rdS 4 oCra W cv cz) (hll : cz.length ≤ 4611686018427387904) :
    ∀ (d m i : Nat) (w : World) (q r : Nat) (u ur : Value) (G : Pg) (D : Dv) (a : Nat), i + d = l.length → d < m → StC W w q p b r v u ur G D → G.L.length = n → 0 ≤ D.c → D.c ≤ 1300 * i → a ≤ i → (∀ w', Below W.heap.size W w' → Q (.bool true) w') →
    itr (fun _ _ _ _ _ _ _ _ => bot) (f9_b2 f9_j1) m (.int .i64 ((n : Nat) : Int)) vs cv (pv p) (pv q) (pv r) (.int .i64 ((a : Nat) : Int)) (.int .i64 ((i : Nat) : Int)) w Q := by
  intro d
  induction d with
  | zero =>
    intro m i w q r u ur G D a hi hm hs hL c0 c1 ha kk
    obtain ⟨m, rfl⟩ : ∃ x, m = x + 1 := ⟨m - 1, by omega⟩
    show f9_b2 f9_j1 _ _ _ _ _ _ _ _ _ w Q
    unfold f9_b2
    have lv := lnl_S hl
    have cc : ¬ (i : Int) < (l.length : Nat) := by omega
    try simp only [↓reduceIte, ↓LL, LM, Value.cells, Nat.reduceAdd, Option.some.injEq, exists_eq_left', decide_true, decide_false, if_true, if_false, reduceCtorEq, cond_true, cond_false, lv, cc]
    unfold f9_j1
    try simp only [↓reduceIte, ↓LL, LM, Value.cells, Nat.reduceAdd, Option.some.injEq, exists_eq_left', decide_true, decide_false, if_true, if_false, reduceCtorEq, cond_true, cond_false]
    exact kk w hs.bw
  | succ d ih =>
    intro m i w q r u ur G D a hi hm hs hL c0 c1 ha kk
    obtain ⟨m, rfl⟩ : ∃ x, m = x + 1 := ⟨m - 1, by omega⟩
    show f9_b2 f9_j1 _ _ _ _ _ _ _ _ _ w Q
    unfold f9_b2
    have lv := lnl_S hl
    have lc := lnl_S hcl
    have cc : (i : Int) < (l.length : Nat) := by omega
    have hil : i < l.length := by omega
    have h3 : IntKind.i64.wrap ((i : Int) + 1) = ((i + 1 : Nat) : Int) := by rw [w64 (by omega) (by omega)]; rfl
    have h4 : IntKind.i64.wrap ((a : Int) + 1) = ((a + 1 : Nat) : Int) := by rw [w64 (by omega) (by omega)]; rfl
    obtain ⟨aad, es, he1, he2, ⟨he3, hrp, hrb, _⟩, hia⟩ := rdS_at (rdS_below oBat_st hs.bw hl) hil
    have hpl := hps _ (List.getElem_mem hil)
    try simp only [↓reduceIte, ↓LL, LM, Value.cells, Nat.reduceAdd, Option.some.injEq, exists_eq_left', decide_true, decide_false, if_true, if_false, reduceCtorEq, cond_true, cond_false, lv, cc, hia]
    refine ldn_at he2 he1 ?_
    rw [he3]
    generalize l[i] = x at *
    -- the round's end
    have tail : ∀ (w : World) (q r : Nat) (u ur : Value) (G : Pg) (D : Dv) (a : Nat), StC W w q p b r v u ur G D → G.L.length = n → 0 ≤ D.c → D.c ≤ 1300 * (i + 1 : Nat) → a ≤ i + 1 →
        f9_j3 (itr (fun _ _ _ _ _ _ _ _ => bot) (f9_b2 f9_j1) m) (.int .i64 ((n : Nat) : Int)) vs cv (pv p) (pv q) (pv r) (.int .i64 ((a : Nat) : Int)) (.int .i64 ((i : Nat) : Int)) w Q := by
      intro w q r u ur G D a hs hL c0 c1 ha
      unfold f9_j3
      try simp only [↓reduceIte, ↓LL, LM, Value.cells, Nat.reduceAdd, Option.some.injEq, exists_eq_left', decide_true, decide_false, if_true, if_false, reduceCtorEq, cond_true, cond_false, h3]
      exact ih m (i + 1) w q r u ur G D a (by omega) (by omega) hs hL c0 c1 ha kk
    try simp only [↓reduceIte, ↓LL, LM, Value.cells, Nat.reduceAdd, Option.some.injEq, exists_eq_left', decide_true, decide_false, if_true, if_false, reduceCtorEq, cond_true, cond_false]
    refine f42_s hrp hrb hpl fun w1 x1 y1 b1 hx1 hy1 => ?_
    have hp1 := hs.pg.below b1
    have hr1 := hs.rf.below b1
    have hb1 := bt hs.bw b1
    have z1 : w.heap.size ≤ w1.heap.size := b1.size
    generalize hcs : chsB x.ps x.bs x.ps.length = cs at *
    have hyr1 := ownE_rd encC_len (by decide) hy1
    try simp only [↓reduceIte, ↓LL, LM, Value.cells, Nat.reduceAdd, Option.some.injEq, exists_eq_left', decide_true, decide_false, if_true, if_false, reduceCtorEq, cond_true, cond_false, get0, get1]
    refine f45_s hr1 hyr1 (by omega) fun w2 b2 => ?_
    have hp2 := hp1.below b2
    have hr2 := hr1.below b2
    have hb2 := bt hb1 b2
    have z2 : w1.heap.size ≤ w2.heap.size := b2.size
    by_cases hv : mayB false G.L.length cs = 0
    · rw [hv]
      have h31 := (mayB_ok hv).2.1
      have hbd := (mayB_ok hv).2.2.1
      try simp only [↓reduceIte, ↓LL, LM, Value.cells, Nat.reduceAdd, Option.some.injEq, exists_eq_left', decide_true, decide_false, if_true, if_false, reduceCtorEq, cond_true, cond_false, ne_eq]
      refine f46_s hr2 (rdS_below eR_st b2 hyr1) h31 hbd (by omega) fun w3 r3 ur3 b3 hr3 => ?_
      have hp3 := hp2.below b3
      have hro3 := hr2.below b3
      have hb3 := bt hb2 b3
      have z3 : w2.heap.size ≤ w3.heap.size := b3.size
      try simp only [↓reduceIte, ↓LL, LM, Value.cells, Nat.reduceAdd, Option.some.injEq, exists_eq_left', decide_true, decide_false, if_true, if_false, reduceCtorEq, cond_true, cond_false]
      rw [smr_run (buildC0 w3)]
      have b4 := b_psh w3 (.cells #[.int .i64 0, .int .i64 0, .int .i64 0, .slice none 0 0] 80)
      have k4 := blk_psh_new (w := w3) (o := .cells #[.int .i64 0, .int .i64 0, .int .i64 0, .slice none 0 0] 80)
      try simp only [↓reduceIte, ↓LL, LM, Value.cells, Nat.reduceAdd, Option.some.injEq, exists_eq_left', decide_true, decide_false, if_true, if_false, reduceCtorEq, cond_true, cond_false]
      generalize psh w3 (.cells #[.int .i64 0, .int .i64 0, .int .i64 0, .slice none 0 0] 80) = w4 at *
      refine stn_box k4 rfl rfl (by intro y hy; simp at hy; rcases hy with rfl | rfl | rfl | rfl <;> rfl) fun w5 k5 u5 => ?_
      have b5 : Below w3.heap.size w3 w5 := b4.trans (u5.below (Nat.le_refl _))
      -- the call under way, with a crash x
      have round : ∀ (w6 : World) (x : Cra), w6.heap[w3.heap.size]? = some (.cells x.cells.toArray 80 (0, 0)) → rdS 1 bR W x.vk x.keep → Below w3.heap.size w3 w6 →
          f9_j4 (f9_j3 (itr (fun _ _ _ _ _ _ _ _ => bot) (f9_b2 f9_j1) m)) (.int .i64 ((n : Nat) : Int)) vs cv (pv p) (pv q) (pv r) (.int .i64 ((a : Nat) : Int)) (.int .i64 ((i : Nat) : Int)) x1 (pv r3) (pv w3.heap.size) w6 Q := by
        intro w6 x k6 hkW b6
        have hp6 := hp3.below b6
        have hro6 := hro3.below b6
        have hrn6 := hr3.below b6
        have hb6 := bt hb3 b6
        have z6 : w3.heap.size < w6.heap.size := blk_lt k6
        have hx6 : ownE w.heap.size 48 2 encC w6 x1 cs := ownE_below (ownE_below (ownE_below hx1 b2) b3) b6
        have plt : ∀ k, fpP q p b v u k → k < w.heap.size := hs.pg.lt
        have keepAll : ∀ w', ChgS (fpP q p b v u) w6 w' → RfAt W.heap.size w' r ur G.L ∧ RfAt W.heap.size w' r3 ur3 (setL G.L cs) ∧ w'.heap[w3.heap.size]? = some (.cells x.cells.toArray 80 (0, 0)) ∧ Below W.heap.size W w' ∧ ownE w.heap.size 48 2 encC w' x1 cs := by
          intro w' hc
          refine ⟨hro6.chg hc fun k hk hn => hs.ap k hn hk, (hrn6.weak (Nat.le_trans hb1.size z2)).chg hc fun k hk hn => ?_, hc.keep k6 fun hn => ?_, hb6.trans (hc.below (fun k hk => hp6.fpB k hk) hb6.size), ownE_chg hx6 hc fun g hg hn => ?_⟩
          · have := hrn6.fpB k hk
            have := plt k hn
            omega
          · have := plt _ hn
            omega
          · have := (ownE_blk hx6 g hg).1
            have := plt g hn
            omega
        unfold f9_j4
        have g0 : w6.cell? ⟨w3.heap.size, 0, none⟩ = some (.int .i64 x.at_) := by rw [cell_of_blk k6]; rfl
        try simp only [↓reduceIte, ↓LL, LM, Value.cells, Nat.reduceAdd, Option.some.injEq, exists_eq_left', decide_true, decide_false, if_true, if_false, reduceCtorEq, cond_true, cond_false, h4, g0]
        refine f52_s hp6.dev c0 (by omega) x.at_ fun w7 d7 u7 => ?_
        have hc7 : ChgS (fpP q p b v u) w6 w7 := ChgS.of_upd u7 (.inr (.inr (.inl rfl)))
        obtain ⟨_, _, _, hb7, hx7⟩ := keepAll w7 hc7
        have hq7 : PgAt W.heap.size w7 q p b v u G (D.stop x.at_) := by
          have nq : q ≠ p := fun e => by
            have h1 := hp6.hq
            have h2 := hp6.dev.hp
            rw [e, h2] at h1
            cases h1
          refine ⟨d7, hp6.qB, by rw [u7.block q nq]; exact hp6.hq, ownV_stay hp6.hu fun g hg => u7.block g fun e => ?_⟩
          obtain ⟨_, _, cur, hcur⟩ := ownV_lt hp6.hu g hg
          rw [e, hp6.dev.hp] at hcur
          cases hcur
        have rdy1 : Rdy (D.stop x.at_) G.L := ⟨hs.rdy.fit, hs.rdy.mark, hs.rdy.pg⟩
        obtain ⟨m1, m2, m3, m4⟩ := commit_cr (cs := cs) rdy1 (by rw [hs.st]; exact hv)
        try simp only [↓reduceIte, ↓LL, LM, Value.cells, Nat.reduceAdd, Option.some.injEq, exists_eq_left', decide_true, decide_false, if_true, if_false, reduceCtorEq, cond_true, cond_false]
        rw [stop_c] at m1 m2
        refine commit_at hq7 hx7 (by rw [stop_c]; exact c0) (by rw [stop_c]; omega) (by rw [hs.gc]; decide) (by rw [hs.gc]; decide) (by omega) fun w8 hp8 hc8' => ?_
        have hc8 : ChgS (fpP q p b v u) w6 w8 := hc7.trans hc8' fun _ _ h => h
        obtain ⟨ro8, rn8, k8, hb8, hx8⟩ := keepAll w8 hc8
        generalize hcm : commitB G (D.stop x.at_) cs = R at *
        -- behind the crash: opened anew
        have anew : ∀ (w9 : World) (G9 : Pg) (L' : List ByteArray) (Kc : Value → World → Prop), L'.length = n → PgAt W.heap.size w9 q p b v u G9 R.2.1 → ChgS (fpP q p b v u) w6 w9 → Fit (R.2.1.crash x.keep x.tn x.cut).A L' → Holds (R.2.1.crash x.keep x.tn x.cut).A L' →
            (∀ w11 q' u' D', PgAt W.heap.size w11 q' p b v u' ⟨L', false, 0⟩ D' → Rdy D' L' → D'.h = 4611686018427387904 → 0 ≤ D'.c → D'.c ≤ 1300 * (i + 1 : Nat) → ChgS (fpP q p b v u) w6 w11 → (∀ k, fpP q' p b v u' k → fpP q p b v u k ∨ w6.heap.size ≤ k) → Kc (pv q') w11) →
            f51 (pv p) x.vk (.int .i64 x.tn) (.int .i64 x.cut) w9 (fun _ w' => f53 (pv p) (.int .i64 ((n : Nat) : Int)) cv w' Kc) := by
          intro w9 G9 L' Kc hLn hp9 hc9 hf9 hh9 hK
          obtain ⟨_, _, _, hb9, _⟩ := keepAll w9 hc9
          refine f51_s (W := W) hkW hb9 (Nat.le_refl _) hp9.dev fun w10 d10 hc10' => ?_
          have hc10 : ChgS (fpP q p b v u) w6 w10 := hc9.trans (hc10'.mono fun k h => .inr (.inr h)) fun _ _ h => h
          obtain ⟨_, _, _, hb10, _⟩ := keepAll w10 hc10
          have ec : (R.2.1.crash x.keep x.tn x.cut).c = R.2.1.c := rfl
          subst hLn
          refine f53_s (W := W) hcl (Nat.le_refl _) hll hb10 d10 hf9 hh9 rfl (by rw [ec]; omega) (by rw [ec]; omega) fun w11 q' u' D' k1 k2 k3 k4 k5 k6' k7 k8 k9 => ?_
          rw [ec] at k7 k8
          have s10 := hc10.size
          refine hK w11 q' u' D' ⟨k4, Nat.le_trans hb10.size k1, k2, ownV_weak k3 hb10.size⟩ k5 k6' (by omega) (by omega) (hc10.trans (k9.mono fun k h => .inr (.inr h)) fun _ _ h => h) fun k hk => ?_
          rcases hk with rfl | hk | hk
          · right; omega
          · right; have := (ownV_lt k3 k hk).1; omega
          · exact .inl (.inr (.inr hk))
        -- the last look
        have look : ∀ (w11 : World) (q' r' : Nat) (u' ur' : Value) (L' : List ByteArray) (D' : Dv), L'.length = n → PgAt W.heap.size w11 q' p b v u' ⟨L', false, 0⟩ D' → Rdy D' L' → D'.h = 4611686018427387904 → 0 ≤ D'.c → D'.c ≤ 1300 * (i + 1 : Nat) → Below W.heap.size W w11 → RfAt W.heap.size w11 r' ur' L' → (∀ k, fpP q' p b v u' k → ¬ fpR r' ur' k) →
            f9_j6 (f9_j3 (itr (fun _ _ _ _ _ _ _ _ => bot) (f9_b2 f9_j1) m)) (.int .i64 ((n : Nat) : Int)) vs cv (pv p) (pv q') (pv r') (.int .i64 ((a + 1 : Nat) : Int)) (.int .i64 ((i : Nat) : Int)) w11 Q := by
          intro w11 q' r' u' ur' L' D' hLn hp11 rdy11 h11 c011 c111 hb11 hr11 hap11
          unfold f9_j6
          try simp only [↓reduceIte, ↓LL, LM, Value.cells, Nat.reduceAdd, Option.some.injEq, exists_eq_left', decide_true, decide_false, if_true, if_false, reduceCtorEq, cond_true, cond_false]
          refine f49_s hp11.hq hp11.hu hr11 (by omega) fun w12 b12 => ?_
          rw [decide_eq_true rfl]
          try simp only [↓reduceIte, ↓LL, LM, Value.cells, Nat.reduceAdd, Option.some.injEq, exists_eq_left', decide_true, decide_false, if_true, if_false, reduceCtorEq, cond_true, cond_false]
          exact tail w12 q' r' u' ur' ⟨L', false, 0⟩ D' (a + 1) ⟨hp11.below b12, hr11.below b12, hap11, bt hb11 b12, rdy11, rfl, rfl, h11⟩ hLn c011 c111 (by omega)
        have lset : (setL G.L cs).length = n := by rw [setL_len]; exact hL
        have apO : ∀ w', ChgS (fpP q p b v u) w6 w' → ∀ k, fpP q p b v u k ∨ w6.heap.size ≤ k → ¬ fpR r ur k := fun w' hc k hk hn => by
          rcases hk with hk | hk
          · exact hs.ap k hk hn
          · have := hro6.lt k hn; omega
        have apN : ∀ w', ChgS (fpP q p b v u) w6 w' → ∀ k, fpP q p b v u k ∨ w6.heap.size ≤ k → ¬ fpR r3 ur3 k := fun w' hc k hk hn => by
          rcases hk with hk | hk
          · have := plt k hk
            have := hrn6.fpB k hn
            omega
          · have := hrn6.lt k hn; omega
        rcases m4 with ⟨e0, eL, rdy8⟩ | ⟨e9, eG, hcr⟩
        · -- it ended well
          rw [e0]
          try simp only [↓reduceIte, ↓LL, LM, Value.cells, Nat.reduceAdd, Option.some.injEq, exists_eq_left', decide_true, decide_false, if_true, if_false, reduceCtorEq, cond_true, cond_false]
          unfold f9_j5
          try simp only [↓reduceIte, ↓LL, LM, Value.cells, Nat.reduceAdd, Option.some.injEq, exists_eq_left', decide_true, decide_false, if_true, if_false, reduceCtorEq, cond_true, cond_false, ne_eq]
          have hu8 := hp8.hu
          rw [eL] at hu8
          refine f49_s (G := ⟨setL G.L cs, R.2.2.st, R.2.2.c⟩) hp8.hq hu8 rn8 (by show (setL G.L cs).length ≤ 1000; omega) fun w9 b9 => ?_
          rw [decide_eq_true rfl]
          have hp9 := hp8.below b9
          have hc9 : ChgS (fpP q p b v u) w6 w9 := hc8.trans (ChgS.of_below b9) fun _ _ h => h
          obtain ⟨_, _, k9, _, _⟩ := keepAll w9 hc9
          have g1 : w9.cell? ⟨w3.heap.size, 1, none⟩ = some (.int .i64 x.tn) := by rw [cell_of_blk k9]; rfl
          have g2 : w9.cell? ⟨w3.heap.size, 2, none⟩ = some (.int .i64 x.cut) := by rw [cell_of_blk k9]; rfl
          have g3 : w9.cell? ⟨w3.heap.size, 3, none⟩ = some x.vk := by rw [cell_of_blk k9]; rfl
          have z09 : ¬ (0 : Int) = 9 := by decide
          try simp only [↓reduceIte, ↓LL, LM, Value.cells, Nat.reduceAdd, Option.some.injEq, exists_eq_left', decide_true, decide_false, if_true, if_false, reduceCtorEq, cond_true, cond_false, ne_eq, g1, g2, g3, z09]
          have rdyC := rdy_crash rdy8 x.keep x.tn x.cut
          refine anew w9 R.2.2 (setL G.L cs) _ lset hp9 hc9 rdyC.fit (.inl ⟨rdyC.mark, rdyC.pg⟩) fun w11 q' u' D' hp11 rdy11 h11 c011 c111 hc11 hk11 => ?_
          obtain ⟨_, rn11, _, hb11, _⟩ := keepAll w11 hc11
          try simp only [↓reduceIte, ↓LL, LM, Value.cells, Nat.reduceAdd, Option.some.injEq, exists_eq_left', decide_true, decide_false, if_true, if_false, reduceCtorEq, cond_true, cond_false]
          rw [pn_eq pt49]
          try simp only [↓reduceIte, ↓LL, LM, Value.cells, Nat.reduceAdd, Option.some.injEq, exists_eq_left', decide_true, decide_false, if_true, if_false, reduceCtorEq, cond_true, cond_false, Option.isNone, ne_eq]
          exact look w11 q' r3 u' ur3 (setL G.L cs) D' lset hp11 rdy11 h11 c011 c111 hb11 rn11 fun k hk => apN w11 hc11 k (hk11 k hk)
        · -- it stood still
          rw [e9]
          have z90 : ¬ (9 : Int) = 0 := by decide
          try simp only [↓reduceIte, ↓LL, LM, Value.cells, Nat.reduceAdd, Option.some.injEq, exists_eq_left', decide_true, decide_false, if_true, if_false, reduceCtorEq, cond_true, cond_false, z90]
          unfold f9_j5
          try simp only [↓reduceIte, ↓LL, LM, Value.cells, Nat.reduceAdd, Option.some.injEq, exists_eq_left', decide_true, decide_false, if_true, if_false, reduceCtorEq, cond_true, cond_false, ne_eq, z90]
          rw [eG] at hp8
          refine f49_s (G := { G with st := true }) hp8.hq hp8.hu ro8 (by omega) fun w9 b9 => ?_
          rw [decide_eq_true (show ({ G with st := true } : Pg).L = G.L from rfl)]
          have hp9 := hp8.below b9
          have hc9 : ChgS (fpP q p b v u) w6 w9 := hc8.trans (ChgS.of_below b9) fun _ _ h => h
          obtain ⟨_, _, k9, hb9, hx9⟩ := keepAll w9 hc9
          try simp only [↓reduceIte, ↓LL, LM, Value.cells, Nat.reduceAdd, Option.some.injEq, exists_eq_left', decide_true, decide_false, if_true, if_false, reduceCtorEq, cond_true, cond_false, ne_eq, z90]
          have e13 : commitB { G with st := true } R.2.1 cs = (13, R.2.1, { G with st := true }) := by
            have : mayB true G.L.length cs = 13 := by unfold mayB; rw [if_pos rfl]
            rw [commit_no (.inl (by show mayB true G.L.length cs ≠ 0; rw [this]; decide))]
            show (mayB true G.L.length cs, _, _) = _
            rw [this]
          refine commit_at hp9 hx9 (by omega) (by omega) (by show 0 ≤ G.c; rw [hs.gc]; decide) (by show G.c ≤ 1000000; rw [hs.gc]; decide) (by show G.L.length ≤ 1000; omega) fun w10 hp10 hc10' => ?_
          rw [e13] at hp10 ⊢
          have hp10 : PgAt W.heap.size w10 q p b v u { G with st := true } R.2.1 := hp10
          have hc10 : ChgS (fpP q p b v u) w6 w10 := hc9.trans hc10' fun _ _ h => h
          obtain ⟨_, _, k10, hb10, _⟩ := keepAll w10 hc10
          have g1 : w10.cell? ⟨w3.heap.size, 1, none⟩ = some (.int .i64 x.tn) := by rw [cell_of_blk k10]; rfl
          have g2 : w10.cell? ⟨w3.heap.size, 2, none⟩ = some (.int .i64 x.cut) := by rw [cell_of_blk k10]; rfl
          have g3 : w10.cell? ⟨w3.heap.size, 3, none⟩ = some x.vk := by rw [cell_of_blk k10]; rfl
          try simp only [↓reduceIte, ↓LL, LM, Value.cells, Nat.reduceAdd, Option.some.injEq, exists_eq_left', decide_true, decide_false, if_true, if_false, reduceCtorEq, cond_true, cond_false, ne_eq, g1, g2, g3]
          have fits : ∀ L' : List ByteArray, Fit D.A L' → Fit (R.2.1.crash x.keep x.tn x.cut).A L' := fun L' hf => hf.len_eq (by rw [crash_len, m3]; rfl)
          have both : ∀ L' : List ByteArray, L'.length = n → (L' = G.L ∨ L' = setL G.L cs) → Holds (R.2.1.crash x.keep x.tn x.cut).A L' → Fit D.A L' → f51 (pv p) x.vk (.int .i64 x.tn) (.int .i64 x.cut) w10 (fun _ w' => f53 (pv p) (.int .i64 ((n : Nat) : Int)) cv w' (fun t110 w' => (smr Tryz.prog (do eqGuard .eql 40 (.tmp 111) (.const (.pointer none)) t110 (.pointer none); binOp .eql 40 t110 (.pointer none)) fun t112 => cnd t112 (rt (.bool false)) (nei .i64 (.int .i64 9) (.int .i64 0) fun t114 => gd t114 true (idv t110) fun t116 => gd t114 true (idv (pv r3)) fun t117 => gd t114 true (cl (f49 t116 t117)) fun t118 => pk t114 t118 (.bool false) fun t119 => jn (fun (j6 : Value → Value → Value → Value → Value → Value → Value → Value → M) => cnd t119 (j6 (.int .i64 ((n : Nat) : Int)) vs cv (pv p) t110 (pv r3) (.int .i64 ((a + 1 : Nat) : Int)) (.int .i64 ((i : Nat) : Int))) (j6 (.int .i64 ((n : Nat) : Int)) vs cv (pv p) t110 (pv r) (.int .i64 ((a + 1 : Nat) : Int)) (.int .i64 ((i : Nat) : Int)))) (f9_j6 (f9_j3 (itr (fun _ _ _ _ _ _ _ _ => bot) (f9_b2 f9_j1) m))))) w' Q)) := by
            intro L' hLn hor hH hF
            refine anew w10 _ L' _ hLn hp10 hc10 (fits L' hF) hH fun w11 q' u' D' hp11 rdy11 h11 c011 c111 hc11 hk11 => ?_
            obtain ⟨ro11, rn11, _, hb11, _⟩ := keepAll w11 hc11
            rw [pn_eq pt49]
            try simp only [↓reduceIte, ↓LL, LM, Value.cells, Nat.reduceAdd, Option.some.injEq, exists_eq_left', decide_true, decide_false, if_true, if_false, reduceCtorEq, cond_true, cond_false, Option.isNone, ne_eq, z90]
            refine f49_s hp11.hq hp11.hu rn11 (by omega) fun w12 b12 => ?_
            have hc12 : ChgS (fpP q p b v u) w6 w12 := hc11.trans (ChgS.of_below b12) fun _ _ h => h
            by_cases ce : L' = setL G.L cs
            · rw [decide_eq_true (show (⟨L', false, 0⟩ : Pg).L = setL G.L cs from ce)]
              try simp only [↓reduceIte, ↓LL, LM, Value.cells, Nat.reduceAdd, Option.some.injEq, exists_eq_left', decide_true, decide_false, if_true, if_false, reduceCtorEq, cond_true, cond_false]
              refine look w12 q' r3 u' ur3 L' D' hLn (hp11.below b12) rdy11 h11 c011 c111 (bt hb11 b12) (by rw [ce]; exact rn11.below b12) fun k hk => apN w12 hc12 k (hk11 k hk)
            · have eG : L' = G.L := hor.resolve_right ce
              rw [decide_eq_false (show ¬ (⟨L', false, 0⟩ : Pg).L = setL G.L cs from ce)]
              try simp only [↓reduceIte, ↓LL, LM, Value.cells, Nat.reduceAdd, Option.some.injEq, exists_eq_left', decide_true, decide_false, if_true, if_false, reduceCtorEq, cond_true, cond_false]
              refine look w12 q' r u' ur L' D' hLn (hp11.below b12) rdy11 h11 c011 c111 (bt hb11 b12) (by rw [eG]; exact ro11.below b12) fun k hk => apO w12 hc12 k (hk11 k hk)
          have fset : Fit D.A (setL G.L cs) := setL_fit hs.rdy.fit hv rfl
          rcases hcr _ (crash_cr R.2.1 x.keep x.tn x.cut) with hH | hH
          · exact both G.L hL (.inl rfl) hH hs.rdy.fit
          · exact both (setL G.L cs) lset (.inr rfl) hH fset
      by_cases ca : a < cz.length
      · have ca' : (a : Int) < (cz.length : Nat) := by omega
        obtain ⟨aad2, es2, hf1, hf2, ⟨hf3, hkW⟩, hia2⟩ := rdS_at hcl ca
        have hb5 := bt hb3 b5
        try simp only [↓reduceIte, ↓LL, LM, Value.cells, Nat.reduceAdd, Option.some.injEq, exists_eq_left', decide_true, decide_false, if_true, if_false, reduceCtorEq, cond_true, cond_false, lc, ca', hia2]
        refine ldn_at (cellsAt_below hb5 hf2) hf1 ?_
        rw [hf3]
        generalize cz[a] = y at *
        have onev : ∀ z ∈ y.cells.toArray.toList, z.oneCell' = true := by
          intro z hz
          have hv1 : y.vk.oneCell' = true := by
            rcases hkW with ⟨e, _⟩ | ⟨a, cc, e, _⟩ <;> rw [e] <;> rfl
          simp only [Cra.cells] at hz
          rcases List.mem_cons.1 hz with rfl | hz
          · rfl
          rcases List.mem_cons.1 hz with rfl | hz
          · rfl
          rcases List.mem_cons.1 hz with rfl | hz
          · rfl
          rw [List.mem_singleton.1 hz]; exact hv1
        refine stn_box k5 rfl rfl onev fun w6 k6 u6 => ?_
        try simp only [↓reduceIte, ↓LL, LM, Value.cells, Nat.reduceAdd, Option.some.injEq, exists_eq_left', decide_true, decide_false, if_true, if_false, reduceCtorEq, cond_true, cond_false]
        exact round w6 y k6 hkW (b5.trans (u6.below (Nat.le_refl _)))
      · have ca' : ¬ (a : Int) < (cz.length : Nat) := by omega
        try simp only [↓reduceIte, ↓LL, LM, Value.cells, Nat.reduceAdd, Option.some.injEq, exists_eq_left', decide_true, decide_false, if_true, if_false, reduceCtorEq, cond_true, cond_false, lc, ca']
        exact round w5 ⟨-1, 0, 0, [], .slice none 0 0⟩ k5 (.inl ⟨rfl, rfl⟩) b5
    · try simp only [↓reduceIte, ↓LL, LM, Value.cells, Nat.reduceAdd, Option.some.injEq, exists_eq_left', decide_true, decide_false, if_true, if_false, reduceCtorEq, cond_true, cond_false, ne_eq, hv]
      exact tail w2 q r u ur G D a ⟨hp2, hr2, hs.ap, hb2, hs.rdy, hs.st, hs.gc, hs.hh⟩ hL c0 (by omega) (by omega)
theorem f9_s {n : Int} {l : List Bat} {cz : List Cra} (hl : rdS 2 oBat w vs l) (hps : ∀ x ∈ l, x.ps.length ≤ 1048576) (hcl : rdS 4 oCra w cv cz) (hll : cz.length ≤ 4611686018427387904) (kk : ∀ w', Below w.heap.size w w' → Q (.bool true) w') : f9 (.int .i64 n) vs cv w Q := by
  unfold f9
  try simp only [↓reduceIte, ↓LL, LM, Value.cells, Nat.reduceAdd, Option.some.injEq, exists_eq_left', decide_true, decide_false, if_true, if_false, reduceCtorEq, cond_true, cond_false]
  refine f35_s fun w1 b1 => ?_
  try simp only [↓reduceIte, ↓LL, LM, Value.cells, Nat.reduceAdd, Option.some.injEq, exists_eq_left', decide_true, decide_false, if_true, if_false, reduceCtorEq, cond_true, cond_false]
  refine f36_s ?_
  obtain ⟨n1, n40⟩ := pagesN_bd n
  generalize pagesN n = n at *
  try simp only [↓reduceIte, ↓LL, LM, Value.cells, Nat.reduceAdd, Option.some.injEq, exists_eq_left', decide_true, decide_false, if_true, if_false, reduceCtorEq, cond_true, cond_false]
  refine f37_s (rdS_below oBat_st b1 hl) fun vs' hv' => ?_
  try simp only [↓reduceIte, ↓LL, LM, Value.cells, Nat.reduceAdd, Option.some.injEq, exists_eq_left', decide_true, decide_false, if_true, if_false, reduceCtorEq, cond_true, cond_false]
  refine f39_s ⟨by omega, by omega⟩ ?_
  try simp only [↓reduceIte, ↓LL, LM, Value.cells, Nat.reduceAdd, Option.some.injEq, exists_eq_left', decide_true, decide_false, if_true, if_false, reduceCtorEq, cond_true, cond_false]
  refine f38_s (B := w1.heap.size) (126 + 4 * ((n : Nat) : Int)) (k := 126 + 4 * n) (by omega) (Nat.le_refl _) fun w2 p v b pw bw hd hf b2 => ?_
  try simp only [↓reduceIte, ↓LL, LM, Value.cells, Nat.reduceAdd, Option.some.injEq, exists_eq_left', decide_true, decide_false, if_true, if_false, reduceCtorEq, cond_true, cond_false]
  refine open_at (B0 := w1.heap.size) hd (nd0 _) (nd1 _) (Nat.le_refl _) b2.size (open_new (m := n) (N := 126 + 4 * n) (by omega) (by omega) (by omega)) fun w3 q u q3 h3 _ _ hc3 => ?_
  have b3 := bs b2 (fpD_B hd) b2.size hc3
  try simp only [↓reduceIte, ↓LL, LM, Value.cells, Nat.reduceAdd, Option.some.injEq, exists_eq_left', decide_true, decide_false, if_true, if_false, reduceCtorEq, cond_true, cond_false, get0, get1, ne_eq]
  refine f41_s (by omega) fun w4 r ur b4 hr4 => ?_
  have b04 := bt b3 b4
  have hs : StC w1 w4 q p b r v u ur ⟨List.replicate n (zs 256), false, 0⟩ (newD (126 + 4 * n)) := ⟨h3.below b4, hr4.weak b3.size, fun k hk hn => by
      have := h3.lt k hk
      have := hr4.fpB k hn
      omega, b04, rdy_new (by omega) (by omega) (by omega), rfl, rfl, rfl⟩
  have hlen : (l.take 30).length ≤ 30 := by rw [List.length_take]; omega
  try simp only [↓reduceIte, ↓LL, LM, Value.cells, Nat.reduceAdd, Option.some.injEq, exists_eq_left', decide_true, decide_false, if_true, if_false, reduceCtorEq, cond_true, cond_false]
  exact ⟨_, crash_loop (W := w1) (n := n) hv' hlen (fun x hx => hps x (List.mem_of_mem_take hx)) n40 (rdS_below oCra_st b1 hcl) hll (l.take 30).length ((l.take 30).length + 1) 0 w4 q r u ur ⟨List.replicate n (zs 256), false, 0⟩ (newD (126 + 4 * n)) 0 (by omega) (by omega) hs (by show (List.replicate n (zs 256)).length = n; simp) (nd0 _) (by show (0 : Int) ≤ _; omega) (by omega) fun w' hb' => kk w' (bt b1 hb')⟩
end
end Go.Proofs.YtongpnolikkknaaGreatDoor

namespace Go.Proofs.YtongpnolikkknaaGreatDoor
open Go.ChangeShapes Go.WideShapes Go.ChangeAt Go.RowKit
open Sh
def R9 := RiLBLC
def b9 : Int × List Bat × List Cra → Nat := fun x => bkL x.2.1
theorem oa9 : OpensA Tryz.prog [3, 61, 83] (Int × List Bat × List Cra) R9 b9 := oaiLBLC
theorem law9 (W : World) (vs : List Value) (a : Int × List Bat × List Cra) (h : R9 W vs a) (hk : b9 a ≤ 1048576) : Calls Tryz.prog 9 vs.toArray W (Rt fun v W' => v = .bool true ∧ Below W.heap.size W W') := by
  obtain ⟨n, l, cz⟩ := a
  obtain ⟨v, u, rfl, h1, h2, h3⟩ := h
  exact s9 _ _ _ _ _ (f9_s h1 (fun x hx => Nat.le_trans (sum_memB hx) hk) h2 h3 fun w' hb => ⟨rfl, hb⟩)
set_option maxRecDepth 1000000 in
theorem lifted9 (os : Os) (started : os.Started) (H : Type) (enc : TypeId × Value → H) (F : Stop.Interp) :
    ReturnsInHanded {} Tryz.checked os 9 .any (fun w args => ((Rows.OpenSpec.upto Rows.pagerCrashSpec).pre enc Tryz.prog Tryz.f9 Rows.pagerCrashUptoRow.domain false w args ∧ laidMetH Tryz.prog Rows.pagerCrashUptoRow.laid w) ∧ sizedMet enc Tryz.prog Tryz.f9 (Rows.OpenSpec.upto Rows.pagerCrashSpec) false w args) (((Rows.OpenSpec.upto Rows.pagerCrashSpec).at F).post enc Tryz.prog Tryz.f9 false true false false) := by
  refine law_from_laid_upto (C := Tryz.checked) (s := Rows.pagerCrashSpec) (X := (fun w _ => laidMetH Tryz.prog Rows.pagerCrashUptoRow.laid w)) (tb := 4) (R := R9) (b := b9) own started (by kernel_rfl) Tryz.func9
    (cond_witness_at (enc := enc) (C := Tryz.checked) (os := os) (s := Rows.OpenSpec.upto Rows.pagerCrashSpec) (k := Rows.uptoSmall) (X := (fun w _ => laidMetH Tryz.prog Rows.pagerCrashUptoRow.laid w)) rfl false (laidW Tryz.prog Rows.pagerCrashUptoRow.laid os) #[.int .i64 0, .slice none 0 0, .slice none 0 0] 8 rfl (by kernel_rfl) (by kernel_rfl) (by kernel_rfl)
      (x := ([.lit (.int .i64 0), .nil, .nil], [], [])) (by kernel_rfl) rfl (by kernel_rfl) (by kernel_rfl) (laidW_metH os _))
    rfl (by kernel_rfl) (by kernel_rfl) rfl Tryz.underlying4 (fun ds hd => ?_) ?_ law9
  · match ds, hd with
    | [d0, d1, d2], _ => exact ⟨rfl, rfl, rfl⟩
  · show OpensA Tryz.prog Tryz.f9.params.toList _ R9 b9
    rw [Tryz.params9]; exact oa9
theorem pagerCrash_row : Rows.PagerCrashUptoSaid :=
  OpenClaim.holds_of_cond 9 Tryz.f9 rfl rfl rfl rfl rfl rfl rfl ⟨rfl, rfl, rfl, rfl, rfl⟩ rfl rfl rfl rfl rfl (by kernel_rfl) Tryz.func9 (by kernel_rfl)
    (of_decide_eq_true (by kernel_rfl)) (by unfold Func.isWrapper; first | (rw [if_pos (by decide +kernel)]; kernel_rfl) | (rw [if_neg (by decide +kernel)]; exact ⟨rfl, rfl⟩))
    (fun os started H enc _ F => lifted9 os started H enc F)
theorem pagerCrash_holds : Rows.PagerCrashUptoCardSaid :=
  Claim7.holds_tied_plain_at .later [] Rows.pagerCrashUptoCard.laidKinds true Rows.pagerCrashUptoCard.stood.harness Rows.pagerCrashUptoCard.stood.looks
    pagerCrash_row (fun _ h => by cases h) (by kernel_rfl) (fun _ h => by cases h) pagerCrashUpto_row_tie rfl ⟨rfl, rfl⟩ (by kernel_rfl) (by kernel_rfl)
    (fun f fn hf hfn => by
      obtain rfl : f = 9 := Option.some.inj ((show Tryz.prog.funcNamed Rows.pagerCrashUptoRow.func = some 9 by kernel_rfl).symm.trans hf) |>.symm
      obtain rfl : fn = Tryz.f9 := (Option.some.inj (Tryz.func9.symm.trans hfn)).symm
      exact ⟨by kernel_rfl, no_stand (by kernel_rfl)⟩)
    (by kernel_rfl)
#print axioms pagerCrash_holds
end Go.Proofs.YtongpnolikkknaaGreatDoor
