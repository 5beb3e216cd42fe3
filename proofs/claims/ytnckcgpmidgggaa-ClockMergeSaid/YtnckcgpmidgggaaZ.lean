/- The call of ClockMerge returns true for every input, and its arguments read behind it as they read before. -/
import Derived.Test.YtnckcgpmidgggaaZ0
import Derived.Laws.StructEq
import Derived.ChangeKeysEq
import Derived.Lib.AppendStr
import Derived.Laws.BytesArg
import Derived.Laws.OwnMore
import Derived.ChangeShapes
import Derived.Test.YtnckcgpmidgggaaRows
import Derived.Laws.Pointers
import Derived.Laws.Bits64b
import Derived.MapKept
import Derived.Maps.RangeRun
import Derived.Maps.AppendAt
import Derived.Laws.CopyRow
import Derived.Laws.IdiomCopy
import Derived.SizedLaws
import Derived.Carry
import Derived.ProofKit
import Derived.JoinedCond
import Derived.Deep.CondSized
import Derived.OpenShut
set_option linter.unusedVariables false
set_option linter.unusedSimpArgs false
set_option linter.unusedSectionVars false
namespace Go.Proofs.Ytnckcgpmidgggaa
open Sh RowKit

theorem gcd_parts {a b : Nat} (ha : 1 ≤ a) (hb : 1 ≤ b) : ∃ g p q : Int, ((Nat.gcd a b : Nat) : Int) = g ∧ 1 ≤ g ∧ 1 ≤ p ∧ 1 ≤ q ∧ (a : Int) = g * p ∧ (b : Int) = g * q ∧ (∀ d : Int, d ∣ p → d ∣ q → d ∣ 1) := by
  obtain ⟨p, hp⟩ := Nat.gcd_dvd_left a b
  obtain ⟨q, hq⟩ := Nat.gcd_dvd_right a b
  have hg : 0 < Nat.gcd a b := Nat.gcd_pos_of_pos_left _ (by omega)
  refine ⟨_, p, q, rfl, by omega, ?_, ?_, ?_, ?_, ?_⟩
  · rcases Nat.eq_zero_or_pos p with z | z
    · rw [z, Nat.mul_zero] at hp; omega
    · omega
  · rcases Nat.eq_zero_or_pos q with z | z
    · rw [z, Nat.mul_zero] at hq; omega
    · omega
  · exact_mod_cast hp
  · exact_mod_cast hq
  · intro d h1 h2
    have d1 : ((Nat.gcd a b : Nat) : Int) * d ∣ (a : Int) := by
      have : (a : Int) = ((Nat.gcd a b : Nat) : Int) * p := by exact_mod_cast hp
      rw [this]; exact Int.mul_dvd_mul_left _ h1
    have d2 : ((Nat.gcd a b : Nat) : Int) * d ∣ (b : Int) := by
      have : (b : Int) = ((Nat.gcd a b : Nat) : Int) * q := by exact_mod_cast hq
      rw [this]; exact Int.mul_dvd_mul_left _ h2
    have d3 := Int.dvd_coe_gcd d1 d2
    have e : (((a : Int).gcd (b : Int) : Nat) : Int) = ((Nat.gcd a b : Nat) : Int) * 1 := by
      rw [Int.mul_one]; rfl
    rw [e] at d3
    exact Int.dvd_of_mul_dvd_mul_left (by omega) d3

theorem div_lt {x y N : Int} (hx : 1 ≤ x) : N / x < y ↔ N < x * y := by
  rw [Int.ediv_lt_iff_lt_mul (by omega), Int.mul_comm]

theorem f17_j1_s (a b : Nat) (Aa Ab : Int) (ha : rrB a Aa = true) (hb : rrB b Ab = true) (hle : b ≤ a) {p2 p3 p4 : Nat} {z : Array Value} {w : World} {Q : Value → World → Prop} {B : Nat} (hz : z.size = 2)
    (h2 : w.heap[p2]? = some (.cells (rdC a Aa) 27)) (h3 : w.heap[p3]? = some (.cells (rdC b Ab) 27)) (h4 : w.heap[p4]? = some (.cells z 27)) (hB : B ≤ p4)
    (k1 : ∀ w' E A, Met a Aa b Ab E A → Below B w w' → Q (.tuple #[rdV E A, .bool true]) w')
    (k2 : ∀ w', (1099511627776 < (a : Int) * ((b : Int) / (Nat.gcd a b : Nat)) ∨ ¬ ((Nat.gcd a b : Nat) : Int) ∣ Aa - Ab) → Below B w w' → Q (.tuple #[rdV 0 0, .bool false]) w') :
    f17_j1 (.pointer (some ⟨p2, 0, none⟩)) (.pointer (some ⟨p3, 0, none⟩)) (.pointer (some ⟨p4, 0, none⟩)) w Q := by
  obtain ⟨a1, a2, a3, a4⟩ := rrB_t.1 ha
  obtain ⟨b1, b2, b3, b4⟩ := rrB_t.1 hb
  obtain ⟨g, p, q, hg, hg1, hp1, hq1, hp, hq, hco⟩ := gcd_parts (a := a) (b := b) (by omega) (by omega)
  have hBw : B ≤ w.heap.size := by have := blk_lt h4; omega
  have c20 := cell_of_blk (n := 0) h2
  have c30 := cell_of_blk (n := 0) h3
  unfold f17_j1
  simp only [↓reduceIte, ↓LL, LM, Value.cells, Nat.reduceAdd, Option.some.injEq, exists_eq_left', decide_true, decide_false, if_true, if_false, reduceCtorEq, cond_true, cond_false, c20, c30, rdC]
  refine f26_s a b (by omega) (by omega) _ _ fun w1 hb1 => ?_
  have h2 := stay hb1 h2
  have h3 := stay hb1 h3
  have h4 := stay hb1 h4
  have bB : Below B w w1 := hb1.mono hBw
  have c20 := cell_of_blk (n := 0) h2
  have c21 := cell_of_blk (n := 1) h2
  have c30 := cell_of_blk (n := 0) h3
  have c31 := cell_of_blk (n := 1) h3
  rw [hg]
  have hgne : ¬ g = 0 := by omega
  have hane : ¬ (a : Int) = 0 := by omega
  have e1 : IntKind.i64.wrap ((b : Int).tdiv g) = q := by rw [hq, Int.mul_tdiv_cancel_left _ (by omega)]; refine w64' (by omega) ?_; have : 1 * q ≤ g * q := Int.mul_le_mul_of_nonneg_right hg1 (by omega); omega
  have e2 : IntKind.i64.wrap ((1099511627776 : Int).tdiv a) = 1099511627776 / (a : Int) := by
    rw [Int.tdiv_eq_ediv_of_nonneg (by omega)]
    have := Int.ediv_nonneg (show (0 : Int) ≤ 1099511627776 by omega) (show (0 : Int) ≤ a by omega)
    have := Int.ediv_le_self (a := 1099511627776) a (by omega)
    exact w64' (by omega) (by omega)
  have e3 : IntKind.i64.wrap (Aa - Ab) = Aa - Ab := w64' (by omega) (by omega)
  have hdq : (b : Int) / ((Nat.gcd a b : Nat) : Int) = q := by rw [hg, hq, Int.mul_ediv_cancel_left _ (by omega)]
  have fin : (1099511627776 < (a : Int) * ((b : Int) / (Nat.gcd a b : Nat)) ∨ ¬ ((Nat.gcd a b : Nat) : Int) ∣ Aa - Ab) →
      (smr Try.prog (Instr.build 27 #[]) fun t48 => stn 2 (.pointer (some ⟨p4, 0, none⟩)) t48 <| ldn 2 (.pointer (some ⟨p4, 0, none⟩)) fun r0 => rt (.tuple #[r0, (.bool false)])) w1 Q := by
    intro hc
    rw [smr_e]
    refine ⟨_, build27n _, ?_⟩
    refine stn_box (cs := rdC 0 0) h4 hz rfl (one_rd _ _) fun w4 hw4 hu4 => ?_
    refine ldn_box hw4 rfl ?_
    rw [rt_e]
    exact k2 _ hc (bB.trans (hu4.below hB))
  by_cases c1 : 1099511627776 / (a : Int) < q
  · have := (div_lt a1).1 c1
    simp only [↓reduceIte, ↓LL, LM, Value.cells, Nat.reduceAdd, Option.some.injEq, exists_eq_left', decide_true, decide_false, if_true, if_false, reduceCtorEq, cond_true, cond_false, c20, c30, rdC, ne_eq, hgne, hane, not_false_eq_true, true_and, e1, e2, c1]
    exact fin (.inl (by rw [hdq]; exact this))
  · have hE : (a : Int) * q ≤ 1099511627776 := by
      exact Int.not_lt.1 fun h => c1 ((div_lt a1).2 h)
    simp only [↓reduceIte, ↓LL, LM, Value.cells, Nat.reduceAdd, Option.some.injEq, exists_eq_left', decide_true, decide_false, if_true, if_false, reduceCtorEq, cond_true, cond_false, c20, c21, c30, c31, rdC, ne_eq, hgne, hane, not_false_eq_true, true_and, e1, e2, e3, c1]
    have hgb : g ≤ b := by
      have : g * 1 ≤ g * q := Int.mul_le_mul_of_nonneg_left hq1 (by omega)
      omega
    refine f27_s _ _ hg1 (by omega) _ _ ?_
    by_cases c2 : (Aa - Ab) % g = 0
    · simp only [↓reduceIte, ↓LL, LM, Value.cells, Nat.reduceAdd, Option.some.injEq, exists_eq_left', decide_true, decide_false, if_true, if_false, reduceCtorEq, cond_true, cond_false, c2, ne_eq, not_true_eq_false]
      refine ldn_box h2 rfl ?_
      refine ldn_box h3 rfl ?_
      rw [cl_e]
      obtain ⟨c, hc⟩ := Int.dvd_of_emod_eq_zero c2
      refine f28_s a Aa b Ab g p q (-c) hp hq hg1 (by rw [Int.mul_neg]; omega) a1 b1 (by omega) hE a3 a4 b3 b4 hp1 hq1 hco _ _ fun w2 A hm hb2 => ?_
      have h4 := stay hb2 h4
      simp only [↓reduceIte, ↓LL, LM, Value.cells, Nat.reduceAdd, Option.some.injEq, exists_eq_left', decide_true, decide_false, if_true, if_false, reduceCtorEq, cond_true, cond_false]
      refine stn_box (cs := rdC _ _) h4 hz rfl (one_rd _ _) fun w4 hw4 hu4 => ?_
      refine ldn_box hw4 rfl ?_
      rw [rt_e]
      refine k1 _ _ _ hm ((bB.trans (hb2.mono ?_)).trans (hu4.below hB))
      have := bB.size
      omega
    · simp only [↓reduceIte, ↓LL, LM, Value.cells, Nat.reduceAdd, Option.some.injEq, exists_eq_left', decide_true, decide_false, if_true, if_false, reduceCtorEq, cond_true, cond_false, c2, ne_eq, not_false_eq_true]
      exact fin (.inr (by rw [hg]; exact fun h => c2 (Int.emod_eq_zero_of_dvd h)))

/-- never they meet, or what they have in common is too long -/
def NoMeet (Ea Aa Eb Ab : Int) : Prop := ¬ (rrB Ea Aa = true ∧ rrB Eb Ab = true) ∨
  (1099511627776 / Eb < Ea / (Nat.gcd Ea.toNat Eb.toNat : Nat) ∨ ¬ ((Nat.gcd Ea.toNat Eb.toNat : Nat) : Int) ∣ Aa - Ab)
theorem Met.symm {Ea Aa Eb Ab E A : Int} (h : Met Ea Aa Eb Ab E A) : Met Eb Ab Ea Aa E A := ⟨h.e1, h.e2, h.a0, h.a1, h.db, h.da, fun z h1 h2 => h.lcm z h2 h1, h.rb, h.ra⟩
theorem nomeet_l {a b : Nat} (ha : 1 ≤ a) (hb : 1 ≤ b) : 1099511627776 < (a : Int) * ((b : Int) / (Nat.gcd a b : Nat)) ↔ 1099511627776 / (b : Int) < (a : Int) / (Nat.gcd a b : Nat) := by
  obtain ⟨g, p, q, hg, hg1, hp1, hq1, hp, hq, hco⟩ := gcd_parts (a := a) (b := b) ha hb
  have e1 : (b : Int) / ((Nat.gcd a b : Nat) : Int) = q := by rw [hg, hq, Int.mul_ediv_cancel_left _ (by omega)]
  have e2 : (a : Int) / ((Nat.gcd a b : Nat) : Int) = p := by rw [hg, hp, Int.mul_ediv_cancel_left _ (by omega)]
  rw [e1, e2, div_lt (by omega)]
  have : (a : Int) * q = b * p := by rw [hp, hq]; grind
  rw [this]
theorem f17_s (Ea Aa Eb Ab : Int) (w : World) (Q : Value → World → Prop)
    (k1 : ∀ w' E A, rrB Ea Aa = true → rrB Eb Ab = true → Met Ea Aa Eb Ab E A → Below w.heap.size w w' → Q (.tuple #[rdV E A, .bool true]) w')
    (k2 : ∀ w', NoMeet Ea Aa Eb Ab → Below w.heap.size w w' → Q (.tuple #[rdV 0 0, .bool false]) w') : f17 (rdV Ea Aa) (rdV Eb Ab) w Q := by
  unfold f17
  simp only [↓bx_e, ↓al_e]
  rw [show (rdV Ea Aa).cells = rdC Ea Aa from rfl, show (rdV Eb Ab).cells = rdC Eb Ab from rfl]
  have q0 := blk_psh_new (w := w) (o := .cells (rdC Ea Aa) 27)
  have b0 := b_psh w (.cells (rdC Ea Aa) 27)
  generalize psh w (.cells (rdC Ea Aa) 27) = w1 at *
  have r1 := blk_psh_new (w := w1) (o := .cells (rdC Eb Ab) 27)
  have hb := b_psh w1 (.cells (rdC Eb Ab) 27)
  have b1 := bt b0 hb
  have q1 := stay hb q0
  have l1 := blk_lt q0
  generalize psh w1 (.cells (rdC Eb Ab) 27) = w2 at *
  have s2 := blk_psh_new (w := w2) (o := .cells #[.int .i64 0, .int .i64 0] 27)
  have hb2 := b_psh w2 (.cells #[.int .i64 0, .int .i64 0] 27)
  have b2 := bt b1 hb2
  have q2 := stay hb2 q1
  have r2 := stay hb2 r1
  have l2 := blk_lt r1
  generalize psh w2 (.cells #[.int .i64 0, .int .i64 0] 27) = w3 at *
  have fin : ∀ w4, Below w.heap.size w w4 → w4.heap[w2.heap.size]? = some (.cells #[.int .i64 0, .int .i64 0] 27) → ¬ (rrB Ea Aa = true ∧ rrB Eb Ab = true) →
      (smr Try.prog (Instr.build 27 #[]) fun t48 => stn 2 (.pointer (some ⟨w2.heap.size, 0, none⟩)) t48 <| ldn 2 (.pointer (some ⟨w2.heap.size, 0, none⟩)) fun r0 => rt (.tuple #[r0, (.bool false)])) w4 Q := by
    intro w4 b4 s4 hc
    rw [smr_e]
    refine ⟨_, build27n _, ?_⟩
    refine stn_box (cs := rdC 0 0) s4 rfl rfl (one_rd _ _) fun w4 hw4 hu4 => ?_
    refine ldn_box hw4 rfl ?_
    rw [rt_e]
    exact k2 _ (.inl hc) (b4.trans (hu4.below (by omega)))
  refine ldn_box q2 rfl ?_
  rw [cl_e]
  refine f11_s Ea Aa _ _ fun w4 hb4 => ?_
  have b4 := bt b2 hb4
  have q4 := stay hb4 q2
  have r4 := stay hb4 r2
  have s4 := stay hb4 s2
  cases hR : rrB Ea Aa with
  | false =>
    simp only [↓reduceIte, ↓LL, LM, Value.cells, Nat.reduceAdd, Option.some.injEq, exists_eq_left', decide_true, decide_false, if_true, if_false, reduceCtorEq, cond_true, cond_false]
    exact fin w4 b4 s4 (by simp [hR])
  | true =>
    simp only [↓reduceIte, ↓LL, LM, Value.cells, Nat.reduceAdd, Option.some.injEq, exists_eq_left', decide_true, decide_false, if_true, if_false, reduceCtorEq, cond_true, cond_false]
    refine ldn_box r4 rfl ?_
    simp only [↓reduceIte, ↓LL, LM, Value.cells, Nat.reduceAdd, Option.some.injEq, exists_eq_left', decide_true, decide_false, if_true, if_false, reduceCtorEq, cond_true, cond_false]
    refine f11_s Eb Ab _ _ fun w5 hb5 => ?_
    have b5 := bt b4 hb5
    have q5 := stay hb5 q4
    have r5 := stay hb5 r4
    have s5 := stay hb5 s4
    cases hS : rrB Eb Ab with
    | false =>
      simp only [↓reduceIte, ↓LL, LM, Value.cells, Nat.reduceAdd, Option.some.injEq, exists_eq_left', decide_true, decide_false, if_true, if_false, reduceCtorEq, cond_true, cond_false]
      exact fin w5 b5 s5 (by simp [hS])
    | true =>
      obtain ⟨a1, a2, a3, a4⟩ := rrB_t.1 hR
      obtain ⟨d1, d2, d3, d4⟩ := rrB_t.1 hS
      obtain ⟨a, ha⟩ : ∃ a : Nat, Ea = a := ⟨Ea.toNat, by omega⟩
      obtain ⟨b, hb⟩ : ∃ b : Nat, Eb = b := ⟨Eb.toNat, by omega⟩
      subst ha hb
      have c0 := cell_of_blk (n := 0) q5
      have c1 := cell_of_blk (n := 0) r5
      by_cases c : (a : Int) < b
      · simp only [↓reduceIte, ↓LL, LM, Value.cells, Nat.reduceAdd, Option.some.injEq, exists_eq_left', decide_true, decide_false, if_true, if_false, reduceCtorEq, cond_true, cond_false, c0, c1, rdC, c]
        refine ldn_box r5 rfl ?_
        refine ldn_box q5 rfl ?_
        refine stn_box (cs := rdC b Ab) q5 rfl rfl (one_rd _ _) fun w6 hw6 hu6 => ?_
        have r6 : w6.heap[w1.heap.size]? = some (.cells (rdC b Ab) 27) := by rw [hu6.block _ (by omega)]; exact r5
        have s6 : w6.heap[w2.heap.size]? = some (.cells #[.int .i64 0, .int .i64 0] 27) := by rw [hu6.block _ (by omega)]; exact s5
        refine stn_box (cs := rdC a Aa) r6 rfl rfl (one_rd _ _) fun w7 hw7 hu7 => ?_
        have q7 : w7.heap[w.heap.size]? = some (.cells (rdC b Ab) 27) := by rw [hu7.block _ (by omega)]; exact hw6
        have s7 : w7.heap[w2.heap.size]? = some (.cells #[.int .i64 0, .int .i64 0] 27) := by rw [hu7.block _ (by omega)]; exact s6
        have b7 : Below w.heap.size w w7 := (b5.trans (hu6.below (Nat.le_refl _))).trans (hu7.below (by omega))
        refine f17_j1_s b a Ab Aa hS hR (by omega) (B := w.heap.size) rfl q7 hw7 s7 (by omega) ?_ ?_
        · intro w' E A hm hbl
          exact k1 _ _ _ hR hS hm.symm (b7.trans hbl)
        · intro w' hn hbl
          refine k2 _ (.inr ?_) (b7.trans hbl)
          rw [Int.toNat_natCast, Int.toNat_natCast, Nat.gcd_comm a b]
          rcases hn with hn | hn
          · left
            rw [Nat.gcd_comm b a] at hn ⊢
            rw [← nomeet_l (by omega) (by omega)]
            obtain ⟨g, p, q, hg, hg1, hp1, hq1, hp, hq, hco⟩ := gcd_parts (a := a) (b := b) (by omega) (by omega)
            have e1 : (b : Int) / ((Nat.gcd a b : Nat) : Int) = q := by rw [hg, hq, Int.mul_ediv_cancel_left _ (by omega)]
            have e2 : (a : Int) / ((Nat.gcd a b : Nat) : Int) = p := by rw [hg, hp, Int.mul_ediv_cancel_left _ (by omega)]
            rw [e2] at hn
            rw [e1]
            have : (a : Int) * q = b * p := by rw [hp, hq]; grind
            omega
          · right
            intro hd
            apply hn
            have := Int.dvd_neg.2 hd
            have e : -(Aa - Ab) = Ab - Aa := by omega
            rw [e] at this
            exact this
      · simp only [↓reduceIte, ↓LL, LM, Value.cells, Nat.reduceAdd, Option.some.injEq, exists_eq_left', decide_true, decide_false, if_true, if_false, reduceCtorEq, cond_true, cond_false, c0, c1, rdC, c]
        refine f17_j1_s a b Aa Ab hR hS (by omega) (B := w.heap.size) rfl q5 r5 s5 (by omega) ?_ ?_
        · intro w' E A hm hbl
          exact k1 _ _ _ hR hS hm (b5.trans hbl)
        · intro w' hn hbl
          refine k2 _ (.inr ?_) (b5.trans hbl)
          rw [Int.toNat_natCast, Int.toNat_natCast]
          rcases hn with hn | hn
          · exact .inl ((nomeet_l (by omega) (by omega)).1 hn)
          · exact .inr hn
end Go.Proofs.Ytnckcgpmidgggaa

namespace Go.Proofs.Ytnckcgpmidgggaa
namespace Sh
open RowKit
section
variable {P : Program} {w : World} {d : Nat} {xs ys : Array Value} {f : Field} {fs : List Field} {r : Bool}
theorem fE_nil : (Op.eqFields d xs ys []).run P w = .ok true w := by simp [Op.eqFields]
theorem fE_cons {a b : Value} {s : Bool} (hn : (f.name == "_") = false) (hk : P.plainKey f.type = true) (ha : xs[f.offset]? = some a) (hb : ys[f.offset]? = some b) (he : (Op.equalIn d f.type a b).run P w = .ok r w)
    (hr : (Op.eqFields d xs ys fs).run P w = .ok s w) : (Op.eqFields d xs ys (f :: fs)).run P w = .ok (r && s) w := by
  have hn' : f.name ≠ "_" := by simpa using hn
  rw [Op.eqFields]
  simp only [if_pos hn', Sem.run_bind, run_part_plain w hk ha, run_part_plain w hk hb, he, Result.andThen_ok]
  cases r
  · simp
  · simpa using hr
theorem run_eq_agg {t : TypeId} {x y : Operand} {gs : Array Field} (hu : P.underlying t = some (.struct gs)) (hp : P.stoodInHeld t = false) (hg : P.eqGuardType P.depth t = false)
    (h : (Op.eqFields 9999 xs ys gs.toList).run P w = .ok r w) : ((do eqGuard .eql t x y (.agg xs) (.agg ys); binOp .eql t (.agg xs) (.agg ys) : Sem Value)).run P w = .ok (.bool r) w := by
  have hf : P.fieldsOf t = gs := by simp [Program.fieldsOf, hu]
  have h2 : (Op.equalIn 10000 t (.agg xs) (.agg ys)).run P w = .ok r w := by
    rw [run_equalIn_struct (P := P) w 9999 t xs ys (by rw [hf]; exact hu) hp, hf]
    exact h
  have h3 : (Op.equal t (.agg xs) (.agg ys)).run P w = .ok r w := h2
  simp [eqGuard, hg, binOp, h3]
end
end Sh
end Go.Proofs.Ytnckcgpmidgggaa

namespace Go.Proofs.Ytnckcgpmidgggaa
open Sh RowKit

theorem tm_case {E : Int} (hE : 1 ≤ E) (A t : Int) : ∃ r, 0 ≤ r ∧ r < E ∧ bh E A (t + 1) = t - r + E ∧ ((t - A).tmod E = r ∨ ((t - A).tmod E = r - E ∧ r ≠ 0)) := by
  have h := Int.emod_add_mul_ediv (t - A) E
  have h0 := Int.emod_nonneg (t - A) (show E ≠ 0 by omega)
  have h1 := Int.emod_lt_of_pos (t - A) (show 0 < E by omega)
  have e : t + 1 - 1 - A = t - A := by omega
  refine ⟨(t - A) % E, h0, h1, ?_, ?_⟩
  · unfold bh ah
    rw [e]
    omega
  · rw [Int.tmod_eq_emod]
    split
    · left; simp
    · rename_i hc
      right
      refine ⟨by omega, fun z => hc (.inr (Int.dvd_of_emod_eq_zero z))⟩

theorem eq27 (a b c d : Int) (x y : Operand) (w : World) : ((do eqGuard .eql 27 x y (rdV a b) (rdV c d); binOp .eql 27 (rdV a b) (rdV c d) : Sem Value)).run Try.prog w = .ok (.bool (a == c && b == d)) w := by
  have h := run_eq_agg (x := x) (y := y) (w := w) (P := Try.prog) (xs := rdC a b) (ys := rdC c d) Try.underlying27 (by kernel_rfl) (by kernel_rfl)
    (fE_cons (by kernel_rfl) (by kernel_rfl) (a := .int .i64 a) (b := .int .i64 c) rfl rfl (run_equalIn_int w 9998 2 .i64 .i64 a c Try.underlying2)
      (fE_cons (by kernel_rfl) (by kernel_rfl) (a := .int .i64 b) (b := .int .i64 d) rfl rfl (run_equalIn_int w 9998 2 .i64 .i64 b d Try.underlying2) fE_nil))
  rw [Bool.and_true] at h
  exact h
theorem f7_s (w : World) (Q : Value → World → Prop) (h : ∀ w', Below w.heap.size w w' → Q (.bool true) w') : f7 w Q := by
  unfold f7
  rw [smr_e]
  refine ⟨_, build27 10 3 w, ?_⟩
  rw [cl_e]
  refine f8_s 10 3 3 _ _ fun w1 b1 => ?_
  rw [show nextP 10 3 3 = (13, true) from by decide]
  simp only [↓reduceIte, ↓LL, LM, Value.cells, Nat.reduceAdd, Option.some.injEq, exists_eq_left', decide_true, decide_false, if_true, if_false, reduceCtorEq, cond_true, cond_false]
  rw [smr_e]
  refine ⟨_, build27 4 1 _, ?_⟩
  rw [smr_e]
  refine ⟨_, build27 6 3 _, ?_⟩
  rw [cl_e]
  refine f17_s 4 1 6 3 _ _ ?_ ?_
  · intro w2 E A _ _ hm hb2
    have b2 := bt b1 hb2
    have hE : E = 12 := by
      have d1 := hm.lcm 12 ⟨3, rfl⟩ ⟨2, rfl⟩
      have := hm.e1
      have := Int.le_of_dvd (by decide) d1
      have := hm.da
      have := hm.db
      omega
    have hA : A = 9 := by
      have := hm.a0
      have := hm.a1
      have := hm.ra
      have := hm.rb
      omega
    subst hE hA
    simp only [↓reduceIte, ↓LL, LM, Value.cells, Nat.reduceAdd, Option.some.injEq, exists_eq_left', decide_true, decide_false, if_true, if_false, reduceCtorEq, cond_true, cond_false]
    have b3 := bt b2 (b_psh w2 (.cells #[.int .i64 0, .int .i64 0] 27))
    have hl := b2.size
    refine stn_box (cs := rdC 12 9) blk_psh_new rfl rfl (one_rd _ _) fun w3 hw3 hu3 => ?_
    have b3 := b3.trans (hu3.below hl)
    simp only [↓reduceIte, ↓LL, LM, Value.cells, Nat.reduceAdd, Option.some.injEq, exists_eq_left', decide_true, decide_false, if_true, if_false, reduceCtorEq, cond_true, cond_false]
    refine ldn_box hw3 rfl ?_
    simp only [↓reduceIte, ↓LL, LM, Value.cells, Nat.reduceAdd, Option.some.injEq, exists_eq_left', decide_true, decide_false, if_true, if_false, reduceCtorEq, cond_true, cond_false]
    rw [smr_e]
    refine ⟨_, build27 12 9 _, ?_⟩
    simp only [↓reduceIte, ↓LL, LM, Value.cells, Nat.reduceAdd, Option.some.injEq, exists_eq_left', decide_true, decide_false, if_true, if_false, reduceCtorEq, cond_true, cond_false]
    rw [smr_e]
    refine ⟨_, eq27 12 9 12 9 _ _ _, ?_⟩
    simp only [↓reduceIte, ↓LL, LM, Value.cells, Nat.reduceAdd, Option.some.injEq, exists_eq_left', decide_true, decide_false, if_true, if_false, reduceCtorEq, cond_true, cond_false, beq_self_eq_true]
    rw [smr_e]
    refine ⟨_, build27 10 3 _, ?_⟩
    simp only [↓reduceIte, ↓LL, LM, Value.cells, Nat.reduceAdd, Option.some.injEq, exists_eq_left', decide_true, decide_false, if_true, if_false, reduceCtorEq, cond_true, cond_false]
    refine f15_s 10 3 0 24 _ _ fun w4 hb4 => ?_
    rw [show countP 10 3 0 24 = 3 from by decide]
    simp only [↓reduceIte, ↓LL, LM, Value.cells, Nat.reduceAdd, Option.some.injEq, exists_eq_left', decide_true, decide_false, if_true, if_false, reduceCtorEq, cond_true, cond_false]
    exact h _ (bt b3 hb4)
  · intro w2 hn hb2
    exfalso
    rcases hn with hn | hn | hn
    · exact hn (by decide)
    · revert hn; decide
    · revert hn; decide
end Go.Proofs.Ytnckcgpmidgggaa

namespace Go.Proofs.Ytnckcgpmidgggaa
namespace Sh
open RowKit
section
variable {P : Program} {w : World} {Q : Value → World → Prop} {K : Value → M} {B : Nat}
/-- a row of whole numbers, as an argument or the call's own -/
def rdP (k : IntKind) (w : World) (v : Value) (l : List Int) : Prop :=
  (v = .slice none 0 0 ∧ l = []) ∨ ∃ a c, v = .slice (some a) l.length c ∧ ∀ i (h : i < l.length), w.cell? (a.add i) = some (.int k l[i])
/-- numbers behind a row of the call's own -/
theorem ap_rd {t ty e : TypeId} {k : IntKind} {b : Nat} (h : slT P t e (.int k 0) 1 b) {v u : Value} {l m : List Int} (hown : ownI B e k w v l) (hr : rdP k w u m)
    (hbytes : (l.length + m.length) * b ≤ 140737488355328) (h63 : l.length + m.length ≤ 140737488355328) (hB : B ≤ w.heap.size)
    (kk : ∀ v' w', ownI B e k w' v' (l ++ m) → w.grownBy w' v.ownBlock → K v' w' Q) : sm P (Builtin.append_ #[t, t] ty #[v, u]) K w Q := by
  obtain ⟨i, g1, g2, g3, g4, g5⟩ := slT_info h
  rcases hr with ⟨rfl, rfl⟩ | ⟨a, c, rfl, hr⟩
  · refine ⟨v, w, run_append_owned_none w B t ty e i 1 g1 g2 v l.length (l.map (Value.int k)) hown, kk v w (by rw [List.append_nil]; exact hown) (World.grownBy.refl w _)⟩
  · obtain ⟨v', w', hrun, ho, hg, _⟩ := run_append_own (P := P) w B t ty e i (.int k 0) 1 b g1 g2 g3 g4 g5 rfl (by decide) v l.length (l.map (Value.int k)) hown a m.length c (m.map (Value.int k)) (by simp) (by
        intro j u hj
        have hjl : j < m.length := by
          rcases Nat.lt_or_ge j m.length with h | h
          · exact h
          · simp [List.getElem?_eq_none (show (m.map (Value.int k)).length ≤ j by simpa using h)] at hj
        rw [hr j hjl]
        simp [List.getElem?_eq_getElem hjl] at hj
        rw [hj]) (by intro u hu; simp only [List.mem_map] at hu; obtain ⟨x, _, rfl⟩ := hu; rfl) (by unfold maxLen; omega) hbytes hB
    refine ⟨v', w', hrun, kk v' w' ?_ hg⟩
    unfold ownI
    rw [List.length_append, List.map_append]
    exact ho
end
end Sh
end Go.Proofs.Ytnckcgpmidgggaa

namespace Go.Proofs.Ytnckcgpmidgggaa
namespace Sh
open RowKit ChangeShapes
/-! one block changed -/
/-- below the old end all is as it was but block p -/
structure Chg (p : Nat) (w w' : World) : Prop where
  os : w'.os = w.os
  tape : w'.tape = w.tape
  output : w'.output = w.output
  size : w.heap.size ≤ w'.heap.size
  block : ∀ k, k < w.heap.size → k ≠ p → w'.heap[k]? = w.heap[k]?
theorem Chg.refl (p : Nat) (w : World) : Chg p w w := ⟨rfl, rfl, rfl, Nat.le_refl _, fun _ _ _ => rfl⟩
theorem Chg.of_below {p : Nat} {w w' : World} (h : Below w.heap.size w w') : Chg p w w' := ⟨h.os, h.tape, h.output, h.size, fun k hk _ => h.block k hk⟩
theorem Chg.trans {p : Nat} {a b c : World} (h : Chg p a b) (k : Chg p b c) : Chg p a c :=
  ⟨k.os.trans h.os, k.tape.trans h.tape, k.output.trans h.output, Nat.le_trans h.size k.size, fun i hi hp => (k.block i (Nat.lt_of_lt_of_le hi h.size) hp).trans (h.block i hi hp)⟩
theorem Chg.below {p B : Nat} {w w' : World} (h : Chg p w w') (hB : B ≤ p) (hw : B ≤ w.heap.size) : Below B w w' := ⟨h.os, h.tape, h.output, h.size, fun k hk => h.block k (by omega) (by omega)⟩
theorem Chg.drw {p : Nat} {w w' : World} (h : Chg p w w') : Chg p w (drw w') := ⟨h.os, h.tape, h.output, h.size, h.block⟩
theorem Chg.cell {p : Nat} {w w' : World} {a : Addr} {v : Value} (h : Chg p w w') (hc : w.cell? a = some v) (hne : a.block ≠ p) : w'.cell? a = some v := by
  have := cell_lt hc
  unfold World.cell? at hc ⊢
  rw [h.block _ this hne]; exact hc
section
variable {w : World} {Q : Value → World → Prop} {K : Value → M} {K0 : M} {B : Nat}
theorem rds2 {b : Nat} {c : Array Value} {t : TypeId} {fr : Nat × Nat} (h : w.heap[b]? = some (.cells c t fr)) : rds w ⟨b, 0, none⟩ c :=
  rds_of_blk h (fun j v hj => by simpa using hj)
theorem ldn_box {n b : Nat} {c : Array Value} {t : TypeId} {fr : Nat × Nat} (h : w.heap[b]? = some (.cells c t fr)) (hn : c.size = n) (k : K (.agg c) w Q) : ldn n (.pointer (some ⟨b, 0, none⟩)) K w Q :=
  ⟨_, c, rfl, hn, rds2 h, k⟩
/-- one cell of a block stored -/
theorem st_box {b o : Nat} {c : Array Value} {t : TypeId} {v : Value} (h : w.heap[b]? = some (.cells c t (0, 0))) (ho : o < c.size) (hv : v.oneCell' = true)
    (k : ∀ w', w'.heap[b]? = some (.cells (c.setIfInBounds o v) t (0, 0)) → Upd b w w' → K0 w' Q) : st (.pointer (some ⟨b, o, none⟩)) v K0 w Q := by
  rw [st_e]
  refine ⟨by rw [cell_of_blk h]; simp [ho], frozen_zero h, hv, k _ (blk_setCell h) ?_⟩
  exact ⟨rfl, rfl, rfl, size_setCell, fun k hk => blk_setCell_ne hk⟩
end
/-! slices of whatever -/
abbrev RepT (α : Type) := World → List Value → α → Prop
def cellsAt (w : World) (a : Addr) (es : List Value) : Prop := ∀ j v, es[j]? = some v → w.cell? (a.add j) = some v
/-- a slice, each element n cells, that reads as l -/
def rdS {α : Type} (n : Nat) (R : RepT α) (w : World) (v : Value) (l : List α) : Prop :=
  (v = .slice none 0 0 ∧ l = []) ∨ ∃ a c, v = .slice (some a) l.length c ∧ l.length ≤ c ∧ ∀ i (h : i < l.length), ∃ es, es.length = n ∧ cellsAt w (a.add (i * n)) es ∧ R w es l[i]
theorem cellsAt_below {w w' : World} {a : Addr} {es : List Value} (hb : Below w.heap.size w w') (h : cellsAt w a es) : cellsAt w' a es := fun j v hj => cell_below hb (h j v hj)
def Stable {α : Type} (R : RepT α) : Prop := ∀ (w w' : World) (es : List Value) (x : α), Below w.heap.size w w' → R w es x → R w' es x
theorem rdS_below {α : Type} {n : Nat} {R : RepT α} (hR : Stable R) {w w' : World} {v : Value} {l : List α} (hb : Below w.heap.size w w') (h : rdS n R w v l) : rdS n R w' v l := by
  rcases h with h | ⟨a, c, rfl, hcc, h⟩
  · exact .inl h
  · refine .inr ⟨a, c, rfl, hcc, fun i hi => ?_⟩
    obtain ⟨es, h1, h2, h3⟩ := h i hi
    exact ⟨es, h1, cellsAt_below hb h2, hR _ _ _ _ hb h3⟩
theorem rdS_len {α : Type} {n : Nat} {R : RepT α} {w : World} {v : Value} {l : List α} (h : rdS n R w v l) : ∃ p c, v = .slice p l.length c := by
  rcases h with ⟨rfl, rfl⟩ | ⟨a, c, rfl, hcc, h⟩
  · exact ⟨none, 0, rfl⟩
  · exact ⟨some a, c, rfl⟩
theorem lnl_S {α : Type} {n : Nat} {R : RepT α} {w w1 : World} {v : Value} {l : List α} {K : Value → M} {Q : Value → World → Prop} (h : rdS n R w v l) (kk : K (.int .i64 l.length) w1 Q) : lnl v K w1 Q := by
  obtain ⟨p, c, rfl⟩ := rdS_len h
  rw [lnl_e]; exact kk
/-- an element's place, the same in whatever world -/
theorem rdS_at {α : Type} {n : Nat} {R : RepT α} {w : World} {v : Value} {l : List α} (h : rdS n R w v l) {i : Nat} (hi : i < l.length) :
    ∃ ad es, es.length = n ∧ cellsAt w ad es ∧ R w es l[i] ∧ ∀ (k : IntKind) (K : Value → M) (w' : World) (Q : Value → World → Prop), ia n v (.int k (i : Int)) K w' Q = K (.pointer (some ad)) w' Q := by
  rcases h with ⟨rfl, rfl⟩ | ⟨a, c, rfl, hcc, h⟩
  · simp at hi
  · obtain ⟨es, h1, h2, h3⟩ := h i hi
    refine ⟨_, es, h1, h2, h3, fun k K w' Q => ?_⟩
    rw [ia_e, Int.toNat_natCast]
    apply propext
    constructor
    · rintro ⟨_, _, h⟩; exact h
    · intro h; exact ⟨by omega, by omega, h⟩
theorem ldn_at {n : Nat} {w : World} {a : Addr} {es : List Value} {K : Value → M} {Q : Value → World → Prop} (hc : cellsAt w a es) (hn : es.length = n) (k : K (.agg es.toArray) w Q) : ldn n (.pointer (some a)) K w Q :=
  ⟨a, es.toArray, rfl, by simpa using hn, fun j v hj => hc j v (by simpa using hj), k⟩
theorem cellsAt_get {w : World} {a : Addr} {es : List Value} {j : Nat} {v : Value} (hc : cellsAt w a es) (hj : es[j]? = some v) : w.cell? (a.add j) = some v := hc j v hj
theorem add_zero' (a : Addr) : a.add 0 = a := rfl
section
variable {P : Program}
/-- whatever is read as a T is an α, told by R, of at most that bulk -/
def Opens (P : Program) (t : TypeId) (α : Type) (R : RepT α) (bulk : α → Nat) : Prop :=
  ∀ {H : Type} (enc : TypeId × Value → H) (w : World) (held : Bool) (fuel : Nat) (cs : List Value) (x : DataW H × List MemPlace),
    DataW.trod enc P w 0 (fun _ => true) held fuel t cs = some x → (x.1.weights P t).all (· ≤ reachBytes) = true → ∃ a, R w cs a ∧ bulk a ≤ Rows.uptoBulk x.1
theorem step_of {H : Type} {enc : TypeId × Value → H} {w : World} {sp : Nat → Bool} {held : Bool} {fuel : Nat} {t : TypeId} {cs : List Value} {x : DataW H × List MemPlace} (h : DataW.trod enc P w 0 sp held fuel t cs = some x) :
    ∃ n, fuel = n + 1 ∧ DataW.trod enc P w 0 sp held (n + 1) t cs = some x := by
  cases fuel with
  | zero => simp [DataW.trod] at h
  | succ n => exact ⟨n, rfl, h⟩
theorem mapM_all' {α β : Type} {g : α → Option β} : ∀ {l : List α} {ys : List β}, l.mapM g = some ys → ys.length = l.length ∧ ∀ (i : Nat) (h : i < l.length), ∃ y, g l[i] = some y ∧ ys[i]? = some y := by
  intro l
  induction l with
  | nil => intro ys h; simp at h; subst h; simp
  | cons a l ih =>
    intro ys h
    rw [List.mapM_cons] at h
    cases ha : g a with
    | none => simp [ha] at h
    | some y =>
      cases hl : l.mapM g with
      | none => simp [ha, hl] at h
      | some zs =>
        simp [ha, hl] at h
        subst h
        obtain ⟨h1, h2⟩ := ih hl
        refine ⟨by simp [h1], fun i hi => ?_⟩
        cases i with
        | zero => exact ⟨y, ha, rfl⟩
        | succ i => simpa using h2 i (by simpa using hi)
def iR (k : IntKind) : RepT Int := fun _ cs a => cs = [.int k a] ∧ (Lit.int k a).wf = true
/-- a slice: its cell, what it reads as, its size -/
def lR {α : Type} (n b : Nat) (R : RepT α) : RepT (List α) := fun w cs l => ∃ v, cs = [v] ∧ rdS n R w v l ∧ l.length * b ≤ reachBytes
theorem op_int {t : TypeId} {k : IntKind} (hu : P.underlying t = some (.int k)) : Opens P t Int (iR k) (fun _ => 1) := by
  intro H enc w held fuel cs x h _
  obtain ⟨a, h1, h2, h3⟩ := DataW.trod_int hu h
  refine ⟨a, ⟨h1, h3⟩, ?_⟩
  cases x with | mk d p => cases d with
    | lit l => cases l <;> simp [Rows.uptoBulk]
    | _ => simp [Rows.uptoBulk]
theorem cells?_at {w : World} {a : Addr} {n : Nat} {es : List Value} (h : w.cells? 0 a n = some es) : es.length = n ∧ cellsAt w a es := by
  unfold World.cells? at h
  rw [if_pos (Nat.zero_le _)] at h
  obtain ⟨h1, h2⟩ := mapM_all' h
  rw [List.length_range] at h1
  refine ⟨h1, fun j v hj => ?_⟩
  have hlt : j < es.length := by
    rcases Nat.lt_or_ge j es.length with h | h
    · exact h
    · simp [List.getElem?_eq_none h] at hj
  obtain ⟨y, g1, g2⟩ := h2 j (by simpa [← h1] using hlt)
  rw [List.getElem_range] at g1
  rw [hj] at g2
  cases g2
  exact g1
theorem sum_le_all {H : Type} {α : Type} {b : α → Nat} : ∀ (l : List α) (ys : List (DataW H)), l.length = ys.length → (∀ (i : Nat) (h : i < l.length) (h' : i < ys.length), b l[i] ≤ Rows.uptoBulk ys[i]) → (l.map b).sum ≤ Rows.uptoBulkAll ys := by
  intro l
  induction l with
  | nil => intro ys _ _; simp
  | cons x l ih =>
    intro ys hl h
    cases ys with
    | nil => simp at hl
    | cons y ys =>
      have h0 := h 0 (by simp) (by simp)
      have := ih ys (by simpa using hl) (fun i h1 h2 => h (i + 1) (Nat.succ_lt_succ h1) (Nat.succ_lt_succ h2))
      simp only [List.map_cons, List.sum_cons, Rows.uptoBulkAll]
      simp at h0
      omega
theorem choose_list {α : Type} {n : Nat} {p : Nat → α → Prop} (h : ∀ i, i < n → ∃ a, p i a) : ∃ l : List α, l.length = n ∧ ∀ i (hi : i < l.length), p i l[i] := by
  induction n with
  | zero => exact ⟨[], rfl, fun i hi => by simp at hi⟩
  | succ n ih =>
    obtain ⟨l, h1, h2⟩ := ih (fun i hi => h i (by omega))
    obtain ⟨a, ha⟩ := h n (by omega)
    refine ⟨l ++ [a], by simp [h1], fun i hi => ?_⟩
    by_cases c : i < l.length
    · rw [List.getElem_append_left c]; exact h2 i c
    · have : i = l.length := by simp at hi; omega
      subst this
      simp [h1, ha]
theorem weights_all {H : Type} {e : TypeId} : ∀ (l : List (DataW H)), (DataW.weightsAll P e l).all (· ≤ reachBytes) = true → ∀ (i : Nat) (h : i < l.length), (l[i].weights P e).all (· ≤ reachBytes) = true := by
  intro l
  induction l with
  | nil => intro _ i h; simp at h
  | cons d l ih =>
    intro hw i h
    simp only [DataW.weightsAll, List.all_append, Bool.and_eq_true] at hw
    cases i with
    | zero => exact hw.1
    | succ i => exact ih hw.2 i (by simpa using h)
theorem op_slice {t e : TypeId} {n : Nat} {α : Type} {R : RepT α} {b : α → Nat} (hu : P.underlying t = some (.slice e)) (hn : P.cellsOf e = n) (he : Opens P e α R b) : Opens P t (List α) (lR n (P.bytesOf e) R) (fun l => (l.map b).sum + 1) := by
  intro H enc w held fuel cs x h hw
  subst hn
  obtain ⟨f, rfl, h⟩ := step_of h
  rw [DataW.trod_step] at h
  unfold DataW.trodStep at h
  simp only [hu] at h
  split at h <;> first | (cases h; done) | (rename_i heq _; cases heq; done) | skip
  · cases h; exact ⟨[], ⟨_, rfl, .inl ⟨rfl, rfl⟩, by simp⟩, by simp [Rows.uptoBulk]⟩
  · rename_i a len cap heq _
    cases heq
    simp only [Option.ite_none_right_eq_some, Option.bind_eq_some_iff, Option.map_eq_some_iff, if_true] at h
    obtain ⟨hc, ys, hy, zs, hz, rfl⟩ := h
    obtain ⟨hl, hall⟩ := mapM_all' hy
    rw [List.length_range] at hl
    simp only [DataW.weights, hu, List.all_cons, List.all_append, Bool.and_eq_true, decide_eq_true_eq] at hw
    have hwa := fun (i : Nat) (h : i < (ys.map (·.1)).length) => weights_all (ys.map (·.1)) hw.2.1 i h
    have key : ∀ i, i < len → ∃ q : α, ∃ y es, ys[i]? = some y ∧ es.length = P.cellsOf e ∧ cellsAt w (a.add (i * P.cellsOf e)) es ∧ R w es q ∧ b q ≤ Rows.uptoBulk y.1 := by
      intro i hi
      obtain ⟨y, g1, g2⟩ := hall i (by simpa using hi)
      rw [List.getElem_range] at g1
      cases hcs : w.cells? 0 (a.add (i * P.cellsOf e)) (P.cellsOf e) with
      | none => simp [hcs] at g1
      | some es =>
        simp [hcs] at g1
        obtain ⟨k1, k2⟩ := cells?_at hcs
        have hlt : i < ys.length := by omega
        rw [List.getElem?_eq_getElem hlt] at g2
        have hww := hwa i (by simpa using hlt)
        cases g2
        obtain ⟨q, k3, k4⟩ := he enc w held f es _ g1 (by simpa using hww)
        have g2 : ys[i]? = some ys[i] := List.getElem?_eq_getElem hlt
        exact ⟨q, _, es, g2, k1, k2, k3, k4⟩
    obtain ⟨l, hll, hlp⟩ := choose_list key
    refine ⟨l, ?_, ?_⟩
    · refine ⟨_, rfl, .inr ⟨a, cap, by rw [hll], by rw [hll]; exact hc.2.1, fun i hi => ?_⟩, ?_⟩
      · obtain ⟨y, es, _, k1, k2, k3, _⟩ := hlp i hi
        exact ⟨es, k1, k2, k3⟩
      · have h9 := hw.1
        rw [List.length_map, hl] at h9
        rw [hll]
        exact Nat.le_trans (Nat.mul_le_mul_right _ (Nat.le_add_right _ _)) h9
    · simp only [Rows.uptoBulk]
      have := sum_le_all (b := b) l (ys.map (·.1)) (by simp [hll, hl]) (fun i h1 h2 => by
        obtain ⟨y, es, k0, _, _, _, k4⟩ := hlp i h1
        have h3 : i < ys.length := by simpa using h2
        rw [List.getElem?_eq_getElem h3] at k0
        cases k0
        simpa using k4)
      omega
/-- a struct's fields, one after the other -/
def OpensF (P : Program) (fs : List Field) (α : Type) (R : RepT α) (bulk : α → Nat) : Prop :=
  ∀ {H : Type} (enc : TypeId × Value → H) (w : World) (held : Bool) (fuel : Nat) (cs : List Value) (ys : List (DataW H × List MemPlace)),
    (fs.mapM fun f => DataW.trod enc P w 0 (fun _ => true) held fuel f.type ((cs.drop f.offset).take (P.cellsOf f.type))) = some ys →
    (DataW.weightsEach P (fs.map (·.type)) (ys.map (·.1))).all (· ≤ reachBytes) = true → ∃ a, R w cs a ∧ bulk a ≤ Rows.uptoBulkAll (ys.map (·.1))
theorem opf_nil : OpensF P [] Unit (fun _ _ _ => True) (fun _ => 0) := by
  intro H enc w held fuel cs ys h _
  exact ⟨(), trivial, by simp⟩
theorem opf_cons {f : Field} {fs : List Field} {n : Nat} {α β : Type} {R : RepT α} {S : RepT β} {b : α → Nat} {c : β → Nat} (hn : P.cellsOf f.type = n) (he : Opens P f.type α R b) (hf : OpensF P fs β S c) :
    OpensF P (f :: fs) (α × β) (fun w cs x => R w ((cs.drop f.offset).take n) x.1 ∧ S w cs x.2) (fun x => b x.1 + c x.2) := by
  intro H enc w held fuel cs ys h hw
  rw [List.mapM_cons] at h
  cases h1 : DataW.trod enc P w 0 (fun _ => true) held fuel f.type ((cs.drop f.offset).take (P.cellsOf f.type)) with
  | none => simp [h1] at h
  | some y =>
    simp only [h1] at h
    cases h2 : (fs.mapM fun f => DataW.trod enc P w 0 (fun _ => true) held fuel f.type ((cs.drop f.offset).take (P.cellsOf f.type))) with
    | none => simp [h2] at h
    | some zs =>
      simp [h2] at h
      subst h
      simp only [List.map_cons, DataW.weightsEach, List.all_append, Bool.and_eq_true] at hw
      obtain ⟨a, k1, k2⟩ := he enc w held fuel _ y h1 hw.1
      obtain ⟨a', k3, k4⟩ := hf enc w held fuel cs zs h2 hw.2
      rw [hn] at k1
      exact ⟨(a, a'), ⟨k1, k3⟩, by simp only [List.map_cons, Rows.uptoBulkAll]; omega⟩
theorem op_struct {t : TypeId} {fs : Array Field} {n : Nat} {α : Type} {R : RepT α} {b : α → Nat} (hu : P.underlying t = some (.struct fs)) (hn : P.cellsOf t = n) (hf : OpensF P fs.toList α R b) : Opens P t α (fun w cs x => cs.length = n ∧ R w cs x) (fun x => b x + 1) := by
  intro H enc w held fuel cs x h hw
  obtain ⟨f, rfl, h⟩ := step_of h
  rw [DataW.trod_step] at h
  unfold DataW.trodStep at h
  simp only [hu, hn] at h
  simp only [Option.ite_none_right_eq_some, Option.map_eq_some_iff] at h
  obtain ⟨hc, ys, hy, rfl⟩ := h
  have hf' : (fs.toList.mapM fun f' => DataW.trod enc P w 0 (fun _ => true) held f f'.type ((cs.drop f'.offset).take (P.cellsOf f'.type))) = some ys := by simpa using hy
  simp only [DataW.weights, hu] at hw
  obtain ⟨a, k1, k2⟩ := hf enc w held f cs ys hf' hw
  exact ⟨a, ⟨hc, k1⟩, by simp only [Rows.uptoBulk]; omega⟩
theorem Opens.mono {t : TypeId} {α : Type} {β : Type} {R : RepT α} {S : RepT β} {b : α → Nat} {c : β → Nat} (h : Opens P t α R b) (f : ∀ w cs a, R w cs a → ∃ x, S w cs x ∧ c x ≤ b a) : Opens P t β S c := by
  intro H enc w held fuel cs x hx hw
  obtain ⟨a, h1, h2⟩ := h enc w held fuel cs x hx hw
  obtain ⟨y, h3, h4⟩ := f w cs a h1
  exact ⟨y, h3, Nat.le_trans h4 h2⟩
end
/-- an argument of one cell -/
theorem open_one {P : Program} {t : TypeId} {α : Type} {R : RepT α} {b : α → Nat} (h : Opens P t α R b) (hs : isSc P t = true) (h1 : ∀ w cs a, R w cs a → ∃ v, cs = [v])
    {H : Type} {enc : TypeId × Value → H} {W : World} {held : Bool} {r : Reach} {b0 : Nat} {v : Value} {d : DataW H} {ps : List MemPlace}
    (hv : Value.okWide P W r b0 t v) (hd : DataW.Trod enc P W 0 (fun _ => true) held t v d ps) (hw : (d.weights P t).all (· ≤ reachBytes) = true) : ∃ a, R W [v] a ∧ b a ≤ Rows.uptoBulk d := by
  obtain ⟨fuel, hf⟩ := hd
  obtain ⟨a, h2, h3⟩ := h enc W held fuel _ _ hf hw
  refine ⟨a, ?_, h3⟩
  suffices v.cells = #[v] by rw [this] at h2; exact h2
  cases v with
  | agg cs =>
    exfalso
    unfold isSc at hs
    unfold Value.okWide at hv
    cases hu : P.underlying t with
    | none => simp [hu] at hs
    | some u => cases u <;> simp [hu] at hs <;> simp [hu, Cell.okWide, Cell.ok] at hv
  | _ => rfl
end Sh
end Go.Proofs.Ytnckcgpmidgggaa

namespace Go.Proofs.Ytnckcgpmidgggaa
namespace Sh
open RowKit
section
variable {P : Program} {w : World} {Q : Value → World → Prop} {K : Value → M} {K0 : M} {B : Nat}
theorem ownI_drw {e : TypeId} {k : IntKind} {v : Value} {l : List Int} (h : ownI B e k w v l) : ownI B e k (drw w) v l := h
/-- the first of a slice -/
theorem sll_S {α : Type} {n : Nat} {R : RepT α} {v : Value} {l : List α} {k : Nat} {j : IntKind} (h : rdS n R w v l) (hk : k ≤ l.length) (kk : ∀ v', rdS n R w v' (l.take k) → K v' w Q) : sll n v none (some (.int j (k : Int))) K w Q := by
  rcases h with ⟨rfl, rfl⟩ | ⟨a, c, rfl, hcc, h⟩
  · have : k = 0 := by simpa using hk
    subst this
    refine ⟨none, 0, 0, 0, 0, rfl, ⟨_, _, rfl, by omega, by omega, by omega⟩, rfl, ?_⟩
    exact kk _ (.inl ⟨by simp, by simp⟩)
  · refine ⟨some a, l.length, c, 0, k, rfl, ⟨_, _, rfl, by omega, by omega, by omega⟩, rfl, ?_⟩
    have ev : (if c = 0 then some a else (some a).map (·.add (0 * n))) = some a := by split <;> simp [add_zero']
    rw [ev, Nat.sub_zero, Nat.sub_zero]
    refine kk _ (.inr ⟨a, c, by rw [List.length_take, Nat.min_eq_left hk], by rw [List.length_take]; omega, fun i hi => ?_⟩)
    have hi' : i < l.length := by simp at hi; omega
    obtain ⟨es, h1, h2, h3⟩ := h i hi'
    exact ⟨es, h1, h2, by simpa using h3⟩
end
end Sh
end Go.Proofs.Ytnckcgpmidgggaa

namespace Go.Proofs.Ytnckcgpmidgggaa
namespace Sh
open RowKit Go.MapKept
/-- a map's type, its keys' -/
structure KeyK (P : Program) (t kt et : TypeId) (d : TypeDesc) {α : Type} (kv : α → Value) : Prop where
  hm : P.underlying t = some (.map kt et)
  hd : P.underlying kt = some d
  key : ∀ a, IsKey d (kv a)
  inj : ∀ a b, kv a = kv b → a = b
def MapAt {α : Type} (kv : α → Value) (w : World) (b : Nat) (L : List (α × Value)) : Prop :=
  ∃ es clock, w.heap[b]? = some (.map es clock) ∧ Stamped es clock ∧ es.toList.map (fun e => (e.key, e.val)) = L.map (fun p => (kv p.1, p.2))
def put {α : Type} [DecidableEq α] (L : List (α × Value)) (k : α) (v : Value) : List (α × Value) :=
  if k ∈ L.map (·.1) then L.map (fun p => if p.1 = k then (k, v) else p) else L ++ [(k, v)]
section
variable {α : Type} [DecidableEq α] {kv : α → Value} {P : Program} {t kt et : TypeId} {d : TypeDesc} {w : World} {b : Nat} {L : List (α × Value)} {K : Value → M} {K0 : M} {Q : Value → World → Prop}
omit [DecidableEq α] in
theorem MapAt.stay {w' : World} (h : MapAt kv w b L) (hb : w'.heap[b]? = w.heap[b]?) : MapAt kv w' b L := by
  obtain ⟨es, clock, h1, h2, h3⟩ := h
  exact ⟨es, clock, by rw [hb]; exact h1, h2, h3⟩
omit [DecidableEq α] in
theorem MapAt.lt (h : MapAt kv w b L) : b < w.heap.size := by obtain ⟨es, clock, h1, _⟩ := h; exact blk_lt h1
omit [DecidableEq α] in
theorem MapAt.below {w' : World} (h : MapAt kv w b L) (hb : Below w.heap.size w w') : MapAt kv w' b L := h.stay (hb.block b h.lt)
omit [DecidableEq α] in
theorem MapAt.upd {w' : World} {p : Nat} (h : MapAt kv w b L) (hc : Upd p w w') (hp : b ≠ p) : MapAt kv w' b L := h.stay (hc.block b hp)
/-- an iterator over a map: what has not yet been told -/
def RangeAt {α : Type} (kv : α → Value) (w : World) (r b : Nat) (L rest : List (α × Value)) : Prop :=
  ∃ es clock since seen c0, w.heap[b]? = some (.map es clock) ∧ w.heap[r]? = some (.mapIter (some b) since seen c0) ∧ Stamped es clock ∧ (∀ x ∈ es.toList, x.born < since) ∧ since ≤ c0 ∧ since ≤ clock ∧
    es.toList.map (fun e => (e.key, e.val)) = L.map (fun p => (kv p.1, p.2)) ∧ (leftOf es seen).toList.map (fun e => (e.key, e.val)) = rest.map (fun p => (kv p.1, p.2))
omit [DecidableEq α] in
theorem RangeAt.map {r : Nat} {rest : List (α × Value)} (h : RangeAt kv w r b L rest) : MapAt kv w b L := by
  obtain ⟨es, clock, since, seen, c0, h1, h2, h3, h4, h5, h6, h7, h8⟩ := h
  exact ⟨es, clock, h1, h3, h7⟩
omit [DecidableEq α] in
theorem RangeAt.stay {r : Nat} {rest : List (α × Value)} {w' : World} (h : RangeAt kv w r b L rest) (hb : w'.heap[b]? = w.heap[b]?) (hr : w'.heap[r]? = w.heap[r]?) : RangeAt kv w' r b L rest := by
  obtain ⟨es, clock, since, seen, c0, h1, h2, h3⟩ := h
  exact ⟨es, clock, since, seen, c0, by rw [hb]; exact h1, by rw [hr]; exact h2, h3⟩
omit [DecidableEq α] in
theorem RangeAt.lt {r : Nat} {rest : List (α × Value)} (h : RangeAt kv w r b L rest) : b < w.heap.size ∧ r < w.heap.size := by
  obtain ⟨es, clock, since, seen, c0, h1, h2, _⟩ := h
  exact ⟨blk_lt h1, blk_lt h2⟩
omit [DecidableEq α] in
theorem RangeAt.below {r : Nat} {rest : List (α × Value)} {w' : World} (h : RangeAt kv w r b L rest) (hb : Below w.heap.size w w') : RangeAt kv w' r b L rest := h.stay (hb.block _ h.lt.1) (hb.block _ h.lt.2)
end
end Sh
end Go.Proofs.Ytnckcgpmidgggaa

namespace Go.Proofs.Ytnckcgpmidgggaa
namespace Sh
namespace Hp
/-- a strict order in which unlike ones may stand alike -/
structure Ord {α : Type} (lt : α → α → Bool) : Prop where
  asym : ∀ a b, lt a b = true → lt b a = false
  ntr : ∀ a b c, lt b a = false → lt c b = false → lt c a = false
section
variable {α : Type} [Inhabited α] {lt : α → α → Bool}
def g (l : List α) (i : Nat) : α := l.getD i default
def swap (l : List α) (i j : Nat) : List α := (l.set i (g l j)).set j (g l i)
theorem swap_len (l : List α) (i j : Nat) : (swap l i j).length = l.length := by simp [swap]
theorem g_set {l : List α} {i j : Nat} {x : α} (hi : i < l.length) : g (l.set i x) j = if i = j then x else g l j := by
  unfold g
  rw [List.getD_eq_getElem?_getD, List.getD_eq_getElem?_getD, List.getElem?_set]
  by_cases h : i = j
  · subst h; simp [hi]
  · simp [h]
theorem g_swap {l : List α} {i j k : Nat} (hi : i < l.length) (hj : j < l.length) : g (swap l i j) k = if k = j then g l i else if k = i then g l j else g l k := by
  unfold swap
  rw [g_set (by simpa using hj), g_set hi]
  by_cases h1 : k = j
  · simp [h1]
  · by_cases h2 : k = i
    · subst h2
      rw [if_neg (Ne.symm h1), if_pos rfl, if_neg h1]
    · simp [h1, h2, Ne.symm h1, Ne.symm h2]
theorem g_get {l : List α} {i : Nat} (h : i < l.length) : g l i = l[i] := by simp [g, h]
theorem swap_perm {l : List α} {i j : Nat} (hi : i < l.length) (hj : j < l.length) : (swap l i j).Perm l := by
  unfold swap
  rw [g_get hi, g_get hj]
  exact List.set_set_perm hi hj
def par (k : Nat) : Nat := (k - 1) / 2
def le (lt : α → α → Bool) (l : List α) (i j : Nat) : Prop := lt (g l j) (g l i) = false
/-- the first n are a heap -/
def HP (lt : α → α → Bool) (l : List α) (n : Nat) : Prop := ∀ k, 0 < k → k < n → le lt l (par k) k
def upI (lt : α → α → Bool) (l : List α) (n j : Nat) : Prop := (∀ k, 0 < k → k < n → k ≠ j → le lt l (par k) k) ∧ (∀ c, 0 < c → c < n → par c = j → 0 < j → le lt l (par j) c)
theorem le_trans' (O : Ord lt) {l : List α} {a b c : Nat} (h1 : le lt l a b) (h2 : le lt l b c) : le lt l a c := O.ntr _ _ _ h1 h2
/-- upward -/
def up (lt : α → α → Bool) : Nat → List α → Nat → List α
  | 0, l, _ => l
  | m + 1, l, j => if par j = j ∨ lt (g l j) (g l (par j)) = false then l else up lt m (swap l (par j) j) (par j)
theorem up_spec (O : Ord lt) : ∀ (m : Nat) (l : List α) (n j : Nat), j < m → j < n → n ≤ l.length → upI lt l n j → HP lt (up lt m l j) n ∧ (up lt m l j).Perm l ∧ ∀ k, n ≤ k → g (up lt m l j) k = g l k := by
  intro m
  induction m with
  | zero => intro l n j h; omega
  | succ m ih =>
    intro l n j hm hj hn ⟨h1, h2⟩
    unfold up
    by_cases c : par j = j ∨ lt (g l j) (g l (par j)) = false
    · rw [if_pos c]
      refine ⟨fun k k0 kn => ?_, List.Perm.refl _, fun _ _ => rfl⟩
      by_cases e : k = j
      · subst e
        rcases c with c | c
        · unfold par at c; omega
        · exact c
      · exact h1 k k0 kn e
    · rw [if_neg c]
      have c1 : par j ≠ j := fun e => c (.inl e)
      have c2 : lt (g l j) (g l (par j)) = true := by
        cases h : lt (g l j) (g l (par j)) with
        | true => rfl
        | false => exact absurd (.inr h) c
      have j0 : 0 < j := by unfold par at c1; omega
      have hp : par j < j := by unfold par at c1 ⊢; omega
      have hpl : par j < l.length := by omega
      have hjl : j < l.length := by omega
      have key : upI lt (swap l (par j) j) n (par j) := by
        constructor
        · intro k k0 kn kp
          unfold le
          rw [g_swap hpl hjl, g_swap hpl hjl]
          by_cases kj : k = j
          · subst kj
            rw [if_pos rfl, if_neg (by omega), if_pos rfl]
            exact O.asym _ _ c2
          · rw [if_neg kj, if_neg kp]
            by_cases e1 : par k = j
            · rw [if_pos e1]
              exact h2 k k0 kn e1 j0
            · rw [if_neg e1]
              by_cases e2 : par k = par j
              · rw [if_pos e2]
                have := h1 k k0 kn kj
                unfold le at this
                rw [e2] at this
                exact O.ntr _ _ _ (O.asym _ _ c2) this
              · rw [if_neg e2]
                exact h1 k k0 kn kj
        · intro k k0 kn kp p0
          have hpp : par (par j) < par j := by unfold par at p0 ⊢; omega
          unfold le
          rw [g_swap hpl hjl, g_swap hpl hjl, if_neg (by omega : ¬ par (par j) = j), if_neg (by omega : ¬ par (par j) = par j)]
          have hpj := h1 (par j) p0 (by omega) (by omega)
          by_cases kj : k = j
          · subst kj
            rw [if_pos rfl]
            exact hpj
          · rw [if_neg kj, if_neg (by unfold par at kp; intro e; subst e; unfold par at kp p0; omega)]
            have := h1 k k0 kn kj
            rw [kp] at this
            exact O.ntr _ _ _ hpj this
      obtain ⟨i1, i2, i3⟩ := ih (swap l (par j) j) n (par j) (by omega) (by omega) (by rw [swap_len]; exact hn) key
      refine ⟨i1, i2.trans (swap_perm hpl hjl), fun k hk => ?_⟩
      rw [i3 k hk, g_swap hpl hjl, if_neg (by omega), if_neg (by omega)]
/-- the child to go on at -/
def kid (lt : α → α → Bool) (l : List α) (i n : Nat) : Nat := if 2 * i + 2 < n ∧ lt (g l (2 * i + 2)) (g l (2 * i + 1)) = true then 2 * i + 2 else 2 * i + 1
/-- downward: the list, and where it ended -/
def down (lt : α → α → Bool) : Nat → List α → Nat → Nat → List α × Nat
  | 0, l, i, _ => (l, i)
  | m + 1, l, i, n => if n ≤ 2 * i + 1 ∨ lt (g l (kid lt l i n)) (g l i) = false then (l, i) else down lt m (swap l i (kid lt l i n)) (kid lt l i n) n
def dnI (lt : α → α → Bool) (l : List α) (n i : Nat) : Prop := (∀ k, 0 < k → k < n → par k ≠ i → le lt l (par k) k) ∧ (∀ c, 0 < c → c < n → par c = i → 0 < i → le lt l (par i) c)
theorem kid_is (O : Ord lt) {l : List α} {i n : Nat} (h : 2 * i + 1 < n) : par (kid lt l i n) = i ∧ kid lt l i n < n ∧ i < kid lt l i n ∧ ∀ c, 0 < c → c < n → par c = i → le lt l (kid lt l i n) c := by
  unfold kid
  split
  · rename_i c
    refine ⟨by unfold par; omega, c.1, by omega, fun k k0 kn kp => ?_⟩
    have : k = 2 * i + 1 ∨ k = 2 * i + 2 := by unfold par at kp; omega
    rcases this with rfl | rfl
    · exact O.asym _ _ c.2
    · unfold le
      cases h : lt (g l (2 * i + 2)) (g l (2 * i + 2)) with
      | false => rfl
      | true => have := O.asym _ _ h; rw [h] at this; exact this
  · rename_i c
    refine ⟨by unfold par; omega, h, by omega, fun k k0 kn kp => ?_⟩
    have : k = 2 * i + 1 ∨ k = 2 * i + 2 := by unfold par at kp; omega
    rcases this with rfl | rfl
    · unfold le
      cases h : lt (g l (2 * i + 1)) (g l (2 * i + 1)) with
      | false => rfl
      | true => have := O.asym _ _ h; rw [h] at this; exact this
    · unfold le
      cases h : lt (g l (2 * i + 2)) (g l (2 * i + 1)) with
      | false => rfl
      | true => exact absurd ⟨kn, h⟩ c
/-- one step downward from a place whose parts are heaps, whatever stands there -/
theorem down_step (O : Ord lt) {l : List α} {i n : Nat} (hn : n ≤ l.length) (hi : i < n) (h1 : ∀ k, 0 < k → k < n → k ≠ i → par k ≠ i → le lt l (par k) k) (h2 : ∀ c, 0 < c → c < n → par c = i → 0 < i → le lt l (par i) c)
    (hc : 2 * i + 1 < n) (hlt : lt (g l (kid lt l i n)) (g l i) = true) : dnI lt (swap l i (kid lt l i n)) n (kid lt l i n) := by
  obtain ⟨k1, k2, k3, k4⟩ := kid_is (lt := lt) O (l := l) hc
  generalize kid lt l i n = j at *
  have hil : i < l.length := by omega
  have hjl : j < l.length := by omega
  constructor
  · intro k k0 kn kp
    unfold le
    rw [g_swap hil hjl, g_swap hil hjl, if_neg kp]
    by_cases kj : k = j
    · subst kj
      rw [if_pos rfl, if_pos k1]
      exact O.asym _ _ hlt
    · rw [if_neg kj]
      by_cases ki : k = i
      · subst ki
        rw [if_pos rfl, if_neg (by unfold par; omega)]
        exact h2 j (by omega) k2 k1 k0
      · rw [if_neg ki]
        by_cases e : par k = i
        · rw [if_pos e]
          exact k4 k k0 kn e
        · rw [if_neg e]
          exact h1 k k0 kn ki e
  · intro k k0 kn kp j0
    unfold le
    rw [g_swap hil hjl, g_swap hil hjl, if_neg (show ¬ k = j by unfold par at kp; omega), if_neg (show ¬ k = i by unfold par at kp; omega), if_neg (show ¬ par j = j by rw [k1]; omega), if_pos k1]
    have := h1 k k0 kn (by unfold par at kp; omega) (by omega)
    rw [kp] at this
    exact this
theorem down_spec (O : Ord lt) : ∀ (m : Nat) (l : List α) (n i : Nat), n ≤ i + m → i < n → n ≤ l.length → dnI lt l n i → HP lt (down lt m l i n).1 n ∧ (down lt m l i n).1.Perm l ∧ (∀ k, n ≤ k → g (down lt m l i n).1 k = g l k) ∧ i ≤ (down lt m l i n).2 := by
  intro m
  induction m with
  | zero => intro l n i h; omega
  | succ m ih =>
    intro l n i hm hi hn ⟨h1, h2⟩
    unfold down
    by_cases c : n ≤ 2 * i + 1 ∨ lt (g l (kid lt l i n)) (g l i) = false
    · rw [if_pos c]
      refine ⟨fun k k0 kn => ?_, List.Perm.refl _, fun _ _ => rfl, Nat.le_refl _⟩
      by_cases e : par k = i
      · rcases c with c | c
        · unfold par at e; omega
        · by_cases hc : 2 * i + 1 < n
          · rw [e]
            exact O.ntr _ _ _ c ((kid_is O hc).2.2.2 k k0 kn e)
          · unfold par at e; omega
      · exact h1 k k0 kn e
    · rw [if_neg c]
      have hc : 2 * i + 1 < n := by
        rcases Nat.lt_or_ge (2 * i + 1) n with h | h
        · exact h
        · exact absurd (.inl h) c
      have hlt : lt (g l (kid lt l i n)) (g l i) = true := by
        cases h : lt (g l (kid lt l i n)) (g l i) with
        | true => rfl
        | false => exact absurd (.inr h) c
      have st := down_step O hn hi (fun k a b _ d => h1 k a b d) h2 hc hlt
      obtain ⟨k1, k2, k3, k4⟩ := kid_is (lt := lt) O (l := l) hc
      obtain ⟨i1, i2, i3, i4⟩ := ih _ n (kid lt l i n) (by omega) k2 (by rw [swap_len]; exact hn) st
      refine ⟨i1, i2.trans (swap_perm (by omega) (by omega)), fun k hk => ?_, by omega⟩
      rw [i3 k hk, g_swap (by omega) (by omega), if_neg (by omega), if_neg (by omega)]
/-- whatever stands at i: fixed -/
def fix (lt : α → α → Bool) (l : List α) (i n : Nat) : List α := if (down lt (n - i) l i n).2 = i then up lt (i + 1) (down lt (n - i) l i n).1 i else (down lt (n - i) l i n).1
theorem fix_spec (O : Ord lt) {l : List α} {i n : Nat} (hn : n ≤ l.length) (hi : i < n) (h1 : ∀ k, 0 < k → k < n → k ≠ i → par k ≠ i → le lt l (par k) k) (h2 : ∀ c, 0 < c → c < n → par c = i → 0 < i → le lt l (par i) c) :
    HP lt (fix lt l i n) n ∧ (fix lt l i n).Perm l ∧ ∀ k, n ≤ k → g (fix lt l i n) k = g l k := by
  unfold fix
  obtain ⟨m, hm⟩ : ∃ m, n - i = m + 1 := ⟨n - i - 1, by omega⟩
  rw [hm]
  unfold down
  by_cases c : n ≤ 2 * i + 1 ∨ lt (g l (kid lt l i n)) (g l i) = false
  · rw [if_pos c, if_pos rfl]
    refine up_spec O (i + 1) l n i (by omega) hi hn ⟨fun k k0 kn ki => ?_, h2⟩
    by_cases e : par k = i
    · rcases c with c | c
      · unfold par at e; omega
      · by_cases hc : 2 * i + 1 < n
        · rw [e]
          exact O.ntr _ _ _ c ((kid_is O hc).2.2.2 k k0 kn e)
        · unfold par at e; omega
    · exact h1 k k0 kn ki e
  · rw [if_neg c]
    have hc : 2 * i + 1 < n := by
      rcases Nat.lt_or_ge (2 * i + 1) n with h | h
      · exact h
      · exact absurd (.inl h) c
    have hlt : lt (g l (kid lt l i n)) (g l i) = true := by
      cases h : lt (g l (kid lt l i n)) (g l i) with
      | true => rfl
      | false => exact absurd (.inr h) c
    have st := down_step O hn hi h1 h2 hc hlt
    obtain ⟨k1, k2, k3, k4⟩ := kid_is (lt := lt) O (l := l) hc
    obtain ⟨i1, i2, i3, i4⟩ := down_spec O m _ n (kid lt l i n) (by omega) k2 (by rw [swap_len]; exact hn) st
    rw [if_neg (by omega)]
    refine ⟨i1, i2.trans (swap_perm (by omega) (by omega)), fun k hk => ?_⟩
    rw [i3 k hk, g_swap (by omega) (by omega), if_neg (by omega), if_neg (by omega)]
/-- the first of a heap is a least one -/
theorem first (O : Ord lt) {l : List α} {n : Nat} (h : HP lt l n) : ∀ k, k < n → le lt l 0 k := by
  intro k
  induction k using Nat.strongRecOn with
  | _ k ih =>
    intro kn
    by_cases k0 : k = 0
    · subst k0
      unfold le
      cases hh : lt (g l 0) (g l 0) with
      | false => rfl
      | true => have := O.asym _ _ hh; rw [hh] at this; exact this
    · have hp : par k < k := by unfold par; omega
      exact le_trans' O (ih _ hp (by omega)) (h k (by omega) kn)
theorem HP.mono {l : List α} {n m : Nat} (h : HP lt l n) (hm : m ≤ n) : HP lt l m := fun k a b => h k a (by omega)
end
end Hp
end Sh
end Go.Proofs.Ytnckcgpmidgggaa

namespace Go.Proofs.Ytnckcgpmidgggaa
open Sh RowKit
namespace Sh.Hp
section
variable {α : Type} [Inhabited α] {lt : α → α → Bool}
/-- a heap from a place on -/
def HPb (lt : α → α → Bool) (l : List α) (n b : Nat) : Prop := ∀ k, 0 < k → k < n → b ≤ par k → le lt l (par k) k
def dnB (lt : α → α → Bool) (l : List α) (n i b : Nat) : Prop := (∀ k, 0 < k → k < n → par k ≠ i → b ≤ par k → le lt l (par k) k) ∧ (∀ c, 0 < c → c < n → par c = i → 0 < i → b ≤ par i → le lt l (par i) c)
theorem downB_step (O : Ord lt) {l : List α} {i n b : Nat} (hb : b ≤ i) (hn : n ≤ l.length) (hi : i < n) (h : dnB lt l n i b)
    (hc : 2 * i + 1 < n) (hlt : lt (g l (kid lt l i n)) (g l i) = true) : dnB lt (swap l i (kid lt l i n)) n (kid lt l i n) b := by
  obtain ⟨h1, h2⟩ := h
  obtain ⟨k1, k2, k3, k4⟩ := kid_is (lt := lt) O (l := l) hc
  generalize kid lt l i n = j at *
  have hil : i < l.length := by omega
  have hjl : j < l.length := by omega
  constructor
  · intro k k0 kn kp kb
    unfold le
    rw [g_swap hil hjl, g_swap hil hjl, if_neg kp]
    by_cases kj : k = j
    · subst kj
      rw [if_pos rfl, if_pos k1]
      exact O.asym _ _ hlt
    · rw [if_neg kj]
      by_cases ki : k = i
      · subst ki
        rw [if_pos rfl, if_neg (by unfold par; omega)]
        exact h2 j (by omega) k2 k1 k0 kb
      · rw [if_neg ki]
        by_cases e : par k = i
        · rw [if_pos e]
          exact k4 k k0 kn e
        · rw [if_neg e]
          exact h1 k k0 kn e kb
  · intro k k0 kn kp j0 kb
    unfold le
    rw [g_swap hil hjl, g_swap hil hjl, if_neg (show ¬ k = j by unfold par at kp; omega), if_neg (show ¬ k = i by unfold par at kp; omega), if_neg (show ¬ par j = j by rw [k1]; omega), if_pos k1]
    have := h1 k k0 kn (by omega) (by omega)
    rw [kp] at this
    exact this
theorem downB_spec (O : Ord lt) {b : Nat} : ∀ (m : Nat) (l : List α) (n i : Nat), b ≤ i → n ≤ i + m → i < n → n ≤ l.length → dnB lt l n i b → HPb lt (down lt m l i n).1 n b := by
  intro m
  induction m with
  | zero => intro l n i _ h; omega
  | succ m ih =>
    intro l n i hb hm hi hn ⟨h1, h2⟩
    unfold down
    by_cases c : n ≤ 2 * i + 1 ∨ lt (g l (kid lt l i n)) (g l i) = false
    · rw [if_pos c]
      intro k k0 kn kb
      by_cases e : par k = i
      · rcases c with c | c
        · unfold par at e; omega
        · by_cases hc : 2 * i + 1 < n
          · rw [e]
            exact O.ntr _ _ _ c ((kid_is O hc).2.2.2 k k0 kn e)
          · unfold par at e; omega
      · exact h1 k k0 kn e kb
    · rw [if_neg c]
      have hc : 2 * i + 1 < n := by
        rcases Nat.lt_or_ge (2 * i + 1) n with h | h
        · exact h
        · exact absurd (.inl h) c
      have hlt : lt (g l (kid lt l i n)) (g l i) = true := by
        cases h : lt (g l (kid lt l i n)) (g l i) with
        | true => rfl
        | false => exact absurd (.inr h) c
      have st := downB_step O hb hn hi ⟨h1, h2⟩ hc hlt
      obtain ⟨k1, k2, k3, k4⟩ := kid_is (lt := lt) O (l := l) hc
      exact ih _ n (kid lt l i n) (by omega) (by omega) k2 (by rw [swap_len]; exact hn) st
end
end Sh.Hp

/-! the document's answer, and the program's steps -/
/-- the least of the times behind T of the rounds that may be -/
def bstS (T : Int) (b : Option Int) (r : Int × Int) : Option Int :=
  if rrB r.1 r.2 = true then (match b with | none => some (bh r.1 r.2 (T + 1)) | some y => if bh r.1 r.2 (T + 1) < y then some (bh r.1 r.2 (T + 1)) else some y) else b
def bst (l : List (Int × Int)) (T : Int) : Option Int := l.foldl (bstS T) none
def mr (l : List (Int × Int)) : Nat → Int → List Int
  | 0, _ => []
  | k + 1, T => match bst l T with | none => [] | some t => t :: mr l k t
def rightL (l : List (Int × Int)) : List (Int × Int) := l.filter fun r => rrB r.1 r.2
theorem bst_fold (T : Int) : ∀ (l : List (Int × Int)) (b : Option Int),
    (l.foldl (bstS T) b = none ↔ b = none ∧ rightL l = []) ∧
    ∀ m, l.foldl (bstS T) b = some m → (b = some m ∨ ∃ r ∈ rightL l, bh r.1 r.2 (T + 1) = m) ∧ (∀ y, b = some y → m ≤ y) ∧ ∀ r ∈ rightL l, m ≤ bh r.1 r.2 (T + 1) := by
  intro l
  induction l with
  | nil =>
    intro b
    refine ⟨by simp [rightL], fun m h => ?_⟩
    simp only [List.foldl_nil] at h
    subst h
    exact ⟨.inl rfl, fun y h => by cases h; omega, fun r hr => by cases hr⟩
  | cons r l ih =>
    intro b
    rw [List.foldl_cons]
    obtain ⟨i1, i2⟩ := ih (bstS T b r)
    cases hR : rrB r.1 r.2 with
    | false =>
      have e1 : bstS T b r = b := by unfold bstS; rw [hR]; rfl
      have e2 : rightL (r :: l) = rightL l := by unfold rightL; rw [List.filter_cons]; simp [hR]
      rw [e1] at i1 i2 ⊢
      rw [e2]
      exact ⟨i1, i2⟩
    | true =>
      have e2 : rightL (r :: l) = r :: rightL l := by unfold rightL; rw [List.filter_cons]; simp [hR]
      rw [e2]
      cases b with
      | none =>
        have e1 : bstS T none r = some (bh r.1 r.2 (T + 1)) := by unfold bstS; rw [hR]; rfl
        rw [e1] at i1 i2 ⊢
        refine ⟨by simp [i1], fun m hm => ?_⟩
        obtain ⟨j1, j2, j3⟩ := i2 m hm
        refine ⟨.inr ?_, fun y h => (by cases h), ?_⟩
        · rcases j1 with j1 | ⟨r', hr', e⟩
          · exact ⟨r, List.mem_cons_self, by simpa using j1⟩
          · exact ⟨r', List.mem_cons_of_mem _ hr', e⟩
        · intro r' hr'
          rcases List.mem_cons.1 hr' with rfl | hr'
          · exact j2 _ rfl
          · exact j3 r' hr'
      | some y =>
        by_cases c : bh r.1 r.2 (T + 1) < y
        · have e1 : bstS T (some y) r = some (bh r.1 r.2 (T + 1)) := by unfold bstS; rw [hR]; simp [c]
          rw [e1] at i1 i2 ⊢
          refine ⟨by simp [i1], fun m hm => ?_⟩
          obtain ⟨j1, j2, j3⟩ := i2 m hm
          have j4 := j2 _ rfl
          refine ⟨.inr ?_, fun y' h => (by cases h; omega), ?_⟩
          · rcases j1 with j1 | ⟨r', hr', e⟩
            · exact ⟨r, List.mem_cons_self, by simpa using j1⟩
            · exact ⟨r', List.mem_cons_of_mem _ hr', e⟩
          · intro r' hr'
            rcases List.mem_cons.1 hr' with rfl | hr'
            · exact j4
            · exact j3 r' hr'
        · have e1 : bstS T (some y) r = some y := by unfold bstS; rw [hR]; simp [c]
          rw [e1] at i1 i2 ⊢
          refine ⟨by simp [i1], fun m hm => ?_⟩
          obtain ⟨j1, j2, j3⟩ := i2 m hm
          have j4 := j2 _ rfl
          refine ⟨?_, fun y' h => (by cases h; exact j4), ?_⟩
          · rcases j1 with j1 | ⟨r', hr', e⟩
            · exact .inl j1
            · exact .inr ⟨r', List.mem_cons_of_mem _ hr', e⟩
          · intro r' hr'
            rcases List.mem_cons.1 hr' with rfl | hr'
            · omega
            · exact j3 r' hr'
theorem bst_none {l : List (Int × Int)} {T : Int} : bst l T = none ↔ rightL l = [] := by
  have := (bst_fold T l none).1
  simpa [bst] using this
theorem bst_some {l : List (Int × Int)} {T N : Int} (h1 : ∃ r ∈ rightL l, bh r.1 r.2 (T + 1) = N) (h2 : ∀ r ∈ rightL l, N ≤ bh r.1 r.2 (T + 1)) : bst l T = some N := by
  cases h : bst l T with
  | none =>
    rw [bst_none] at h
    obtain ⟨r, hr, _⟩ := h1
    rw [h] at hr; cases hr
  | some m =>
    obtain ⟨j1, _, j3⟩ := (bst_fold T l none).2 m h
    obtain ⟨r, hr, e⟩ := h1
    have a := j3 r hr
    rcases j1 with j1 | ⟨r', hr', e'⟩
    · cases j1
    · have b := h2 r' hr'
      congr 1; omega
theorem bst_bd {l : List (Int × Int)} {T N : Int} (h : bst l T = some N) : T < N ∧ N ≤ T + 1099511627776 := by
  obtain ⟨j1, _, j3⟩ := (bst_fold T l none).2 N h
  rcases j1 with j1 | ⟨r, hr, e⟩
  · cases j1
  · have hR : rrB r.1 r.2 = true := by have := (List.mem_filter.1 hr).2; exact this
    obtain ⟨r1, r2, r3, r4⟩ := rrB_t.1 hR
    have := bh_bd r1 r.2 (T + 1)
    omega

/-- a hand: a round and its next time -/
structure Hd where
  e : Int
  a : Int
  nx : Int
  deriving Inhabited, DecidableEq
def ltH (x y : Hd) : Bool := decide (x.nx < y.nx)
theorem ltH_no {x y : Hd} : ltH x y = false ↔ ¬ x.nx < y.nx := by unfold ltH; simp
theorem ltH_ord : Hp.Ord ltH := by
  constructor
  · intro a b h
    unfold ltH at h
    rw [decide_eq_true_eq] at h
    rw [ltH_no]; omega
  · intro a b c h1 h2
    rw [ltH_no] at *
    omega
theorem bh_uniq {E : Int} (hE : 1 ≤ E) {A t s : Int} (h0 : t ≤ s) (h1 : s ≤ bh E A t) : bh E A s = bh E A t := by
  obtain ⟨r, r0, r1, hr⟩ := ah_spec hE A t
  obtain ⟨q, q0, q1, hq⟩ := ah_spec hE A s
  unfold bh at *
  have : ah E A s = ah E A t := by
    have h2 : s - 1 - A - (t - 1 - A) = q - r + E * (ah E A s - ah E A t) := by rw [Int.mul_sub]; omega
    have h3 : E * (ah E A s - ah E A t) < E * 1 := by omega
    have h4 : E * (-1) < E * (ah E A s - ah E A t) := by omega
    have h5 := Int.lt_of_mul_lt_mul_left h3 (by omega)
    have h6 := Int.lt_of_mul_lt_mul_left h4 (by omega)
    omega
  rw [this]
theorem bh_at {E : Int} (hE : 1 ≤ E) {A t x : Int} (h : bh E A t = x) : bh E A (x + 1) = x + E := by
  have hx : bh E A x = x := by rw [bh_uniq hE (t := t) (by have := bh_bd hE A t; omega) (by omega), h]
  have b := bh_bd hE A (x + 1)
  obtain ⟨r, r0, r1, hr⟩ := ah_spec hE A x
  obtain ⟨q, q0, q1, hq⟩ := ah_spec hE A (x + 1)
  unfold bh at hx b ⊢
  have h2 : (1 : Int) = q - r + E * (ah E A (x + 1) - ah E A x) := by rw [Int.mul_sub]; omega
  have hrE : r = E - 1 := by omega
  have h3 : E * (ah E A (x + 1) - ah E A x) = E - q := by omega
  have h4 : E * (ah E A (x + 1) - ah E A x) ≤ E * 1 := by omega
  have h5 : E * 0 < E * (ah E A (x + 1) - ah E A x) := by omega
  have h6 := Int.le_of_mul_le_mul_left h4 (by omega)
  have h7 := Int.lt_of_mul_lt_mul_left h5 (by omega)
  have h8 : ah E A (x + 1) = ah E A x + 1 := by omega
  rw [h8, Int.mul_add, Int.mul_one]
  omega

/-- a hand is where it should be, T having been the last time; o: T is in the answer -/
def okH (T : Int) (o : Bool) (h : Hd) : Prop := rrB h.e h.a = true ∧ (h.nx = bh h.e h.a (T + 1) ∨ (o = true ∧ h.nx = T ∧ T + h.e = bh h.e h.a (T + 1)))
structure MI (l : List (Int × Int)) (T : Int) (o : Bool) (H : List Hd) : Prop where
  hp : Hp.HP ltH H H.length
  pm : (H.map fun h => (h.e, h.a)).Perm (rightL l)
  ok : ∀ h ∈ H, okH T o h
/-- how many hands stand at the last time -/
def atT (T : Int) (H : List Hd) : Nat := (H.filter fun h => decide (h.nx = T)).length
theorem MI.first {l : List (Int × Int)} {T : Int} {o : Bool} {H : List Hd} (h : MI l T o H) (h0 : 0 < H.length) : ∀ x ∈ H, (H[0]).nx ≤ x.nx := by
  intro x hx
  obtain ⟨k, hk, rfl⟩ := List.mem_iff_getElem.1 hx
  have := Hp.first ltH_ord h.hp k hk
  unfold Hp.le at this
  rw [Hp.g_get hk, Hp.g_get h0, ltH_no] at this
  omega
/-- the hand goes on -/
def go1 (h : Hd) : Hd := ⟨h.e, h.a, h.nx + h.e⟩
theorem fix0 {l : List (Int × Int)} {T : Int} {o : Bool} {H : List Hd} (h : MI l T o H) (h0 : 0 < H.length) (y : Hd) : Hp.HP ltH (Hp.fix ltH (H.set 0 y) 0 H.length) H.length ∧ (Hp.fix ltH (H.set 0 y) 0 H.length).Perm (H.set 0 y) := by
  have hs : ∀ k, k ≠ 0 → Hp.g (H.set 0 y) k = Hp.g H k := fun k hk => by rw [Hp.g_set h0, if_neg (Ne.symm hk)]
  obtain ⟨a, b, _⟩ := Hp.fix_spec ltH_ord (l := H.set 0 y) (i := 0) (n := H.length) (by simp) h0 (fun k k0 kn k1 k2 => by
    unfold Hp.le
    rw [hs k k1, hs _ k2]
    exact h.hp k k0 kn) (fun c _ _ _ z => by omega)
  exact ⟨a, b⟩
theorem set0 {H : List Hd} (h0 : 0 < H.length) (y : Hd) : H.set 0 y = y :: H.tail := by
  cases H with
  | nil => simp at h0
  | cons x H => rfl
theorem cons0 {H : List Hd} (h0 : 0 < H.length) : H = H[0] :: H.tail := by
  cases H with
  | nil => simp at h0
  | cons x H => rfl
theorem MI.pm1 {l : List (Int × Int)} {T : Int} {o : Bool} {H : List Hd} (h : MI l T o H) (h0 : 0 < H.length) : ((Hp.fix ltH (H.set 0 (go1 H[0])) 0 H.length).map fun h => (h.e, h.a)).Perm (rightL l) := by
  refine ((fix0 h h0 _).2.map _).trans ?_
  rw [set0 h0]
  refine List.Perm.trans (List.Perm.of_eq ?_) h.pm
  conv => rhs; rw [cons0 h0]
  rfl
theorem fix_len {H : List Hd} {T : Int} {l : List (Int × Int)} {o : Bool} (h : MI l T o H) (h0 : 0 < H.length) (y : Hd) : (Hp.fix ltH (H.set 0 y) 0 H.length).length = H.length := by
  rw [(fix0 h h0 y).2.length_eq, List.length_set]
/-- the first hand stands at the last time: it goes on alone -/
theorem MI.skip {l : List (Int × Int)} {T : Int} {H : List Hd} (h : MI l T true H) (h0 : 0 < H.length) (hT : H[0].nx = T) : MI l T true (Hp.fix ltH (H.set 0 (go1 H[0])) 0 H.length) ∧ atT T (Hp.fix ltH (H.set 0 (go1 H[0])) 0 H.length) + 1 = atT T H := by
  obtain ⟨f1, f2⟩ := fix0 h h0 (go1 H[0])
  obtain ⟨okR, ok1⟩ := h.ok H[0] (List.getElem_mem h0)
  obtain ⟨r1, r2, r3, r4⟩ := rrB_t.1 okR
  have e1 : T + H[0].e = bh H[0].e H[0].a (T + 1) := by
    rcases ok1 with ok1 | ok1
    · have := bh_bd r1 H[0].a (T + 1); omega
    · exact ok1.2.2
  refine ⟨⟨by rw [fix_len h h0]; exact f1, h.pm1 h0, fun x hx => ?_⟩, ?_⟩
  · have hx := f2.mem_iff.1 hx
    rw [set0 h0] at hx
    rcases List.mem_cons.1 hx with rfl | hx
    · exact ⟨okR, .inl (by show H[0].nx + H[0].e = _; rw [hT]; exact e1)⟩
    · exact h.ok x (List.mem_of_mem_tail hx)
  · unfold atT
    rw [(f2.filter _).length_eq, set0 h0]
    conv => rhs; rw [cons0 h0]
    rw [List.filter_cons, List.filter_cons]
    have : ¬ (go1 H[0]).nx = T := by show ¬ H[0].nx + H[0].e = T; omega
    simp [hT, this]
/-- a new time -/
theorem MI.take {l : List (Int × Int)} {T : Int} {o : Bool} {H : List Hd} (h : MI l T o H) (h0 : 0 < H.length) (hT : o = false ∨ H[0].nx ≠ T) : bst l T = some H[0].nx ∧ MI l H[0].nx true (Hp.fix ltH (H.set 0 (go1 H[0])) 0 H.length) := by
  obtain ⟨f1, f2⟩ := fix0 h h0 (go1 H[0])
  have fst := h.first h0
  obtain ⟨okR, ok1⟩ := h.ok H[0] (List.getElem_mem h0)
  obtain ⟨r1, r2, r3, r4⟩ := rrB_t.1 okR
  have n1 : H[0].nx = bh H[0].e H[0].a (T + 1) := by
    rcases ok1 with ok1 | ⟨a, b, _⟩
    · exact ok1
    · rcases hT with hT | hT
      · rw [hT] at a; cases a
      · exact absurd b hT
  have n2 := bh_bd r1 H[0].a (T + 1)
  have all : ∀ x ∈ H, x.nx = bh x.e x.a (T + 1) := by
    intro x hx
    rcases (h.ok x hx).2 with e | ⟨a, b, _⟩
    · exact e
    · have := fst x hx; omega
  refine ⟨bst_some ⟨(H[0].e, H[0].a), h.pm.mem_iff.1 (List.mem_map.2 ⟨H[0], List.getElem_mem h0, rfl⟩), n1.symm⟩ fun r hr => ?_, ?_⟩
  · obtain ⟨x, hx, e⟩ := List.mem_map.1 (h.pm.mem_iff.2 hr)
    subst e
    have := fst x hx
    rw [all x hx] at this
    exact this
  refine ⟨by rw [fix_len h h0]; exact f1, h.pm1 h0, fun x hx => ?_⟩
  have hx := f2.mem_iff.1 hx
  rw [set0 h0] at hx
  rcases List.mem_cons.1 hx with rfl | hx
  · refine ⟨okR, .inl ?_⟩
    show H[0].nx + H[0].e = bh H[0].e H[0].a (H[0].nx + 1)
    rw [bh_at r1 n1.symm]
  · have hx := List.mem_of_mem_tail hx
    obtain ⟨xR, _⟩ := h.ok x hx
    obtain ⟨x1, x2, x3, x4⟩ := rrB_t.1 xR
    have e1 := all x hx
    have e2 := fst x hx
    refine ⟨xR, ?_⟩
    by_cases c : x.nx = H[0].nx
    · refine .inr ⟨rfl, c, ?_⟩
      rw [bh_at x1 (t := T + 1) (by rw [← e1]; exact c)]
    · refine .inl ?_
      rw [bh_uniq x1 (t := T + 1) (s := H[0].nx + 1) (by omega) (by omega)]
      exact e1
theorem atT_le (T : Int) (H : List Hd) : atT T H ≤ H.length := List.length_filter_le _ _
end Go.Proofs.Ytnckcgpmidgggaa

namespace Go.Proofs.Ytnckcgpmidgggaa
namespace Sh
open RowKit
/-- the method's row of a type: its function, and whether it takes a pointer -/
def mrow (P : Program) (t : TypeId) (name : String) : Option (FuncId × Bool) :=
  match P.info? t with
  | some i => match i.methods.find? (·.name == name) with
    | some m => if m.path.toList = [] then m.func else none
    | none => none
  | none => none
/-- a function that may be entered -/
def canEnter (P : Program) (f : FuncId) : Bool := match P.funcs[f]? with | some fn => fn.body.isSome && !(fn.name == "runtime.NumGoroutine") | none => false
section
variable {P : Program} {w : World} {Q : Value → World → Prop} {K : Value → M} {t e : TypeId} {name : String} {f : FuncId} {args : Array Value} {v : Value}
theorem run_callFunc (h : canEnter P f = true) : (callFunc f args).run P w = .ok (.enter f args) w := by
  unfold canEnter at h
  cases hf : P.funcs[f]? with
  | none => simp [hf] at h
  | some fn =>
    simp [hf] at h
    obtain ⟨h1, h2⟩ := h
    obtain ⟨b, hb⟩ := Option.isSome_iff_exists.1 h1
    simp [callFunc, hf, hb, h2]
theorem mrow_info {q : Bool} (h : mrow P t name = some (f, q)) : ∃ i m, P.info? t = some i ∧ i.methods.find? (·.name == name) = some m ∧ m.path.toList = [] ∧ m.func = some (f, q) := by
  unfold mrow at h
  cases hi : P.info? t with
  | none => simp [hi] at h
  | some i =>
    simp only [hi] at h
    cases hm : i.methods.find? (·.name == name) with
    | none => simp [hm] at h
    | some m =>
      simp only [hm] at h
      split at h
      · exact ⟨i, m, rfl, hm, by assumption, h⟩
      · cases h
theorem nilchk {ts : Array TypeId} {ty : TypeId} {a : Addr} {s n : String} : Builtin.ssaWrapNilChk_ ts ty #[.pointer (some a), strVal s, strVal n] = pure (.pointer (some a)) := rfl
/-- a method of what a pointer points at -/
theorem run_meth_v (hm : mrow P t name = some (f, false)) (hp : P.underlying t = some (.pointer e)) (hs : isSc P e = true) (hf : canEnter P f = true) (hz : 0 < P.types.size) {a : Addr} (hc : w.cell? a = some v) :
    (callMethod (.iface t (.pointer (some a))) name args).run P w = .ok (.enter f (#[v] ++ args)) w := by
  obtain ⟨i, m, h1, h2, h3, h4⟩ := mrow_info hm
  obtain ⟨n, hn⟩ : ∃ n, P.types.size + Made.depth = n + 1 := ⟨P.types.size + Made.depth - 1, by omega⟩
  have h3' : m.path = #[] := by simpa using h3
  unfold callMethod
  simp only [Sem.run_bind, run_program, Result.andThen_ok, hn]
  unfold method
  simp [typeInfo, h1, h2, h3, h3', h4, follow, receiverAt, run_underlying hp, Place.get, nilchk, asAddr, loadVar, run_isAgg_sc hs, hc, run_callFunc hf, Result.andThen]
theorem ci_v (hm : mrow P t name = some (f, false)) (hp : P.underlying t = some (.pointer e)) (hs : isSc P e = true) (hf : canEnter P f = true) (hz : 0 < P.types.size) {a : Addr} (hc : w.cell? a = some v)
    (k : Calls P f (#[v] ++ args) w (Rt fun v w' => K v w' Q)) : ci P (.iface t (.pointer (some a))) name args K w Q :=
  ⟨f, _, w, run_meth_v hm hp hs hf hz hc, k⟩
end
end Sh
end Go.Proofs.Ytnckcgpmidgggaa

namespace Go.Proofs.Ytnckcgpmidgggaa
namespace Sh
open RowKit
/-- of the old blocks none but those of S has changed -/
structure ChgS (S : Nat → Prop) (w w' : World) : Prop where
  os : w'.os = w.os
  tape : w'.tape = w.tape
  output : w'.output = w.output
  size : w.heap.size ≤ w'.heap.size
  block : ∀ k, k < w.heap.size → ¬ S k → w'.heap[k]? = w.heap[k]?
section
variable {S T : Nat → Prop} {w w' w2 : World}
theorem ChgS.refl (S : Nat → Prop) (w : World) : ChgS S w w := ⟨rfl, rfl, rfl, Nat.le_refl _, fun _ _ _ => rfl⟩
theorem ChgS.mono (h : ChgS S w w') (hs : ∀ k, S k → T k) : ChgS T w w' := ⟨h.os, h.tape, h.output, h.size, fun k a b => h.block k a (fun c => b (hs k c))⟩
theorem ChgS.trans (h : ChgS S w w') (k : ChgS T w' w2) (hs : ∀ x, x < w.heap.size → T x → S x) : ChgS S w w2 :=
  ⟨k.os.trans h.os, k.tape.trans h.tape, k.output.trans h.output, Nat.le_trans h.size k.size, fun i hi hp => (k.block i (Nat.lt_of_lt_of_le hi h.size) (fun c => hp (hs i hi c))).trans (h.block i hi hp)⟩
theorem ChgS.of_below (h : Below w.heap.size w w') : ChgS S w w' := ⟨h.os, h.tape, h.output, h.size, fun k hk _ => h.block k hk⟩
theorem ChgS.of_upd {p : Nat} (h : Upd p w w') (hp : S p) : ChgS S w w' := ⟨h.os, h.tape, h.output, by rw [h.size]; exact Nat.le_refl _, fun k _ hk => h.block k (fun e => hk (e ▸ hp))⟩
theorem ChgS.below {B : Nat} (h : ChgS S w w') (hB : ∀ k, S k → B ≤ k) (hw : B ≤ w.heap.size) : Below B w w' := ⟨h.os, h.tape, h.output, h.size, fun k hk => h.block k (by omega) (fun c => by have := hB k c; omega)⟩
theorem ChgS.drw (h : ChgS S w w') : ChgS S w (drw w') := ⟨h.os, h.tape, h.output, h.size, h.block⟩
theorem ChgS.grown {w' : World} {row : Option Nat} (hg : w.grownBy w' row) (hr : ∀ k, row = some k → S k) : ChgS S w w' := by
  refine ⟨hg.os, hg.tape, hg.output, hg.size, fun k hk hs => hg.block k hk (fun e => hs (hr k e.symm))⟩
end
section
variable {P : Program} {w : World} {Q : Value → World → Prop} {K : Value → M} {K0 : M} {B : Nat} {e : TypeId} {v : Value} {xs : List Value}
theorem ia_at {g l c i : Nat} {k : IntKind} (hi : i < l) : ia 1 (.slice (some ⟨g, 0, none⟩) l c) (.int k (i : Int)) K w Q = K (.pointer (some ⟨g, i, none⟩)) w Q := by
  rw [ia_e, Int.toNat_natCast, Nat.mul_one, add_lit, Nat.zero_add]
  apply propext
  constructor
  · rintro ⟨_, _, h⟩; exact h
  · intro h; exact ⟨by omega, by omega, h⟩
/-- one number more, behind a row of the call's own -/
theorem ap_one {t : TypeId} {k : IntKind} {l : List Int} {x : Int} {b : Nat} (ht : slT P t e (.int k 0) 1 b) (ho : ownI B e k w v l) (h63 : l.length + 1 ≤ 140737488355328) (hbytes : (l.length + 1) * b ≤ 140737488355328) (hB : B ≤ w.heap.size)
    (kk : ∀ v' w', ownI B e k w' v' (l ++ [x]) → Below B w w' → (∀ (B' : Nat) (e' : TypeId) (k' : IntKind) (u : Value) (l' : List Int), e' ≠ e → ownI B' e' k' w u l' → ownI B' e' k' w' u l') → (∀ q o, w.heap[q]? = some o → v.ownBlock ≠ some q → w'.heap[q]? = some o) → K v' w' Q) :
    sm P (Instr.buildSlice t 1 #[(0, .int k x)]) (fun u => sm P (Builtin.append_ #[t, t] t #[v, u]) K) w Q := by
  refine bsl1 ht rfl rfl ?_
  have ho1 := ownI_psh ho (.cells #[.int k x] e)
  have hb1 := b_psh w (.cells #[.int k x] e)
  refine ap_rd (b := b) (m := [x]) ht ho1 (.inr ⟨⟨w.heap.size, 0, none⟩, 1, rfl, fun i hi => ?_⟩) (by simpa using hbytes) (by simpa using h63) (by rw [size_psh]; omega) ?_
  · have : i = 0 := by simpa using hi
    subst this
    rw [add_lit, cell_psh_new]; rfl
  · intro v' w' ho' hg
    have hq : ∀ q o, w.heap[q]? = some o → v.ownBlock ≠ some q → w'.heap[q]? = some o := by
      intro q o hqo hne
      rw [hg.block q (by rw [size_psh]; have := blk_lt hqo; omega) (fun e => hne e.symm), blk_psh_old (blk_lt hqo)]
      exact hqo
    refine kk v' w' ho' (Below_grown (bt' (Below.refl _ _) hB hb1) ho1 (by rw [size_psh]; omega) hg) ?_ hq
    intro B' e' k' u l' hne hu
    obtain ⟨h1, h2⟩ := hu
    refine ⟨h1, ?_⟩
    rcases h2 with h2 | ⟨g, cap, cur, rfl, hg', hb', rest⟩
    · exact .inl h2
    · refine .inr ⟨g, cap, cur, rfl, hg', hq g _ hb' ?_, rest⟩
      intro ev
      obtain ⟨_, h3⟩ := ho
      rcases h3 with ⟨rfl, _⟩ | ⟨g2, cap2, cur2, rfl, _, hb2, _⟩
      · cases ev
      · cases ev
        rw [hb'] at hb2
        cases hb2
        exact hne rfl
end
end Sh
end Go.Proofs.Ytnckcgpmidgggaa

namespace Go.Proofs.Ytnckcgpmidgggaa
namespace Sh
open RowKit
/-- an element's cells told by a function of it -/
def eR {α : Type} (enc : α → List Value) : RepT α := fun _ cs x => cs = enc x
theorem eR_st {α : Type} {enc : α → List Value} : Stable (eR enc) := fun _ _ _ _ _ h => h
theorem flat_len {α : Type} {enc : α → List Value} {n : Nat} (hn : ∀ x, (enc x).length = n) : ∀ l : List α, (l.flatMap enc).length = l.length * n
  | [] => by simp
  | x :: l => by rw [List.flatMap_cons, List.length_append, hn, flat_len hn l, List.length_cons, Nat.add_mul]; omega
theorem flat_get {α : Type} {enc : α → List Value} {n : Nat} (hn : ∀ x, (enc x).length = n) : ∀ (l : List α) (i j : Nat) (hi : i < l.length), j < n → (l.flatMap enc)[i * n + j]? = (enc l[i])[j]?
  | x :: l, 0, j, hi, hj => by
    rw [List.flatMap_cons, Nat.zero_mul, Nat.zero_add, List.getElem?_append_left (by rw [hn]; exact hj)]; rfl
  | x :: l, i + 1, j, hi, hj => by
    rw [List.flatMap_cons, List.getElem?_append_right (by rw [hn, Nat.add_mul]; omega), hn]
    have e : (i + 1) * n + j - n = i * n + j := by rw [Nat.add_mul]; omega
    rw [e, flat_get hn l i j (by simpa using hi) hj]
    rfl
/-- the elements, the call's own -/
def ownE {α : Type} (B : Nat) (e : TypeId) (n : Nat) (enc : α → List Value) (w : World) (v : Value) (l : List α) : Prop := w.ownsRow B e n v l.length (l.flatMap enc)
section
variable {α : Type} {enc : α → List Value} {n : Nat} {P : Program} {w : World} {Q : Value → World → Prop} {K : Value → M} {B : Nat} {e : TypeId} {v : Value} {l : List α}
theorem ownE_nil : ownE B e n enc w (.slice none 0 0) [] := World.ownsRow_nil w B e n
theorem ownE_below {w' : World} (h : ownE B e n enc w v l) (hb : Below w.heap.size w w') : ownE B e n enc w' v l := by
  obtain ⟨h1, h2⟩ := h
  refine ⟨h1, ?_⟩
  rcases h2 with h2 | ⟨g, cap, cur, h3, hg, hb', rest⟩
  · exact .inl h2
  · exact .inr ⟨g, cap, cur, h3, hg, stay hb hb', rest⟩
theorem ownE_blk (h : ownE B e n enc w v l) : ∀ g, v.ownBlock = some g → B ≤ g ∧ g < w.heap.size ∧ ∃ cur, w.heap[g]? = some (.cells cur e (0, 0)) := by
  intro g hg
  obtain ⟨h1, h2⟩ := h
  rcases h2 with ⟨rfl, _⟩ | ⟨g', cap, cur, rfl, hg', hb', _⟩
  · cases hg
  · cases hg; exact ⟨hg', blk_lt hb', _, hb'⟩
theorem ownE_stay {w' : World} (h : ownE B e n enc w v l) (hb : ∀ g, v.ownBlock = some g → w'.heap[g]? = w.heap[g]?) : ownE B e n enc w' v l := by
  obtain ⟨h1, h2⟩ := h
  refine ⟨h1, ?_⟩
  rcases h2 with h2 | ⟨g, cap, cur, rfl, hg, hb', rest⟩
  · exact .inl h2
  · exact .inr ⟨g, cap, cur, rfl, hg, by rw [hb g rfl]; exact hb', rest⟩
theorem ownE_rd (hn : ∀ x, (enc x).length = n) (hn0 : 0 < n) (h : ownE B e n enc w v l) : rdS n (eR enc) w v l := by
  obtain ⟨h1, h2⟩ := h
  rcases h2 with ⟨rfl, h0⟩ | ⟨g, cap, cur, rfl, hg, hb, hnc, hm, hs, ht⟩
  · exact .inl ⟨rfl, List.length_eq_zero_iff.1 h0⟩
  · refine .inr ⟨⟨g, 0, none⟩, cap, rfl, hnc, fun i hi => ⟨enc l[i], hn _, fun j u hj => ?_, rfl⟩⟩
    have hjn : j < n := by
      rcases Nat.lt_or_ge j n with c | c
      · exact c
      · rw [List.getElem?_eq_none (by rw [hn]; exact c)] at hj; cases hj
    rw [add_lit, add_lit, Nat.zero_add, cell_of_blk hb]
    have h3 : (cur.toList.take (l.length * n))[i * n + j]? = (l.flatMap enc)[i * n + j]? := by rw [ht]
    have hlt : i * n + j < l.length * n := by
      have : (i + 1) * n ≤ l.length * n := Nat.mul_le_mul_right _ hi
      rw [Nat.add_mul] at this; omega
    rw [List.getElem?_take_of_lt hlt, flat_get hn l i j hi hjn, hj] at h3
    simpa using h3
/-- a row of several-cell elements, as cells in a line -/
theorem rdS_flat (hn : ∀ x, (enc x).length = n) (h : rdS n (eR enc) w v l) : (v = .slice none 0 0 ∧ l = []) ∨ ∃ a c, v = .slice (some a) l.length c ∧ ∀ j u, (l.flatMap enc)[j]? = some u → w.cell? (a.add j) = some u := by
  rcases h with h | ⟨a, c, rfl, hcc, h⟩
  · exact .inl h
  · refine .inr ⟨a, c, rfl, fun j u hj => ?_⟩
    have hjl : j < (l.flatMap enc).length := by
      rcases Nat.lt_or_ge j (l.flatMap enc).length with c | c
      · exact c
      · rw [List.getElem?_eq_none c] at hj; cases hj
    rw [flat_len hn] at hjl
    have hn0 : 0 < n := by
      rcases Nat.eq_zero_or_pos n with c | c
      · rw [c, Nat.mul_zero] at hjl; omega
      · exact c
    have hi : j / n < l.length := Nat.div_lt_of_lt_mul (by rw [Nat.mul_comm]; exact hjl)
    have hr : j % n < n := Nat.mod_lt _ hn0
    have e : j = j / n * n + j % n := by rw [Nat.mul_comm]; exact (Nat.div_add_mod j n).symm
    obtain ⟨es, h1, h2, h3⟩ := h (j / n) hi
    have h3 : es = enc l[j / n] := h3
    rw [e, flat_get hn l _ _ hi hr, ← h3] at hj
    have h4 := h2 _ _ hj
    have e2 : (a.add (j / n * n)).add (j % n) = a.add j := by
      conv => rhs; rw [e]
      unfold Addr.add
      by_cases z1 : j / n * n = 0
      · simp [z1]
      · by_cases z2 : j % n = 0
        · simp [z1, z2]
        · have : ¬ (j / n * n + j % n = 0) := by omega
          simp [z1, z2, this, Nat.add_assoc]
    rw [← e2]; exact h4
/-- elements behind a row of the call's own -/
theorem ap_E {t ty : TypeId} {z u : Value} {b : Nat} {m : List α} (ht : slT P t e z n b) (hz : z.cells.size = n) (hn0 : 0 < n) (hn : ∀ x, (enc x).length = n) (h1 : ∀ x, ∀ c ∈ enc x, c.oneCell' = true) (ho : ownE B e n enc w v l) (hr : rdS n (eR enc) w u m)
    (h63 : l.length + m.length ≤ maxLen) (hbytes : (l.length + m.length) * b ≤ 140737488355328) (hB : B ≤ w.heap.size)
    (kk : ∀ v' w', ownE B e n enc w' v' (l ++ m) → w.grownBy w' v.ownBlock → (v'.ownBlock = v.ownBlock ∨ v'.ownBlock = some w.heap.size) → K v' w' Q) : sm P (Builtin.append_ #[t, t] ty #[v, u]) K w Q := by
  obtain ⟨i, g1, g2, g3, g4, g5⟩ := slT_info ht
  rcases rdS_flat hn hr with ⟨rfl, rfl⟩ | ⟨a, c, rfl, hrf⟩
  · refine ⟨v, w, run_append_owned_none w B t ty e i n g1 g2 v l.length (l.flatMap enc) ho, kk v w (by rw [List.append_nil]; exact ho) (World.grownBy.refl w _) (.inl rfl)⟩
  · obtain ⟨v', w', hrun, ho', hg, _, hf⟩ := run_append_own_at (P := P) w B t ty e i z n b g1 g2 g3 g4 g5 hz hn0 v l.length (l.flatMap enc) ho a m.length c (m.flatMap enc) (flat_len hn m) hrf (by
        intro x hx
        obtain ⟨y, _, hy⟩ := List.mem_flatMap.1 hx
        exact h1 y x hy) h63 hbytes hB
    refine ⟨v', w', hrun, kk v' w' ?_ hg hf⟩
    unfold ownE
    rw [List.length_append, List.flatMap_append]
    exact ho'
theorem fold_set : ∀ (cs : List Value) (k : Nat) (base : Array Value), k + cs.length ≤ base.size → ((cs.zipIdx k).foldl (fun a p => a.setIfInBounds (0 + p.2) p.1) base).toList = base.toList.take k ++ cs ++ base.toList.drop (k + cs.length) := by
  intro cs
  induction cs with
  | nil => intro k base h; simp
  | cons c cs ih =>
    intro k base h
    simp only [List.length_cons] at h
    rw [List.zipIdx_cons, List.foldl_cons, ih (k + 1) _ (by simp; omega)]
    simp only [Nat.zero_add, Array.toList_setIfInBounds, List.length_cons]
    have hlt : k < base.toList.length := by simp; omega
    have q1 : (base.toList.set k c).take (k + 1) = base.toList.take k ++ [c] := by
      rw [List.take_succ_eq_append_getElem (by simpa using hlt)]
      simp [List.take_set]
      rw [List.set_eq_of_length_le (by simp; omega)]
    have q2 : (base.toList.set k c).drop (k + 1 + cs.length) = base.toList.drop (k + (cs.length + 1)) := by
      rw [List.drop_set_of_lt (by omega)]; congr 1; omega
    rw [q1, q2]; simp
/-- []T{x}: an element of several cells -/
theorem bslE {t : TypeId} {z : Value} {b : Nat} {x : α} (ht : slT P t e z n b) (hz : z.cells.size = n) (hn0 : 0 < n) (hn24 : n ≤ 16777216) (hn : (enc x).length = n)
    (k : ∀ w', w'.heap[w.heap.size]? = some (.cells (enc x).toArray e (0, 0)) → Below w.heap.size w w' → K (.slice (some ⟨w.heap.size, 0, none⟩) 1 1) w' Q) : sm P (Instr.buildSlice t 1 #[(0, .agg (enc x).toArray)]) K w Q := by
  obtain ⟨i, h1, h2, h3, h4, h5⟩ := slT_info ht
  refine ⟨.slice (some ⟨w.heap.size, 0, none⟩) 1 1, psh w (.cells (enc x).toArray e), ?_, k _ blk_psh_new (b_psh _ _)⟩
  have hsz : (enc x).toArray.size = n := by simpa using hn
  have hne : ¬ n = 0 := by omega
  have hle : ¬ 2 ^ 24 < n := by omega
  have hfill : ∀ base : Array Value, base.size = n → Instr.fill (fun i => some (i * n, n)) base [(0, .agg (enc x).toArray)] = some (enc x).toArray := by
    intro base hb
    simp only [Instr.fill, Value.cells, Nat.zero_mul, hsz, ne_eq, not_true_eq_false, Nat.zero_add, hb, Nat.lt_irrefl, gt_iff_lt, or_self, decide_false, Bool.or_self, Bool.false_eq_true, if_false]
    congr 1
    apply Array.toList_inj.1
    have hf := fold_set (enc x) 0 base (by omega)
    rw [← Array.foldl_toList, Array.toList_zipIdx]
    simp only [Nat.zero_add] at hf ⊢
    refine hf.trans ?_
    rw [List.take_zero, List.drop_of_length_le (by simp; omega)]
    simp
  simp only [Instr.buildSlice, underlying, Sem.run_bind, run_program, Result.andThen_ok, h1, Sem.run_pure, sizeOf, typeInfo, h2, h4, Nat.one_mul, gt_iff_lt, hle, if_false, hne, zeroValue, h3]
  rw [hfill _ (by simp)]
  simp [newRow, newObj, psh, Sem.run]
theorem rd_lit {x : α} {g : Nat} (hn : (enc x).length = n) (h : w.heap[g]? = some (.cells (enc x).toArray e (0, 0))) : rdS n (eR enc) w (.slice (some ⟨g, 0, none⟩) 1 1) [x] := by
  refine .inr ⟨⟨g, 0, none⟩, 1, rfl, Nat.le_refl _, fun i hi => ?_⟩
  have : i = 0 := by simpa using hi
  subst this
  refine ⟨enc x, hn, fun j u hj => ?_, rfl⟩
  rw [Nat.zero_mul, add_zero', add_lit, Nat.zero_add, cell_of_blk h]
  simpa using hj
end
end Sh
end Go.Proofs.Ytnckcgpmidgggaa

namespace Go.Proofs.Ytnckcgpmidgggaa
open Sh RowKit
namespace Sh
/-- cells laid over a list's, from a place on -/
def ovl (l : List Value) (o : Nat) (cs : List Value) : List Value := l.take o ++ cs ++ l.drop (o + cs.length)
theorem ovl_len {l cs : List Value} {o : Nat} (h : o + cs.length ≤ l.length) : (ovl l o cs).length = l.length := by
  unfold ovl; simp; omega
theorem ovl_one {l : List Value} {o : Nat} {c : Value} (h : o < l.length) : ovl l o [c] = l.set o c := by
  unfold ovl
  rw [List.set_eq_take_append_cons_drop, if_pos h]
  simp
theorem ovl_all {l cs : List Value} (h : cs.length = l.length) : ovl l 0 cs = cs := by
  unfold ovl; simp [h]
section
variable {α : Type} {enc : α → List Value} {n : Nat}
theorem flat_ovl (hn : ∀ x, (enc x).length = n) : ∀ (l : List α) (i o : Nat) (cs : List Value) (y : α) (hi : i < l.length), o + cs.length ≤ n → enc y = ovl (enc l[i]) o cs → ovl (l.flatMap enc) (i * n + o) cs = (l.set i y).flatMap enc
  | [], i, o, cs, y, hi, _, _ => by simp at hi
  | x :: l, 0, o, cs, y, hi, ho, he => by
    simp only [List.flatMap_cons, List.set_cons_zero, Nat.zero_mul, Nat.zero_add, List.getElem_cons_zero] at *
    rw [he]
    unfold ovl
    have hx := hn x
    rw [List.take_append_of_le_length (by omega), List.drop_append_of_le_length (by omega)]
    simp
  | x :: l, i + 1, o, cs, y, hi, ho, he => by
    have ih := flat_ovl hn l i o cs y (by simpa using hi) ho (by simpa using he)
    rw [List.flatMap_cons, List.set_cons_succ, List.flatMap_cons, ← ih]
    unfold ovl
    have hx := hn x
    have e1 : (i + 1) * n + o = (enc x).length + (i * n + o) := by rw [hx, Nat.add_mul]; omega
    rw [e1, List.take_length_add_append, Nat.add_assoc (enc x).length, List.drop_length_add_append]
    simp [List.append_assoc]
variable {P : Program} {w : World} {Q : Value → World → Prop} {K : Value → M} {K0 : M} {B : Nat} {e : TypeId} {v : Value} {l : List α}
/-- a row that is not empty, opened -/
theorem ownE_open (h : ownE B e n enc w v l) (hl : 0 < l.length) : ∃ g cap cur, v = .slice (some ⟨g, 0, none⟩) l.length cap ∧ v.ownBlock = some g ∧ B ≤ g ∧ w.heap[g]? = some (.cells cur e (0, 0)) ∧ l.length ≤ cap ∧ cap ≤ maxLen ∧ cur.size = cap * n ∧ cur.toList.take (l.length * n) = l.flatMap enc := by
  obtain ⟨h1, h2⟩ := h
  rcases h2 with ⟨rfl, h0⟩ | ⟨g, cap, cur, rfl, hg, hb, hn, hm, hs, ht⟩
  · omega
  · exact ⟨g, cap, cur, rfl, rfl, hg, hb, hn, hm, hs, ht⟩
theorem ovl_take {l cs : List Value} {o m : Nat} (h : o + cs.length ≤ m) (hm : m ≤ l.length) : (ovl l o cs).take m = ovl (l.take m) o cs := by
  unfold ovl
  have e1 : (l.take o ++ cs).length = o + cs.length := by simp; omega
  rw [List.take_append, List.take_of_length_le (by omega), e1, List.take_take, List.drop_take, Nat.min_eq_left (by omega)]
theorem ownE_put {w' : World} {i o : Nat} {cs : List Value} {y : α} (hn : ∀ x, (enc x).length = n) (h : ownE B e n enc w v l) (hi : i < l.length) (ho : o + cs.length ≤ n) (he : enc y = ovl (enc l[i]) o cs)
    (hw : ∀ g cur, v.ownBlock = some g → w.heap[g]? = some (.cells cur e (0, 0)) → ∃ cur', w'.heap[g]? = some (.cells cur' e (0, 0)) ∧ cur'.toList = ovl cur.toList (i * n + o) cs) : ownE B e n enc w' v (l.set i y) := by
  obtain ⟨g, cap, cur, rfl, hob, hg, hb, hc, hm, hs, ht⟩ := ownE_open h (by omega)
  obtain ⟨cur', h1, h2⟩ := hw g cur rfl hb
  have hin : i * n + n ≤ l.length * n := by
    have := Nat.mul_le_mul_right n (show i + 1 ≤ l.length by omega)
    rw [Nat.add_mul, Nat.one_mul] at this; exact this
  have hcap : l.length * n ≤ cap * n := Nat.mul_le_mul_right n hc
  have hsl : cur.toList.length = cap * n := by simpa using hs
  refine ⟨by rw [flat_len hn], .inr ⟨g, cap, cur', by rw [List.length_set], hg, h1, by rw [List.length_set]; exact hc, hm, ?_, ?_⟩⟩
  · have := congrArg List.length h2
    rw [ovl_len (by omega)] at this
    simpa [hs] using this
  · rw [List.length_set, h2, ovl_take (by omega) (by omega), ht, flat_ovl hn l i o cs y hi ho he]
theorem ia_E {g cap L i n : Nat} {j : IntKind} (hi : i < L) : ia n (.slice (some ⟨g, 0, none⟩) L cap) (.int j (i : Int)) K w Q = K (.pointer (some ⟨g, i * n, none⟩)) w Q := by
  rw [ia_e, Int.toNat_natCast, add_lit, Nat.zero_add]
  apply propext
  constructor
  · rintro ⟨_, _, h⟩; exact h
  · intro h; exact ⟨by omega, by omega, h⟩
/-- some cells of a block stored -/
theorem stn_at {b o m : Nat} {c cs : Array Value} {t : TypeId} (h : w.heap[b]? = some (.cells c t (0, 0))) (hm : cs.size = m) (hc : o + m ≤ c.size) (h1 : ∀ v ∈ cs.toList, v.oneCell' = true)
    (k : ∀ w' c', w'.heap[b]? = some (.cells c' t (0, 0)) → c'.toList = ovl c.toList o cs.toList → Upd b w w' → K0 w' Q) : stn m (.pointer (some ⟨b, o, none⟩)) (.agg cs) K0 w Q := by
  obtain ⟨w', c', e1, e2, e3, e4⟩ := sts_blk (o := o) cs.toList 0 w c h (by simpa [hm] using hc) h1
  exact ⟨_, cs, w', rfl, rfl, hm, e1, k w' c' e2 (by rw [e3]; rfl) e4⟩
theorem ia_stnE {j : IntKind} {i : Nat} {y : α} (hn : ∀ x, (enc x).length = n) (h1 : ∀ x, ∀ c ∈ enc x, c.oneCell' = true) (h : ownE B e n enc w v l) (hi : i < l.length)
    (kk : ∀ w' g, v.ownBlock = some g → ownE B e n enc w' v (l.set i y) → Upd g w w' → K0 w' Q) : ia n v (.int j (i : Int)) (fun p => stn n p (.agg (enc y).toArray) K0) w Q := by
  obtain ⟨g, cap, cur, rfl, hob, hg, hb, hc, hm, hs, ht⟩ := ownE_open h (by omega)
  rw [ia_E hi]
  have hcs : i * n + n ≤ cur.size := by
    rw [hs]
    have := Nat.mul_le_mul_right n (show i + 1 ≤ cap by omega)
    rw [Nat.add_mul, Nat.one_mul] at this; exact this
  refine stn_at hb (by simpa using hn y) hcs (by simpa using h1 y) fun w' c' q1 q2 q3 => kk w' g rfl ?_ q3
  refine ownE_put (o := 0) (cs := enc y) hn h hi (by rw [hn]; omega) (by rw [ovl_all (by rw [hn, hn])]) (fun g' cur' e1 e2 => ?_)
  cases e1
  rw [hb] at e2; cases e2
  exact ⟨c', q1, by simpa using q2⟩
end
end Sh
end Go.Proofs.Ytnckcgpmidgggaa

namespace Go.Proofs.Ytnckcgpmidgggaa
open Sh RowKit

theorem u54 : Try.prog.underlying 54 = some (.pointer 56) := by kernel_rfl
theorem en30 : canEnter Try.prog 30 = true := by kernel_rfl
theorem en51 : canEnter Try.prog 51 = true := by kernel_rfl
theorem en52 : canEnter Try.prog 52 = true := by kernel_rfl
theorem m30 : mrow Try.prog 54 "Len" = some (30, false) := by kernel_rfl
theorem m51 : mrow Try.prog 54 "Less" = some (51, false) := by kernel_rfl
theorem m52 : mrow Try.prog 54 "Swap" = some (52, false) := by kernel_rfl
theorem tsz : 0 < Try.prog.types.size := of_decide_eq_true (by kernel_rfl)
def encH (h : Hd) : List Value := [.int .i64 h.e, .int .i64 h.a, .int .i64 h.nx]
theorem encH_len : ∀ h, (encH h).length = 3 := fun _ => rfl
theorem encH_one : ∀ h, ∀ c ∈ encH h, c.oneCell' = true := by
  intro h c hc
  simp only [encH, List.mem_cons, List.not_mem_nil, or_false] at hc
  rcases hc with rfl | rfl | rfl <;> rfl
/-- hands in memory: the box p, the row v -/
structure QH (B : Nat) (w : World) (p : Nat) (v : Value) (l : List Hd) : Prop where
  hp : w.heap[p]? = some (.cells #[v] 56 (0, 0))
  own : ownE B 58 3 encH w v l
  bp : B ≤ p
def fpH (p : Nat) (v : Value) (k : Nat) : Prop := k = p ∨ v.ownBlock = some k
theorem QH.ge {B : Nat} {w : World} {p : Nat} {v : Value} {l : List Hd} (h : QH B w p v l) : ∀ k, fpH p v k → B ≤ k ∧ k < w.heap.size := by
  intro k hk
  rcases hk with rfl | hk
  · exact ⟨h.bp, blk_lt h.hp⟩
  · have := ownE_blk h.own k hk; exact ⟨this.1, this.2.1⟩
theorem QH.stay {B : Nat} {w w' : World} {p : Nat} {v : Value} {l : List Hd} (h : QH B w p v l) (hk : ∀ k, fpH p v k → w'.heap[k]? = w.heap[k]?) : QH B w' p v l :=
  ⟨by rw [hk p (.inl rfl)]; exact h.hp, ownE_stay h.own (fun g hg => hk g (.inr hg)), h.bp⟩
theorem QH.below {B : Nat} {w w' : World} {p : Nat} {v : Value} {l : List Hd} (h : QH B w p v l) (hb : Below w.heap.size w w') : QH B w' p v l := h.stay fun k hk => hb.block k (h.ge k hk).2
theorem QH.drw {B : Nat} {w : World} {p : Nat} {v : Value} {l : List Hd} (h : QH B w p v l) : QH B (drw w) p v l := h.stay fun k hk => rfl
theorem QH.ne {B : Nat} {w : World} {p : Nat} {v : Value} {l : List Hd} (h : QH B w p v l) : ∀ g, v.ownBlock = some g → p ≠ g := by
  intro g hg e
  obtain ⟨_, _, cur, hc⟩ := ownE_blk h.own g hg
  have := h.hp
  rw [e, hc] at this
  cases this
theorem QH.rd {B : Nat} {w : World} {p : Nat} {v : Value} {l : List Hd} (h : QH B w p v l) : rdS 3 (eR encH) w v l := ownE_rd encH_len (by decide) h.own
/-- which of two is ahead -/
theorem less_s {B : Nat} {w : World} {p : Nat} {v : Value} {l : List Hd} (hq : QH B w p v l) {i j : Nat} (hi : i < l.length) (hj : j < l.length) (Q : Value → World → Prop)
    (h : ∀ w', Below w.heap.size w w' → Q (.bool (ltH l[i] l[j])) w') : f51 v (.int .i64 (i : Int)) (.int .i64 (j : Int)) w Q := by
  unfold f51
  have h := h (drw w) (Below_drw (Below.refl _ _))
  have hq1 := hq.drw
  simp only [↓reduceIte, ↓LL, LM, Value.cells, Nat.reduceAdd, Option.some.injEq, exists_eq_left', decide_true, decide_false, if_true, if_false, reduceCtorEq, cond_true, cond_false]
  generalize drw w = w1 at *
  obtain ⟨a, es, e1, e2, e3, e4⟩ := rdS_at hq1.rd hi
  obtain ⟨a', es', f1, f2, f3, f4⟩ := rdS_at hq1.rd hj
  have e3 : es = encH l[i] := e3
  have f3 : es' = encH l[j] := f3
  have c1 : w1.cell? (a.add 2) = some (.int .i64 l[i].nx) := cellsAt_get e2 (by rw [e3]; rfl)
  have c2 : w1.cell? (a'.add 2) = some (.int .i64 l[j].nx) := cellsAt_get f2 (by rw [f3]; rfl)
  simp only [↓reduceIte, ↓LL, LM, Value.cells, Nat.reduceAdd, Option.some.injEq, exists_eq_left', decide_true, decide_false, if_true, if_false, reduceCtorEq, cond_true, cond_false, e4, f4, c1, c2]
  exact h
theorem swap_s {B : Nat} {w : World} {p : Nat} {v : Value} {l : List Hd} (hq : QH B w p v l) {i j : Nat} (hi : i < l.length) (hj : j < l.length) (Q : Value → World → Prop)
    (h : ∀ w', QH B w' p v (Hp.swap l i j) → ChgS (fpH p v) w w' → Q (.tuple #[]) w') : f52 v (.int .i64 (i : Int)) (.int .i64 (j : Int)) w Q := by
  unfold f52
  have ch0 : ChgS (fpH p v) w (drw w) := (ChgS.refl _ w).drw
  have hq1 := hq.drw
  simp only [↓reduceIte, ↓LL, LM, Value.cells, Nat.reduceAdd, Option.some.injEq, exists_eq_left', decide_true, decide_false, if_true, if_false, reduceCtorEq, cond_true, cond_false]
  generalize drw w = w1 at *
  obtain ⟨a, es, e1, e2, e3, e4⟩ := rdS_at hq1.rd hi
  obtain ⟨a', es', f1, f2, f3, f4⟩ := rdS_at hq1.rd hj
  have e3 : es = encH l[i] := e3
  have f3 : es' = encH l[j] := f3
  subst e3 f3
  rw [f4]
  refine ldn_at f2 f1 ?_
  try simp only [↓reduceIte, ↓LL, LM, Value.cells, Nat.reduceAdd, Option.some.injEq, exists_eq_left', decide_true, decide_false, if_true, if_false, reduceCtorEq, cond_true, cond_false]
  rw [e4]
  refine ldn_at e2 e1 ?_
  try simp only [↓reduceIte, ↓LL, LM, Value.cells, Nat.reduceAdd, Option.some.injEq, exists_eq_left', decide_true, decide_false, if_true, if_false, reduceCtorEq, cond_true, cond_false]
  refine ia_stnE encH_len encH_one hq1.own hi fun w2 g hg o2 u2 => ?_
  try simp only [↓reduceIte, ↓LL, LM, Value.cells, Nat.reduceAdd, Option.some.injEq, exists_eq_left', decide_true, decide_false, if_true, if_false, reduceCtorEq, cond_true, cond_false]
  refine ia_stnE encH_len encH_one o2 (by simpa using hj) fun w3 g' hg' o3 u3 => ?_
  rw [hg] at hg'; cases hg'
  try simp only [↓reduceIte, ↓LL, LM, Value.cells, Nat.reduceAdd, Option.some.injEq, exists_eq_left', decide_true, decide_false, if_true, if_false, reduceCtorEq, cond_true, cond_false]
  have hne := hq1.ne g hg
  refine h w3 ⟨?_, ?_, hq1.bp⟩ ((ch0.trans (ChgS.of_upd u2 (.inr hg)) (fun _ _ h => h)).trans (ChgS.of_upd u3 (.inr hg)) (fun _ _ h => h))
  · rw [u3.block p hne, u2.block p hne]; exact hq1.hp
  · unfold Hp.swap
    rw [Hp.g_get hi, Hp.g_get hj]
    exact o3
theorem len_s {B : Nat} {w : World} {p : Nat} {v : Value} {l : List Hd} (hq : QH B w p v l) (Q : Value → World → Prop) (h : Q (.int .i64 (l.length : Int)) w) : f30 v w Q := by
  unfold f30
  refine lnl_S hq.rd ?_
  simp only [↓reduceIte, ↓LL, LM, Value.cells, Nat.reduceAdd, Option.some.injEq, exists_eq_left', decide_true, decide_false, if_true, if_false, reduceCtorEq, cond_true, cond_false]
  exact h
def hv (p : Nat) : Value := .iface 54 (.pointer (some ⟨p, 0, none⟩))
section
variable {B : Nat} {w : World} {p : Nat} {v : Value} {l : List Hd} {K : Value → M} {Q : Value → World → Prop}
theorem ci_len (hq : QH B w p v l) (h : K (.int .i64 (l.length : Int)) w Q) : ci Try.prog (hv p) "Len" #[] K w Q :=
  ci_v m30 u54 sc56 en30 tsz (cell_of_blk (n := 0) hq.hp) (s30 _ _ _ (len_s hq _ h))
theorem ci_less (hq : QH B w p v l) {i j : Nat} (hi : i < l.length) (hj : j < l.length) (h : ∀ w', Below w.heap.size w w' → K (.bool (ltH l[i] l[j])) w' Q) : ci Try.prog (hv p) "Less" #[.int .i64 (i : Int), .int .i64 (j : Int)] K w Q :=
  ci_v m51 u54 sc56 en51 tsz (cell_of_blk (n := 0) hq.hp) (s51 _ _ _ _ _ (less_s hq hi hj _ h))
theorem ci_swap (hq : QH B w p v l) {i j : Nat} (hi : i < l.length) (hj : j < l.length) (h : ∀ w', QH B w' p v (Hp.swap l i j) → ChgS (fpH p v) w w' → K (.tuple #[]) w' Q) : ci Try.prog (hv p) "Swap" #[.int .i64 (i : Int), .int .i64 (j : Int)] K w Q :=
  ci_v m52 u54 sc56 en52 tsz (cell_of_blk (n := 0) hq.hp) (s52 _ _ _ _ _ (swap_s hq hi hj _ h))
end
section
variable {B : Nat} {p : Nat} {v : Value} {Q : Value → World → Prop}
theorem up_loop : ∀ (m j : Nat) (l : List Hd) (w : World), j < m → QH B w p v l → j < l.length → l.length ≤ 1000000 →
    (∀ w', QH B w' p v (Hp.up ltH m l j) → ChgS (fpH p v) w w' → Q (.tuple #[]) w') → itr (fun _ _ => bot) f34_b1 m (hv p) (.int .i64 (j : Int)) w Q := by
  intro m
  induction m with
  | zero => intro j l w h; omega
  | succ m ih =>
    intro j l w hm hq hj hl kk
    show f34_b1 _ _ _ w Q
    unfold f34_b1
    have e1 : IntKind.i64.wrap ((j : Int) - 1) = (j : Int) - 1 := w64 (by omega) (by omega)
    have e2 : IntKind.i64.wrap (((j : Int) - 1).tdiv 2) = ((Hp.par j : Nat) : Int) := by
      unfold Hp.par
      rcases Nat.eq_zero_or_pos j with rfl | h
      · rfl
      · rw [Int.tdiv_eq_ediv_of_nonneg (by omega), w64 (by omega) (by omega)]; omega
    have e3 : decide (((Hp.par j : Nat) : Int) = (j : Int)) = decide (Hp.par j = j) := by rw [Bool.eq_iff_iff, decide_eq_true_eq, decide_eq_true_eq]; omega
    simp only [↓reduceIte, ↓LL, LM, Value.cells, Nat.reduceAdd, Option.some.injEq, exists_eq_left', decide_true, decide_false, if_true, if_false, reduceCtorEq, cond_true, cond_false, e1, e2, e3, ne_eq, show ¬ (2 : Int) = 0 from by decide, not_false_eq_true, true_and]
    unfold Hp.up at kk
    by_cases c : Hp.par j = j
    · rw [if_pos (.inl c)] at kk
      simp only [↓reduceIte, ↓LL, LM, Value.cells, Nat.reduceAdd, Option.some.injEq, exists_eq_left', decide_true, decide_false, if_true, if_false, reduceCtorEq, cond_true, cond_false, c]
      exact kk w hq (ChgS.refl _ _)
    · have hpj : Hp.par j < l.length := by unfold Hp.par; omega
      simp only [↓reduceIte, ↓LL, LM, Value.cells, Nat.reduceAdd, Option.some.injEq, exists_eq_left', decide_true, decide_false, if_true, if_false, reduceCtorEq, cond_true, cond_false, c]
      refine ci_less hq hj hpj fun w1 hb => ?_
      have hq1 := hq.below hb
      cases hlt : ltH l[j] l[Hp.par j] with
      | false =>
        rw [if_pos (.inr (by rw [Hp.g_get hj, Hp.g_get hpj]; exact hlt))] at kk
        simp only [↓reduceIte, ↓LL, LM, Value.cells, Nat.reduceAdd, Option.some.injEq, exists_eq_left', decide_true, decide_false, if_true, if_false, reduceCtorEq, cond_true, cond_false]
        exact kk w1 hq1 (ChgS.of_below hb)
      | true =>
        rw [if_neg (by rw [Hp.g_get hj, Hp.g_get hpj, hlt]; simp [c])] at kk
        simp only [↓reduceIte, ↓LL, LM, Value.cells, Nat.reduceAdd, Option.some.injEq, exists_eq_left', decide_true, decide_false, if_true, if_false, reduceCtorEq, cond_true, cond_false]
        refine ci_swap hq1 hpj hj fun w2 hq2 hc2 => ?_
        refine ih (Hp.par j) (Hp.swap l (Hp.par j) j) w2 (by unfold Hp.par at *; omega) hq2 (by rw [Hp.swap_len]; exact hpj) (by rw [Hp.swap_len]; exact hl) ?_
        intro w3 hq3 hc3
        exact kk w3 hq3 (((ChgS.of_below hb).trans hc2 (fun _ _ h => h)).trans hc3 (fun k _ hk => hk))
theorem up_s {w : World} {l : List Hd} {j : Nat} (hq : QH B w p v l) (hj : j < l.length) (hl : l.length ≤ 1000000)
    (kk : ∀ w', QH B w' p v (Hp.up ltH (j + 1) l j) → ChgS (fpH p v) w w' → Q (.tuple #[]) w') : f34 (hv p) (.int .i64 (j : Int)) w Q := by
  unfold f34
  exact ⟨_, up_loop (j + 1) j l w (Nat.lt_succ_self _) hq hj hl kk⟩
theorem down_loop (j1 : Value → Value → M) {i0 : Value} {n : Nat} : ∀ (m i : Nat) (l : List Hd) (w : World), n ≤ i + m → i < n → n ≤ l.length → QH B w p v l → l.length ≤ 1000000 →
    (∀ w', QH B w' p v (Hp.down ltH m l i n).1 → ChgS (fpH p v) w w' → j1 i0 (.int .i64 ((Hp.down ltH m l i n).2 : Int)) w' Q) →
    itr (fun _ _ _ _ => bot) (f33_b2 j1) m (hv p) i0 (.int .i64 (n : Int)) (.int .i64 (i : Int)) w Q := by
  intro m
  induction m with
  | zero => intro i l w h; omega
  | succ m ih =>
    intro i l w hm hi hn hq hl kk
    show f33_b2 j1 _ _ _ _ _ w Q
    unfold f33_b2
    have e1 : IntKind.i64.wrap (2 * (i : Int)) = 2 * (i : Int) := w64 (by omega) (by omega)
    have e2 : IntKind.i64.wrap (2 * (i : Int) + 1) = ((2 * i + 1 : Nat) : Int) := by rw [w64 (by omega) (by omega)]; omega
    have e3 : IntKind.i64.wrap (((2 * i + 1 : Nat) : Int) + 1) = ((2 * i + 2 : Nat) : Int) := by rw [w64 (by omega) (by omega)]; omega
    have e4 : ¬ ((2 * i + 1 : Nat) : Int) < 0 := by omega
    unfold Hp.down at kk
    by_cases c : n ≤ 2 * i + 1
    · rw [if_pos (.inl c)] at kk
      have c' : (n : Int) ≤ ((2 * i + 1 : Nat) : Int) := by omega
      simp only [↓reduceIte, ↓LL, LM, Value.cells, Nat.reduceAdd, Option.some.injEq, exists_eq_left', decide_true, decide_false, if_true, if_false, reduceCtorEq, cond_true, cond_false, e1, e2, c']
      exact kk w hq (ChgS.refl _ _)
    · have c' : ¬ (n : Int) ≤ ((2 * i + 1 : Nat) : Int) := by omega
      simp only [↓reduceIte, ↓LL, LM, Value.cells, Nat.reduceAdd, Option.some.injEq, exists_eq_left', decide_true, decide_false, if_true, if_false, reduceCtorEq, cond_true, cond_false, e1, e2, c', e4, e3]
      have hi1 : 2 * i + 1 < l.length := by omega
      have hil : i < l.length := by omega
      have key : ∀ (kd : Nat) (w1 : World), kd = Hp.kid ltH l i n → (hkd : kd < n) → i < kd → QH B w1 p v l → ChgS (fpH p v) w w1 →
          f33_j3 j1 (itr (fun _ _ _ _ => bot) (f33_b2 j1) m) (hv p) i0 (.int .i64 (n : Int)) (.int .i64 (i : Int)) (.int .i64 (kd : Int)) w1 Q := by
        intro kd w1 hk hkn hik hq1 hc1
        have hkl : kd < l.length := by omega
        unfold f33_j3
        refine ci_less hq1 hkl hil fun w2 hb => ?_
        have hq2 := hq1.below hb
        have hc2 := hc1.trans (ChgS.of_below (S := fpH p v) hb) (fun _ _ h => h)
        cases hlt : ltH l[kd] l[i] with
        | false =>
          rw [if_pos (.inr (by rw [← hk, Hp.g_get hkl, Hp.g_get hil]; exact hlt))] at kk
          simp only [↓reduceIte, ↓LL, LM, Value.cells, Nat.reduceAdd, Option.some.injEq, exists_eq_left', decide_true, decide_false, if_true, if_false, reduceCtorEq, cond_true, cond_false]
          exact kk w2 hq2 hc2
        | true =>
          rw [if_neg (by rw [← hk, Hp.g_get hkl, Hp.g_get hil, hlt]; simp; omega)] at kk
          simp only [↓reduceIte, ↓LL, LM, Value.cells, Nat.reduceAdd, Option.some.injEq, exists_eq_left', decide_true, decide_false, if_true, if_false, reduceCtorEq, cond_true, cond_false]
          refine ci_swap hq2 hil hkl fun w3 hq3 hc3 => ?_
          rw [← hk] at kk
          refine ih kd (Hp.swap l i kd) w3 (by omega) hkn (by rw [Hp.swap_len]; exact hn) hq3 (by rw [Hp.swap_len]; exact hl) ?_
          intro w4 hq4 hc4
          exact kk w4 hq4 ((hc2.trans hc3 (fun _ _ h => h)).trans hc4 (fun k _ hk => hk))
      by_cases c2 : 2 * i + 2 < n
      · have c2' : ((2 * i + 2 : Nat) : Int) < (n : Int) := by omega
        have hi2 : 2 * i + 2 < l.length := by omega
        simp only [↓reduceIte, ↓LL, LM, Value.cells, Nat.reduceAdd, Option.some.injEq, exists_eq_left', decide_true, decide_false, if_true, if_false, reduceCtorEq, cond_true, cond_false, c2']
        refine ci_less hq hi2 hi1 fun w1 hb => ?_
        cases hlt : ltH l[2 * i + 2] l[2 * i + 1] with
        | false =>
          simp only [↓reduceIte, ↓LL, LM, Value.cells, Nat.reduceAdd, Option.some.injEq, exists_eq_left', decide_true, decide_false, if_true, if_false, reduceCtorEq, cond_true, cond_false]
          refine key (2 * i + 1) w1 ?_ (by omega) (by omega) (hq.below hb) (ChgS.of_below hb)
          unfold Hp.kid
          rw [if_neg (by rw [Hp.g_get hi2, Hp.g_get hi1, hlt]; simp)]
        | true =>
          simp only [↓reduceIte, ↓LL, LM, Value.cells, Nat.reduceAdd, Option.some.injEq, exists_eq_left', decide_true, decide_false, if_true, if_false, reduceCtorEq, cond_true, cond_false]
          refine key (2 * i + 2) w1 ?_ c2 (by omega) (hq.below hb) (ChgS.of_below hb)
          unfold Hp.kid
          rw [if_pos (by rw [Hp.g_get hi2, Hp.g_get hi1, hlt]; exact ⟨c2, rfl⟩)]
      · have c2' : ¬ ((2 * i + 2 : Nat) : Int) < (n : Int) := by omega
        simp only [↓reduceIte, ↓LL, LM, Value.cells, Nat.reduceAdd, Option.some.injEq, exists_eq_left', decide_true, decide_false, if_true, if_false, reduceCtorEq, cond_true, cond_false, c2']
        refine key (2 * i + 1) w ?_ (by omega) (by omega) hq (ChgS.refl _ _)
        unfold Hp.kid
        rw [if_neg (by intro h; exact c2 h.1)]
theorem down_le {α : Type} [Inhabited α] (lt : α → α → Bool) : ∀ (m : Nat) (l : List α) (i n : Nat), i ≤ (Hp.down lt m l i n).2 := by
  intro m
  induction m with
  | zero => intro l i n; exact Nat.le_refl _
  | succ m ih =>
    intro l i n
    unfold Hp.down
    split
    · exact Nat.le_refl _
    · refine Nat.le_trans ?_ (ih _ _ _)
      unfold Hp.kid; split <;> omega
theorem down_len {α : Type} [Inhabited α] (lt : α → α → Bool) : ∀ (m : Nat) (l : List α) (i n : Nat), (Hp.down lt m l i n).1.length = l.length := by
  intro m
  induction m with
  | zero => intro l i n; rfl
  | succ m ih =>
    intro l i n
    unfold Hp.down
    split
    · rfl
    · rw [ih, Hp.swap_len]
theorem down_perm {α : Type} [Inhabited α] (lt : α → α → Bool) : ∀ (m : Nat) (l : List α) (i n : Nat), n ≤ l.length → i < n ∨ m = 0 → (Hp.down lt m l i n).1.Perm l := by
  intro m
  induction m with
  | zero => intro l i n _ _; exact List.Perm.refl _
  | succ m ih =>
    intro l i n hn hi
    unfold Hp.down
    split
    · exact List.Perm.refl _
    · rename_i c
      have hc : 2 * i + 1 < n := by
        rcases Nat.lt_or_ge (2 * i + 1) n with h | h
        · exact h
        · exact absurd (.inl h) c
      have hk : Hp.kid lt l i n < n := by unfold Hp.kid; split <;> omega
      exact (ih _ _ _ (by rw [Hp.swap_len]; exact hn) (.inl hk)).trans (Hp.swap_perm (by omega) (by omega))
theorem down_s {w : World} {l : List Hd} {i n : Nat} (hq : QH B w p v l) (hi : i < n) (hn : n ≤ l.length) (hl : l.length ≤ 1000000)
    (kk : ∀ w', QH B w' p v (Hp.down ltH (n - i) l i n).1 → ChgS (fpH p v) w w' → Q (.bool (decide (i < (Hp.down ltH (n - i) l i n).2))) w') : f33 (hv p) (.int .i64 (i : Int)) (.int .i64 (n : Int)) w Q := by
  unfold f33
  rw [jn_e]
  have fin : ∀ (j : Nat) w', Q (.bool (decide (i < j))) w' → f33_j1 (.int .i64 (i : Int)) (.int .i64 (j : Int)) w' Q := by
    intro j w' h
    unfold f33_j1
    have : decide ((i : Int) < (j : Int)) = decide (i < j) := by rw [Bool.eq_iff_iff]; simp
    simp only [↓reduceIte, ↓LL, LM, Value.cells, Nat.reduceAdd, Option.some.injEq, exists_eq_left', decide_true, decide_false, if_true, if_false, reduceCtorEq, cond_true, cond_false, this]
    exact h
  refine ⟨n - i, down_loop _ (n - i) i l w (by omega) hi hn hq hl ?_⟩
  intro w' hq' hc'
  exact fin _ _ (kk w' hq' hc')
theorem fix_s {w : World} {l : List Hd} {i : Nat} (hq : QH B w p v l) (hi : i < l.length) (hl : l.length ≤ 1000000)
    (kk : ∀ w', QH B w' p v (Hp.fix ltH l i l.length) → ChgS (fpH p v) w w' → Q (.tuple #[]) w') : f31 (hv p) (.int .i64 (i : Int)) w Q := by
  unfold f31
  refine ci_len hq ?_
  rw [cl_e]
  refine down_s hq hi (Nat.le_refl _) hl fun w1 hq1 hc1 => ?_
  have hle := down_le ltH (l.length - i) l i l.length
  have hln := down_len ltH (l.length - i) l i l.length
  unfold Hp.fix at kk
  by_cases c : (Hp.down ltH (l.length - i) l i l.length).2 = i
  · rw [if_pos c] at kk
    have : ¬ i < (Hp.down ltH (l.length - i) l i l.length).2 := by omega
    simp only [↓reduceIte, ↓LL, LM, Value.cells, Nat.reduceAdd, Option.some.injEq, exists_eq_left', decide_true, decide_false, if_true, if_false, reduceCtorEq, cond_true, cond_false, this]
    refine up_s hq1 (by omega) (by omega) fun w2 hq2 hc2 => ?_
    try simp only [↓reduceIte, ↓LL, LM, Value.cells, Nat.reduceAdd, Option.some.injEq, exists_eq_left', decide_true, decide_false, if_true, if_false, reduceCtorEq, cond_true, cond_false]
    exact kk w2 hq2 (hc1.trans hc2 (fun k _ hk => hk))
  · rw [if_neg c] at kk
    have : i < (Hp.down ltH (l.length - i) l i l.length).2 := by omega
    simp only [↓reduceIte, ↓LL, LM, Value.cells, Nat.reduceAdd, Option.some.injEq, exists_eq_left', decide_true, decide_false, if_true, if_false, reduceCtorEq, cond_true, cond_false, this]
    exact kk w1 hq1 hc1
/-- a heap made, from place k - 1 down -/
def initL : Nat → List Hd → List Hd
  | 0, l => l
  | k + 1, l => initL k (Hp.down ltH (l.length - k) l k l.length).1
theorem initL_spec : ∀ (k : Nat) (l : List Hd), k ≤ l.length → Hp.HPb ltH l l.length k → Hp.HP ltH (initL k l) (initL k l).length ∧ (initL k l).Perm l := by
  intro k
  induction k with
  | zero => intro l _ h; exact ⟨fun k k0 kn => h k k0 kn (Nat.zero_le _), List.Perm.refl _⟩
  | succ k ih =>
    intro l hk h
    have hl := down_len ltH (l.length - k) l k l.length
    have hp := down_perm ltH (l.length - k) l k l.length (Nat.le_refl _) (.inl (by omega))
    have hd := Hp.downB_spec ltH_ord (b := k) (l.length - k) l l.length k (Nat.le_refl _) (by omega) (by omega) (Nat.le_refl _) ⟨fun i i0 il ip ib => h i i0 il (by omega), fun c c0 cl cp c1 cb => by unfold Hp.par at cb; omega⟩
    unfold initL
    obtain ⟨a, b⟩ := ih (Hp.down ltH (l.length - k) l k l.length).1 (by omega) (by rw [hl]; exact hd)
    exact ⟨a, b.trans hp⟩
theorem init_loop : ∀ (k : Nat) (l : List Hd) (w : World), QH B w p v l → k ≤ l.length → l.length ≤ 1000000 →
    (∀ w', QH B w' p v (initL k l) → ChgS (fpH p v) w w' → Q (.tuple #[]) w') → itr (fun _ _ _ => bot) f29_b1 (k + 1) (hv p) (.int .i64 (l.length : Int)) (.int .i64 ((k : Int) - 1)) w Q := by
  intro k
  induction k with
  | zero =>
    intro l w hq hk hl kk
    show f29_b1 _ _ _ _ w Q
    unfold f29_b1
    have : ¬ (0 : Int) ≤ ((0 : Nat) : Int) - 1 := by omega
    simp only [↓reduceIte, ↓LL, LM, Value.cells, Nat.reduceAdd, Option.some.injEq, exists_eq_left', decide_true, decide_false, if_true, if_false, reduceCtorEq, cond_true, cond_false, this]
    exact kk w hq (ChgS.refl _ _)
  | succ k ih =>
    intro l w hq hk hl kk
    show f29_b1 _ _ _ _ w Q
    unfold f29_b1
    have e0 : ((k + 1 : Nat) : Int) - 1 = (k : Int) := by omega
    have e1 : (0 : Int) ≤ (k : Int) := by omega
    have e2 : IntKind.i64.wrap ((k : Int) - 1) = (k : Int) - 1 := w64 (by omega) (by omega)
    simp only [↓reduceIte, ↓LL, LM, Value.cells, Nat.reduceAdd, Option.some.injEq, exists_eq_left', decide_true, decide_false, if_true, if_false, reduceCtorEq, cond_true, cond_false, e0, e1]
    refine down_s hq (by omega) (Nat.le_refl _) hl fun w1 hq1 hc1 => ?_
    have hln := down_len ltH (l.length - k) l k l.length
    simp only [↓reduceIte, ↓LL, LM, Value.cells, Nat.reduceAdd, Option.some.injEq, exists_eq_left', decide_true, decide_false, if_true, if_false, reduceCtorEq, cond_true, cond_false, e2]
    rw [← hln]
    refine ih _ w1 hq1 (by omega) (by omega) fun w2 hq2 hc2 => ?_
    exact kk w2 hq2 (hc1.trans hc2 (fun _ _ h => h))
theorem init_s {w : World} {l : List Hd} (hq : QH B w p v l) (hl : l.length ≤ 1000000)
    (kk : ∀ w' l', QH B w' p v l' → Hp.HP ltH l' l'.length → l'.Perm l → ChgS (fpH p v) w w' → Q (.tuple #[]) w') : f29 (hv p) w Q := by
  unfold f29
  refine ci_len hq ?_
  have e1 : IntKind.i64.wrap ((l.length : Int).tdiv 2) = ((l.length / 2 : Nat) : Int) := by rw [Int.tdiv_eq_ediv_of_nonneg (by omega), w64 (by omega) (by omega)]; omega
  have e2 : IntKind.i64.wrap (((l.length / 2 : Nat) : Int) - 1) = ((l.length / 2 : Nat) : Int) - 1 := w64 (by omega) (by omega)
  simp only [↓reduceIte, ↓LL, LM, Value.cells, Nat.reduceAdd, Option.some.injEq, exists_eq_left', decide_true, decide_false, if_true, if_false, reduceCtorEq, cond_true, cond_false, e1, e2, ne_eq, show ¬ (2 : Int) = 0 from by decide, not_false_eq_true, true_and]
  refine ⟨_, init_loop (l.length / 2) l w hq (by omega) hl fun w' hq' hc' => ?_⟩
  obtain ⟨a, b⟩ := initL_spec (l.length / 2) l (by omega) (fun i i0 il ib => by unfold Hp.par at ib; omega)
  exact kk w' _ hq' a b hc'
end
end Go.Proofs.Ytnckcgpmidgggaa

namespace Go.Proofs.Ytnckcgpmidgggaa
open Sh RowKit

def encR (r : Int × Int) : List Value := [.int .i64 r.1, .int .i64 r.2]
theorem encR_len : ∀ r, (encR r).length = 2 := fun _ => rfl
theorem encR_one : ∀ r, ∀ c ∈ encR r, c.oneCell' = true := by
  intro r c hc
  simp only [encR, List.mem_cons, List.not_mem_nil, or_false] at hc
  rcases hc with rfl | rfl <;> rfl
section
variable {W : World} {Q : Value → World → Prop} {v : Value} {l : List (Int × Int)}
theorem all_loop (hr : rdS 2 (eR encR) W v l) (hl : l.length ≤ 20) : ∀ (m i : Nat) (ov : Value) (w : World), i + m = l.length → Below W.heap.size W w → ownE W.heap.size 27 2 encR w ov (l.take i) →
    (∀ w' ov', Below W.heap.size W w' → ownE W.heap.size 27 2 encR w' ov' l → Q ov' w') → itr (fun _ _ _ => bot) (f20_b2 f20_j1) (m + 1) v ov (.int .i64 (i : Int)) w Q := by
  intro m
  induction m with
  | zero =>
    intro i ov w hi hb ho kk
    show f20_b2 _ _ _ _ _ w Q
    unfold f20_b2
    obtain ⟨p, c, hv⟩ := rdS_len hr
    subst hv
    have c1 : ¬ (i : Int) < (l.length : Int) := by omega
    simp only [↓reduceIte, ↓LL, LM, Value.cells, Nat.reduceAdd, Option.some.injEq, exists_eq_left', decide_true, decide_false, if_true, if_false, reduceCtorEq, cond_true, cond_false, c1]
    unfold f20_j1
    rw [rt_e]
    rw [List.take_of_length_le (by omega)] at ho
    exact kk w ov hb ho
  | succ m ih =>
    intro i ov w hi hb ho kk
    have hil : i < l.length := by omega
    show f20_b2 _ _ _ _ _ w Q
    unfold f20_b2
    obtain ⟨a, es, e1, e2, e3, e4⟩ := rdS_at hr hil
    have e3 : es = encR l[i] := e3
    subst e3
    refine lnl_S hr ?_
    have c1 : (i : Int) < (l.length : Int) := by omega
    have c2 : (i : Int) < 20 := by omega
    simp only [↓reduceIte, ↓LL, LM, Value.cells, Nat.reduceAdd, Option.some.injEq, exists_eq_left', decide_true, decide_false, if_true, if_false, reduceCtorEq, cond_true, cond_false, c1, c2, e4]
    refine ldn_at (cellsAt_below hb e2) e1 ?_
    rw [cl_e]
    refine f9_s l[i].1 l[i].2 _ _ fun w1 hb1 => ?_
    have b1 := bt hb hb1
    refine bslE (x := l[i]) (enc := encR) slt46 rfl (by decide) (by decide) rfl fun w2 h2 hb2 => ?_
    have b2 := bt b1 hb2
    have o2 := ownE_below (ownE_below ho hb1) hb2
    have hlt : (l.take i).length = i := by rw [List.length_take]; omega
    refine ap_E (m := [l[i]]) slt46 rfl (by decide) encR_len encR_one o2 (rd_lit rfl h2) (by rw [hlt]; unfold maxLen; simp; omega) (by rw [hlt]; simp; omega) b2.size fun v3 w3 o3 g3 _ => ?_
    have e5 : IntKind.i64.wrap ((i : Int) + 1) = ((i + 1 : Nat) : Int) := by rw [w64 (by omega) (by omega)]; omega
    simp only [↓reduceIte, ↓LL, LM, Value.cells, Nat.reduceAdd, Option.some.injEq, exists_eq_left', decide_true, decide_false, if_true, if_false, reduceCtorEq, cond_true, cond_false, e5]
    refine ih (i + 1) v3 w3 (by omega) (b2.grown g3 b2.size (fun k hk => (ownE_blk o2 k hk).1)) ?_ kk
    rw [List.take_succ_eq_append_getElem hil]; exact o3
theorem f20_s (hr : rdS 2 (eR encR) W v l) (hl : l.length ≤ 20) (kk : ∀ w' ov, Below W.heap.size W w' → ownE W.heap.size 27 2 encR w' ov l → Q ov w') : f20 v W Q := by
  unfold f20
  rw [jn_e]
  exact ⟨_, all_loop hr hl l.length 0 _ W (by omega) (Below.refl _ _) ownE_nil kk⟩
end

theorem build58 (a b c : Int) (w : World) : (Instr.build 58 #[(0, rdV a b), (1, .int .i64 c)]).run Try.prog w = .ok (.agg (encH ⟨a, b, c⟩).toArray) w := by
  kernel_rfl
theorem bs0 {t e : TypeId} {z : Value} {n b : Nat} {w : World} (h : slT Try.prog t e z n b) : (Instr.buildSlice t 0 #[]).run Try.prog w = .ok (.slice (some ⟨w.heap.size, 0, none⟩) 0 0) (psh w (.cells #[] e)) := by
  obtain ⟨i, h1, h2, h3, h4, h5⟩ := slT_info h
  simp only [Instr.buildSlice, underlying, Sem.run_bind, run_program, Result.andThen_ok, h1, Sem.run_pure, sizeOf, typeInfo, h2, h4, zeroValue, h3]
  have e0 : Array.map (fun (_ : Nat) => (default : Value)) (Array.range 0) = #[] := by apply Array.eq_empty_of_size_eq_zero; simp
  simp [Instr.fill, newRow, newObj, psh, Sem.run, e0]
theorem ownE_one {α : Type} {B : Nat} {e : TypeId} {n : Nat} {enc : α → List Value} {w : World} {v : Value} {l : List α} (h : ownE B e n enc w v l) : v.oneCell' = true := by
  obtain ⟨h1, h2⟩ := h
  rcases h2 with ⟨rfl, _⟩ | ⟨g', cap, cur, rfl, _⟩ <;> rfl
theorem ownI_t {B : Nat} {e : TypeId} {k : IntKind} {w : World} {v : Value} {l : List Int} (h : ownI B e k w v l) : ∀ g, v.ownBlock = some g → B ≤ g ∧ g < w.heap.size ∧ ∃ cur, w.heap[g]? = some (.cells cur e (0, 0)) := by
  intro g hg
  obtain ⟨h1, h2⟩ := h
  rcases h2 with ⟨rfl, _⟩ | ⟨g', cap, cur, rfl, hg', hb', _⟩
  · cases hg
  · cases hg; exact ⟨hg', blk_lt hb', _, hb'⟩
theorem ownI_stayS {B : Nat} {e : TypeId} {k : IntKind} {w w' : World} {v : Value} {l : List Int} (h : ownI B e k w v l) (hs : ∀ g, v.ownBlock = some g → w'.heap[g]? = w.heap[g]?) : ownI B e k w' v l := by
  obtain ⟨h1, h2⟩ := h
  refine ⟨h1, ?_⟩
  rcases h2 with h2 | ⟨g', cap, cur, rfl, hg', hb', rest⟩
  · exact .inl h2
  · exact .inr ⟨g', cap, cur, rfl, hg', by rw [hs g' rfl]; exact hb', rest⟩
/-- the hands that there are at first -/
def handsOf (fr : Int) (l : List (Int × Int)) : List Hd := (rightL l).map fun r => ⟨r.1, r.2, bh r.1 r.2 fr⟩
theorem handsOf_app (fr : Int) (l : List (Int × Int)) (r : Int × Int) : handsOf fr (l ++ [r]) = handsOf fr l ++ (if rrB r.1 r.2 = true then [⟨r.1, r.2, bh r.1 r.2 fr⟩] else []) := by
  unfold handsOf rightL
  rw [List.filter_append, List.map_append, List.filter_cons]
  split <;> simp
theorem handsOf_len (fr : Int) (l : List (Int × Int)) : (handsOf fr l).length ≤ l.length := by
  unfold handsOf rightL
  rw [List.length_map]; exact List.length_filter_le _ _
section
variable {W : World} {Q : Value → World → Prop} {v : Value} {l : List (Int × Int)} {fr : Int} {B : Nat} {p : Nat}
theorem hands_loop (j1 : Value → Value → M) {nv : Value} (hr : rdS 2 (eR encR) W v l) (hl : l.length ≤ 20) (h0 : -1152921504606846976 ≤ fr) (h1 : fr ≤ 1152921504606846976) (hBW : B ≤ W.heap.size) :
    ∀ (m i : Nat) (hv : Value) (w : World), i + m = l.length → Below W.heap.size W w → QH B w p hv (handsOf fr (l.take i)) → (∀ k, fpH p hv k → W.heap.size ≤ k) →
    (∀ w' hv', Below W.heap.size W w' → QH B w' p hv' (handsOf fr l) → (∀ k, fpH p hv' k → W.heap.size ≤ k) → j1 nv (.pointer (some ⟨p, 0, none⟩)) w' Q) →
    itr (fun _ _ _ _ _ _ => bot) (f19_b2 j1) (m + 1) (.int .i64 fr) nv (.pointer (some ⟨p, 0, none⟩)) v (.int .i64 (l.length : Int)) (.int .i64 (i : Int)) w Q := by
  intro m
  induction m with
  | zero =>
    intro i hv w hi hb hq hf kk
    show f19_b2 _ _ _ _ _ _ _ _ w Q
    unfold f19_b2
    have c1 : ¬ (i : Int) < (l.length : Int) := by omega
    simp only [↓reduceIte, ↓LL, LM, Value.cells, Nat.reduceAdd, Option.some.injEq, exists_eq_left', decide_true, decide_false, if_true, if_false, reduceCtorEq, cond_true, cond_false, c1]
    rw [List.take_of_length_le (by omega)] at hq
    exact kk w hv hb hq hf
  | succ m ih =>
    intro i hv w hi hb hq hf kk
    have hil : i < l.length := by omega
    show f19_b2 _ _ _ _ _ _ _ _ w Q
    unfold f19_b2
    obtain ⟨a, es, e1, e2, e3, e4⟩ := rdS_at hr hil
    have e3 : es = encR l[i] := e3
    subst e3
    have c1 : (i : Int) < (l.length : Int) := by omega
    simp only [↓reduceIte, ↓LL, LM, Value.cells, Nat.reduceAdd, Option.some.injEq, exists_eq_left', decide_true, decide_false, if_true, if_false, reduceCtorEq, cond_true, cond_false, c1, e4]
    refine ldn_at (cellsAt_below hb e2) e1 ?_
    rw [show (Value.agg (encR l[i]).toArray) = rdV l[i].1 l[i].2 from rfl]
    have hq0 := blk_psh_new (w := w) (o := .cells #[.int .i64 0, .int .i64 0] 27)
    have hb0 := b_psh w (.cells #[.int .i64 0, .int .i64 0] 27)
    simp only [↓reduceIte, ↓LL, LM, Value.cells, Nat.reduceAdd, Option.some.injEq, exists_eq_left', decide_true, decide_false, if_true, if_false, reduceCtorEq, cond_true, cond_false]
    refine stn_box (cs := rdC l[i].1 l[i].2) hq0 rfl rfl (one_rd _ _) fun w3 hw3 hu3 => ?_
    have b3 : Below w.heap.size w w3 := hb0.trans (hu3.below (Nat.le_refl _))
    refine ldn_box hw3 rfl ?_
    rw [cl_e]
    refine f11_s _ _ _ _ fun w4 hb4 => ?_
    have b4 := bt b3 hb4
    have hw4 := stay hb4 hw3
    have hq4 := hq.below b4
    have hts : l.take (i + 1) = l.take i ++ [l[i]] := by rw [List.take_succ_eq_append_getElem hil]
    have e5 : IntKind.i64.wrap ((i : Int) + 1) = ((i + 1 : Nat) : Int) := by rw [w64 (by omega) (by omega)]; omega
    cases hR : rrB l[i].1 l[i].2 with
    | false =>
      simp only [↓reduceIte, ↓LL, LM, Value.cells, Nat.reduceAdd, Option.some.injEq, exists_eq_left', decide_true, decide_false, if_true, if_false, reduceCtorEq, cond_true, cond_false]
      unfold f19_j3
      simp only [↓reduceIte, ↓LL, LM, Value.cells, Nat.reduceAdd, Option.some.injEq, exists_eq_left', decide_true, decide_false, if_true, if_false, reduceCtorEq, cond_true, cond_false, e5]
      refine ih (i + 1) hv w4 (by omega) (bt hb b4) ?_ hf kk
      rw [hts, handsOf_app, hR]
      simpa using hq4
    | true =>
      obtain ⟨r1, r2, r3, r4⟩ := rrB_t.1 hR
      have cp4 : w4.cell? ⟨p, 0, none⟩ = some hv := by rw [cell_of_blk (n := 0) hq4.hp]; rfl
      simp only [↓reduceIte, ↓LL, LM, Value.cells, Nat.reduceAdd, Option.some.injEq, exists_eq_left', decide_true, decide_false, if_true, if_false, reduceCtorEq, cond_true, cond_false, cp4]
      have hw4 : (drw w4).heap[w.heap.size]? = some (.cells (rdC l[i].1 l[i].2) 27) := hw4
      have hq4 := hq4.drw
      have b4 : Below w.heap.size w (drw w4) := Below_drw b4
      generalize drw w4 = w5 at *
      refine ldn_box hw4 rfl ?_
      refine ldn_box hw4 rfl ?_
      simp only [↓reduceIte, ↓LL, LM, Value.cells, Nat.reduceAdd, Option.some.injEq, exists_eq_left', decide_true, decide_false, if_true, if_false, reduceCtorEq, cond_true, cond_false]
      refine f23_s _ _ _ r1 r2 r3 r4 (by omega) (by omega) _ _ fun w6 hb6 => ?_
      have hw6 := stay hb6 hw4
      have hq6 := hq4.below hb6
      have b6 := bt b4 hb6
      have cp6 := cell_of_blk (n := 0) hq6.hp
      have cp6 : w6.cell? ⟨p, 0, none⟩ = some hv := by rw [cp6]; rfl
      simp only [↓reduceIte, ↓LL, LM, Value.cells, Nat.reduceAdd, Option.some.injEq, exists_eq_left', decide_true, decide_false, if_true, if_false, reduceCtorEq, cond_true, cond_false, Kld_e, Kldn_e, cp6, true_and]
      refine ⟨⟨rfl, rds2 hw6⟩, ?_⟩
      rw [smr_e]
      refine ⟨_, build58 _ _ _ _, ?_⟩
      refine bslE (x := (⟨l[i].1, l[i].2, bh l[i].1 l[i].2 fr⟩ : Hd)) (enc := encH) slt56 rfl (by decide) (by decide) rfl fun w7 h7 hb7 => ?_
      have hq7 := hq6.below hb7
      have b7 := bt b6 hb7
      have cp7 := cell_of_blk (n := 0) hq7.hp
      have cp7 : w7.cell? ⟨p, 0, none⟩ = some hv := by rw [cp7]; rfl
      simp only [↓reduceIte, ↓LL, LM, Value.cells, Nat.reduceAdd, Option.some.injEq, exists_eq_left', decide_true, decide_false, if_true, if_false, reduceCtorEq, cond_true, cond_false, Kld_e, Kldn_e, cp7, true_and]
      have hlt : (handsOf fr (l.take i)).length ≤ 20 := Nat.le_trans (handsOf_len _ _) (by rw [List.length_take]; omega)
      have hsz : B ≤ w7.heap.size := Nat.le_trans hBW (Nat.le_trans hb.size b7.size)
      refine ap_E (m := [(⟨l[i].1, l[i].2, bh l[i].1 l[i].2 fr⟩ : Hd)]) slt56 rfl (by decide) encH_len encH_one hq7.own (rd_lit rfl h7) (by unfold maxLen; simp; omega) (by simp; omega) hsz fun v8 w8 o8 g8 f8 => ?_
      have hp8 : w8.heap[p]? = some (.cells #[hv] 56 (0, 0)) := by
        rw [g8.block p (blk_lt hq7.hp) (fun e => hq7.ne p e.symm rfl)]; exact hq7.hp
      try simp only [↓reduceIte, ↓LL, LM, Value.cells, Nat.reduceAdd, Option.some.injEq, exists_eq_left', decide_true, decide_false, if_true, if_false, reduceCtorEq, cond_true, cond_false]
      refine st_box hp8 (by simp) (ownE_one o8) fun w9 h9 u9 => ?_
      have h9 : w9.heap[p]? = some (.cells #[v8] 56 (0, 0)) := h9
      have ne9 : ∀ g, v8.ownBlock = some g → p ≠ g := by
        intro g hg e
        obtain ⟨_, _, cur, hc⟩ := ownE_blk o8 g hg
        rw [← e, hp8] at hc; cases hc
      have o9 := ownE_stay o8 (w' := w9) (fun g hg => u9.block g (Ne.symm (ne9 g hg)))
      have hpB : W.heap.size ≤ p := hf p (.inl rfl)
      have b9 : Below W.heap.size W w9 := ((bt hb b7).grown g8 (bt hb b7).size (fun k hk => hf k (.inr hk))).trans (u9.below hpB)
      unfold f19_j3
      simp only [↓reduceIte, ↓LL, LM, Value.cells, Nat.reduceAdd, Option.some.injEq, exists_eq_left', decide_true, decide_false, if_true, if_false, reduceCtorEq, cond_true, cond_false, e5]
      refine ih (i + 1) v8 w9 (by omega) b9 ?_ ?_ kk
      · rw [hts, handsOf_app, if_pos hR]
        exact ⟨h9, o9, hq.bp⟩
      · rintro k (rfl | hk)
        · exact hpB
        · rcases f8 with f8 | f8
          · rw [f8] at hk; exact hf k (.inr hk)
          · rw [f8] at hk; cases hk
            exact Nat.le_trans hb.size b7.size
end
end Go.Proofs.Ytnckcgpmidgggaa

namespace Go.Proofs.Ytnckcgpmidgggaa
open Sh RowKit

/-- how many may be -/
def limN (n : Int) : Nat := (min n 1000).toNat
theorem limN_lt {k : Nat} {n : Int} : ((k : Int) < min n 1000) ↔ k < limN n := by unfold limN; omega
theorem limN_le {n : Int} : limN n ≤ 1000 := by unfold limN; omega
theorem mr_nil {l : List (Int × Int)} (h : rightL l = []) : ∀ (k : Nat) (T : Int), mr l k T = [] := by
  intro k T
  cases k with
  | zero => rfl
  | succ k => unfold mr; rw [bst_none.2 h]
theorem mr_len {l : List (Int × Int)} : ∀ (k : Nat) (T : Int), (mr l k T).length ≤ k := by
  intro k
  induction k with
  | zero => intro T; exact Nat.le_refl _
  | succ k ih =>
    intro T
    unfold mr
    split
    · simp
    · rw [List.length_cons]; have := ih ‹Int›; omega
section
variable {W : World} {Q : Value → World → Prop} {l : List (Int × Int)} {n fr : Int} {p : Nat}
theorem sepI {B : Nat} {w : World} {ov v : Value} {acc : List Int} {H : List Hd} (ho : ownI B 2 .i64 w ov acc) (hq : QH B w p v H) : ∀ g, ov.ownBlock = some g → ¬ fpH p v g := by
  intro g hg hf
  obtain ⟨_, _, cur, hc⟩ := ownI_t ho g hg
  rcases hf with rfl | hf
  · have := hq.hp; rw [hc] at this; cases this
  · obtain ⟨_, _, cur', hc'⟩ := ownE_blk hq.own g hf
    rw [hc] at hc'; cases hc'
theorem keepI {B : Nat} {w w' : World} {ov v : Value} {acc : List Int} {H : List Hd} (ho : ownI B 2 .i64 w ov acc) (hq : QH B w p v H) (hc : ChgS (fpH p v) w w') : ownI B 2 .i64 w' ov acc :=
  ownI_stayS ho fun g hg => hc.block g (ownI_t ho g hg).2.1 (sepI ho hq g hg)
/-- what the answer's last time is, if there is one -/
def lastIs (T : Int) (o : Bool) (acc : List Int) : Prop := (o = true → ∃ a, acc = a ++ [T]) ∧ (o = false → acc = [])
theorem merge_loop {hv : Value} : ∀ (m : Nat) (T : Int) (o : Bool) (H : List Hd) (acc : List Int) (ov : Value) (w : World), (limN n - acc.length) * 21 + atT T H < m → acc.length ≤ limN n → lastIs T o acc → MI l T o H → H.length ≤ 20 →
    -1152921504606846977 ≤ T → T ≤ 1152921504606846976 + acc.length * 1099511627776 → Below W.heap.size W w → QH W.heap.size w p hv H → ownI W.heap.size 2 .i64 w ov acc →
    (∀ w' ov', Below W.heap.size W w' → ownI W.heap.size 2 .i64 w' ov' (acc ++ mr l (limN n - acc.length) T) → Q ov' w') →
    itr (fun _ _ _ => bot) (f19_b5 f19_j4) m (.int .i64 n) (.pointer (some ⟨p, 0, none⟩)) ov w Q := by
  intro m
  induction m with
  | zero => intro T o H acc ov w h; omega
  | succ m ih =>
    intro T o H acc ov w hm hal hla hM hH hT0 hT1 hb hq ho kk
    show f19_b5 _ _ _ _ _ w Q
    unfold f19_b5
    have cp : w.cell? ⟨p, 0, none⟩ = some hv := by rw [cell_of_blk (n := 0) hq.hp]; rfl
    simp only [↓reduceIte, ↓LL, LM, Value.cells, Nat.reduceAdd, Option.some.injEq, exists_eq_left', decide_true, decide_false, if_true, if_false, reduceCtorEq, cond_true, cond_false, cp]
    refine len_s hq _ ?_
    rcases Nat.eq_zero_or_pos H.length with h0 | h0
    · have hH0 : H = [] := List.length_eq_zero_iff.1 h0
      have hr : rightL l = [] := by
        have := hM.pm.length_eq
        rw [hH0] at this
        exact List.length_eq_zero_iff.1 this.symm
      rw [mr_nil hr, List.append_nil] at kk
      have c0 : ¬ (0 : Int) < (H.length : Int) := by omega
      simp only [↓reduceIte, ↓LL, LM, Value.cells, Nat.reduceAdd, Option.some.injEq, exists_eq_left', decide_true, decide_false, if_true, if_false, reduceCtorEq, cond_true, cond_false, c0]
      unfold f19_j4
      rw [rt_e]
      exact kk w ov hb ho
    have c0 : (0 : Int) < (H.length : Int) := by omega
    obtain ⟨op, oc, rfl, hop⟩ := ownI_len ho
    by_cases hlt : acc.length < limN n
    · have c1 : (acc.length : Int) < if 1000 < n then 1000 else n := by have := limN_lt.2 hlt; split <;> omega
      obtain ⟨g, cap, cur, rfl, hob, hgB, hg, hcl, hcm, hcs, hct⟩ := ownE_open hq.own h0
      have gt : ∀ j, j < 3 → cur[j]? = (encH H[0])[j]? := by
        intro j hj
        have h3 : (cur.toList.take (H.length * 3))[j]? = (H.flatMap encH)[j]? := by rw [hct]
        have h4 := flat_get encH_len H 0 j h0 hj
        rw [Nat.zero_mul, Nat.zero_add] at h4
        rw [List.getElem?_take_of_lt (by omega), h4] at h3
        simpa using h3
      have g0 : w.cell? ⟨g, 0, none⟩ = some (.int .i64 H[0].e) := by rw [cell_of_blk (n := 0) hg, gt 0 (by decide)]; rfl
      have g2 : w.cell? ⟨g, 2, none⟩ = some (.int .i64 H[0].nx) := by rw [cell_of_blk (n := 2) hg, gt 2 (by decide)]; rfl
      have hia : ∀ {K : Value → M} {w' : World} {Q : Value → World → Prop}, ia 3 (.slice (some ⟨g, 0, none⟩) H.length cap) (.int .i64 0) K w' Q = K (.pointer (some ⟨g, 0, none⟩)) w' Q := fun {K w' Q} => ia_E (i := 0) h0
      have hlim := @limN_le n
      obtain ⟨okR, okn⟩ := hM.ok H[0] (List.getElem_mem h0)
      obtain ⟨r1, r2, r3, r4⟩ := rrB_t.1 okR
      have hbd := bh_bd r1 H[0].a (T + 1)
      have hnx : T ≤ H[0].nx ∧ H[0].nx ≤ T + 1099511627776 := by
        rcases okn with e | ⟨_, e, _⟩ <;> omega
      have hTb : T ≤ 1154047404513689600 := by
        have : (acc.length : Int) * 1099511627776 ≤ 1000 * 1099511627776 := by omega
        omega
      have e1 : IntKind.i64.wrap (H[0].nx + H[0].e) = H[0].nx + H[0].e := w64 (by omega) (by omega)
      -- from the hand's going on
      have key : ∀ (w1 : World) (ov1 : Value) (acc1 : List Int) (T1 : Int) (o1 : Bool), Below W.heap.size W w1 → QH W.heap.size w1 p (.slice (some ⟨g, 0, none⟩) H.length cap) H → ownI W.heap.size 2 .i64 w1 ov1 acc1 → w1.heap[g]? = some (.cells cur 58 (0, 0)) →
          MI l T1 o1 (Hp.fix ltH (H.set 0 (go1 H[0])) 0 H.length) → lastIs T1 o1 acc1 → acc1.length ≤ limN n → (limN n - acc1.length) * 21 + atT T1 (Hp.fix ltH (H.set 0 (go1 H[0])) 0 H.length) < m →
          -1152921504606846977 ≤ T1 → T1 ≤ 1152921504606846976 + acc1.length * 1099511627776 →
          acc1 ++ mr l (limN n - acc1.length) T1 = acc ++ mr l (limN n - acc.length) T →
          f19_j6 (itr (fun _ _ _ => bot) (f19_b5 f19_j4) m) (.int .i64 n) (.pointer (some ⟨p, 0, none⟩)) ov1 (.pointer (some ⟨g, 0, none⟩)) w1 Q := by
        intro w1 ov1 acc1 T1 o1 b1 q1 ho1 hg1 hM1 hl1 ha1 hm1 ht0 ht1 he1
        unfold f19_j6
        have b1 : Below W.heap.size W (drw w1) := Below_drw b1
        have q1 := q1.drw
        have ho1 : ownI W.heap.size 2 .i64 (drw w1) ov1 acc1 := ownI_drw ho1
        have hg1 : (drw w1).heap[g]? = some (.cells cur 58 (0, 0)) := hg1
        have k0 : w1.cell? ⟨g, 0, none⟩ = some (.int .i64 H[0].e) := by
          have := cell_of_blk (n := 0) hg1
          rw [gt 0 (by decide)] at this
          exact this
        have k2 : w1.cell? ⟨g, 2, none⟩ = some (.int .i64 H[0].nx) := by
          have := cell_of_blk (n := 2) hg1
          rw [gt 2 (by decide)] at this
          exact this
        have n0 : (⟨g, 0, none⟩ : Addr).add 0 = ⟨g, 0, none⟩ := rfl
        have n2 : (⟨g, 0, none⟩ : Addr).add 2 = ⟨g, 2, none⟩ := rfl
        rw [dr_q]
        simp only [↓reduceIte, ↓LL, LM, Value.cells, Nat.reduceAdd, Option.some.injEq, exists_eq_left', decide_true, decide_false, if_true, if_false, reduceCtorEq, cond_true, cond_false, k0, k2, n0, n2, e1]
        generalize drw w1 = w2 at *
        refine st_box hg1 (by omega) rfl fun w3 hg3 u3 => ?_
        have q3 : QH W.heap.size w3 p (.slice (some ⟨g, 0, none⟩) H.length cap) (H.set 0 (go1 H[0])) := by
          refine ⟨?_, ?_, q1.bp⟩
          · rw [u3.block p (q1.ne g rfl)]; exact q1.hp
          · refine ownE_put (o := 2) (cs := [.int .i64 (H[0].nx + H[0].e)]) encH_len q1.own h0 (by simp) rfl (fun g' cur' z1 z2 => ?_)
            cases z1
            rw [hg1] at z2; cases z2
            exact ⟨_, hg3, by rw [ovl_one (by simp; omega)]; simp⟩
        have c13 : ChgS (fpH p (.slice (some ⟨g, 0, none⟩) H.length cap)) w2 w3 := ChgS.of_upd u3 (.inr rfl)
        have o3 := keepI ho1 q1 c13
        have b3 : Below W.heap.size W w3 := b1.trans (u3.below hgB)
        rw [mif_e, cl_e]
        refine fix_s (i := 0) q3 (by simpa using h0) (by simp; omega) fun w4 q4 c4 => ?_
        rw [List.length_set] at q4
        have o4 := keepI o3 q3 c4
        have b4 : Below W.heap.size W w4 := b3.trans (c4.below (fun k hk => (q3.ge k hk).1) b3.size)
        refine ih T1 o1 _ acc1 ov1 w4 hm1 ha1 hl1 hM1 ?_ ht0 ht1 b4 q4 o4 ?_
        · rw [fix_len hM h0]; exact hH
        · rw [he1]; exact kk
      have hap : (o = false ∨ H[0].nx ≠ T) → sm Try.prog (Instr.buildSlice 44 1 #[(0, .int .i64 H[0].nx)]) (fun t79 => sm Try.prog (Builtin.append_ #[44, 44] 44 #[.slice op acc.length oc, t79]) fun t80 =>
          f19_j6 (itr (fun _ _ _ => bot) (f19_b5 f19_j4) m) (.int .i64 n) (.pointer (some ⟨p, 0, none⟩)) t80 (.pointer (some ⟨g, 0, none⟩))) (drw w) Q := by
        intro hT
        have hq := hq.drw
        have ho := ownI_drw ho
        have hb : Below W.heap.size W (drw w) := Below_drw hb
        have hg : (drw w).heap[g]? = some (.cells cur 58 (0, 0)) := hg
        clear g0 g2 cp
        generalize drw w = w at *
        obtain ⟨hbst, hM'⟩ := hM.take h0 hT
        have hq2 := bst_bd hbst
        refine ap_one slt44 ho (by omega) (by omega) hb.size fun v' w' o' b' _ q' => ?_
        have hgo : (Value.slice op acc.length oc).ownBlock ≠ some g := fun e => sepI ho hq g e (.inr rfl)
        have hpo : (Value.slice op acc.length oc).ownBlock ≠ some p := fun e => sepI ho hq p e (.inl rfl)
        have hg' := q' g _ hg hgo
        refine key w' v' (acc ++ [H[0].nx]) H[0].nx true (hb.trans b') ⟨q' p _ hq.hp hpo, ownE_stay hq.own (fun g' hg'' => by cases hg''; rw [hg', hg]), hq.bp⟩ o' hg' hM' ⟨fun _ => ⟨acc, rfl⟩, fun e => by cases e⟩ ?_ ?_ (by omega) ?_ ?_
        · simp; omega
        · have := atT_le H[0].nx (Hp.fix ltH (H.set 0 (go1 H[0])) 0 H.length)
          rw [fix_len hM h0] at this
          simp only [List.length_append, List.length_singleton]
          omega
        · simp only [List.length_append, List.length_singleton]
          push_cast
          omega
        · obtain ⟨k, hk⟩ : ∃ k, limN n - acc.length = k + 1 := ⟨limN n - acc.length - 1, by omega⟩
          have hk' : limN n - (acc ++ [H[0].nx]).length = k := by simp; omega
          rw [hk, hk']
          conv => rhs; unfold mr
          rw [hbst]
          simp
      simp only [↓reduceIte, ↓LL, LM, Value.cells, Nat.reduceAdd, Option.some.injEq, exists_eq_left', decide_true, decide_false, if_true, if_false, reduceCtorEq, cond_true, cond_false, c0, c1, hia, cp]
      cases o with
      | false =>
        have : acc = [] := hla.2 rfl
        subst this
        simp only [↓reduceIte, ↓LL, LM, Value.cells, Nat.reduceAdd, Option.some.injEq, exists_eq_left', decide_true, decide_false, if_true, if_false, reduceCtorEq, cond_true, cond_false, List.length_nil, show (((0 : Nat) : Int) = 0) from rfl, hia, g2]
        exact hap (.inl rfl)
      | true =>
        obtain ⟨a, ha⟩ := hla.1 rfl
        have hal1 : acc.length = a.length + 1 := by rw [ha]; simp
        obtain ⟨g', rfl, hg'B, hg'l⟩ := hop (by rw [ha]; simp)
        have hcl := ownI_cell ho a.length (by omega)
        have hlT : acc[a.length]'(by omega) = T := by simp [ha]
        rw [hlT] at hcl
        have e2 : IntKind.i64.wrap ((acc.length : Int) - 1) = (a.length : Int) := by rw [w64 (by omega) (by omega)]; omega
        have hia2 : ∀ {K : Value → M} {w' : World} {Q : Value → World → Prop}, ia 1 (.slice (some ⟨g', 0, none⟩) acc.length oc) (.int .i64 (a.length : Int)) K w' Q = K (.pointer (some ⟨g', a.length, none⟩)) w' Q := fun {K w' Q} => ia_at (by omega)
        have c3 : ¬ (acc.length : Int) = 0 := by omega
        have n2 : (⟨g, 0, none⟩ : Addr).add 2 = ⟨g, 2, none⟩ := rfl
        by_cases c4 : T = H[0].nx
        · simp only [↓reduceIte, ↓LL, LM, Value.cells, Nat.reduceAdd, Option.some.injEq, exists_eq_left', decide_true, decide_false, if_true, if_false, reduceCtorEq, cond_true, cond_false, c3, e2, hia2, hcl, g2, n2, c4, ne_eq, not_true_eq_false]
          obtain ⟨hM', hat⟩ := hM.skip h0 c4.symm
          exact key (drw w) _ acc T true (Below_drw hb) hq.drw (ownI_drw ho) hg hM' hla hal (by omega) hT0 hT1 rfl
        · simp only [↓reduceIte, ↓LL, LM, Value.cells, Nat.reduceAdd, Option.some.injEq, exists_eq_left', decide_true, decide_false, if_true, if_false, reduceCtorEq, cond_true, cond_false, c3, e2, hia2, hcl, g2, n2, c4, ne_eq, not_false_eq_true]
          exact hap (.inr (Ne.symm c4))
    · have c1 : ¬ (acc.length : Int) < if 1000 < n then 1000 else n := fun h => hlt (limN_lt.1 (by split at h <;> omega))
      have : limN n - acc.length = 0 := by omega
      rw [this] at kk
      simp only [↓reduceIte, ↓LL, LM, Value.cells, Nat.reduceAdd, Option.some.injEq, exists_eq_left', decide_true, decide_false, if_true, if_false, reduceCtorEq, cond_true, cond_false, c0, c1]
      unfold f19_j4
      rw [rt_e]
      refine kk w _ hb ?_
      unfold mr
      rw [List.append_nil]; exact ho
theorem f19_s {v : Value} (hr : rdS 2 (eR encR) W v l) (hl : l.length ≤ 20) (kk : ∀ w' ov, Below W.heap.size W w' → ownI W.heap.size 2 .i64 w' ov (if nearB fr = true then mr l (limN n) (fr - 1) else []) → Q ov w') : f19 v (.int .i64 fr) (.int .i64 n) W Q := by
  unfold f19
  rw [cl_e]
  refine f22_s _ _ _ ?_
  cases hN : nearB fr with
  | false =>
    simp only [↓reduceIte, ↓LL, LM, Value.cells, Nat.reduceAdd, Option.some.injEq, exists_eq_left', decide_true, decide_false, if_true, if_false, reduceCtorEq, cond_true, cond_false]
    refine kk W _ (Below.refl _ _) ?_
    rw [hN]
    exact ownI_nil
  | true =>
    have hn := nearB_t.1 hN
    rw [if_pos hN] at kk
    simp only [↓reduceIte, ↓LL, LM, Value.cells, Nat.reduceAdd, Option.some.injEq, exists_eq_left', decide_true, decide_false, if_true, if_false, reduceCtorEq, cond_true, cond_false]
    refine ⟨_, _, bs0 slt56, ?_⟩
    have b1 := b_psh W (.cells #[] 58)
    have o1 : ownE W.heap.size 58 3 encH (psh W (.cells #[] 58)) (.slice (some ⟨W.heap.size, 0, none⟩) 0 0) ([] : List Hd) := ⟨by simp, .inr ⟨W.heap.size, 0, #[], rfl, Nat.le_refl _, blk_psh_new, Nat.le_refl _, by unfold maxLen; omega, by simp, by simp⟩⟩
    generalize psh W (.cells #[] 58) = w1 at *
    have hp2 := blk_psh_new (w := w1) (o := .cells #[.slice (some ⟨W.heap.size, 0, none⟩) 0 0] 56)
    have hb2 := b_psh w1 (.cells #[.slice (some ⟨W.heap.size, 0, none⟩) 0 0] 56)
    have o2 := ownE_below o1 hb2
    have b2 := bt b1 hb2
    show bx 56 _ _ w1 Q
    rw [bx_e]
    show lnl v _ (psh w1 (.cells #[.slice (some ⟨W.heap.size, 0, none⟩) 0 0] 56)) Q
    generalize psh w1 (.cells #[.slice (some ⟨W.heap.size, 0, none⟩) 0 0] 56) = w2 at *
    refine lnl_S hr ?_
    have hr2 := rdS_below eR_st b2 hr
    have hq2 : QH W.heap.size w2 w1.heap.size (.slice (some ⟨W.heap.size, 0, none⟩) 0 0) (handsOf fr (l.take 0)) := ⟨hp2, o2, b1.size⟩
    rw [jn_e]
    refine ⟨_, hands_loop (W := W) (B := W.heap.size) f19_j1 hr hl hn.1 hn.2 (Nat.le_refl _) l.length 0 _ w2 (by omega) b2 hq2 ?_ ?_⟩
    · rintro k (rfl | hk)
      · exact b1.size
      · cases hk; exact Nat.le_refl _
    · intro w3 hv3 b3 q3 hf3
      unfold f19_j1
      rw [mif_e, cl_e]
      have hH := handsOf_len fr l
      refine init_s q3 (by omega) fun w4 H q4 hp4 pm4 c4 => ?_
      have b4 : Below W.heap.size W w4 := b3.trans (c4.below hf3 b3.size)
      rw [jn_e]
      have hM : MI l (fr - 1) false H := by
        refine ⟨hp4, (pm4.map _).trans (List.Perm.of_eq ?_), fun h hh => ?_⟩
        · unfold handsOf
          rw [List.map_map]
          conv => rhs; rw [← List.map_id (rightL l)]
          rfl
        · have hh := pm4.mem_iff.1 hh
          unfold handsOf at hh
          obtain ⟨r, hr, rfl⟩ := List.mem_map.1 hh
          refine ⟨(List.mem_filter.1 hr).2, .inl ?_⟩
          show bh r.1 r.2 fr = bh r.1 r.2 (fr - 1 + 1)
          rw [show fr - 1 + 1 = fr from by omega]
      refine ⟨_, merge_loop (W := W) _ (fr - 1) false H [] (.slice none 0 0) w4 (Nat.lt_succ_self _) (Nat.zero_le _) ⟨(fun e => by cases e), fun _ => rfl⟩ hM (by rw [pm4.length_eq]; omega) (by omega) (by simp; omega) b4 q4 ownI_nil ?_⟩
      intro w5 ov b5 o5
      exact kk w5 ov b5 (by simpa using o5)
end
end Go.Proofs.Ytnckcgpmidgggaa

namespace Go.Proofs.Ytnckcgpmidgggaa
open Sh RowKit

section
variable {W : World} {Q : Value → World → Prop} {v nv ov : Value} {l : List (Int × Int)} {T : Int}
def bV (o : Option Int) : Value := .int .i64 (o.getD 0)
def tV (o : Option Int) : Value := .bool o.isSome
theorem best_loop (j3 : Value → Value → Value → Value → Value → M) (hr : rdS 2 (eR encR) W v l) (hl : l.length ≤ 20) (h0 : -1152921504606846977 ≤ T) (h1 : T ≤ 1154047404513689600)
    : ∀ (m i : Nat) (o : Option Int) (w : World), i + m = l.length → Below W.heap.size W w → o = (l.take i).foldl (bstS T) none →
    (∀ w', Below W.heap.size W w' → j3 v nv ov (bV (bst l T)) (tV (bst l T)) w' Q) →
    itr (fun _ _ _ _ _ _ _ => bot) (f21_b4 j3) (m + 1) v nv ov (.int .i64 T) (bV o) (tV o) (.int .i64 (i : Int)) w Q := by
  intro m
  induction m with
  | zero =>
    intro i o w hi hb ho kk
    show f21_b4 _ _ _ _ _ _ _ _ _ w Q
    unfold f21_b4
    refine lnl_S hr ?_
    have c1 : ¬ (i : Int) < (l.length : Int) := by omega
    simp only [↓reduceIte, ↓LL, LM, Value.cells, Nat.reduceAdd, Option.some.injEq, exists_eq_left', decide_true, decide_false, if_true, if_false, reduceCtorEq, cond_true, cond_false, c1]
    rw [List.take_of_length_le (by omega)] at ho
    have : o = bst l T := ho
    rw [this]
    exact kk w hb
  | succ m ih =>
    intro i o w hi hb ho kk
    have hil : i < l.length := by omega
    show f21_b4 _ _ _ _ _ _ _ _ _ w Q
    unfold f21_b4
    obtain ⟨a, es, e1, e2, e3, e4⟩ := rdS_at hr hil
    have e3 : es = encR l[i] := e3
    subst e3
    refine lnl_S hr ?_
    have c1 : (i : Int) < (l.length : Int) := by omega
    simp only [↓reduceIte, ↓LL, LM, Value.cells, Nat.reduceAdd, Option.some.injEq, exists_eq_left', decide_true, decide_false, if_true, if_false, reduceCtorEq, cond_true, cond_false, c1, e4]
    refine ldn_at (cellsAt_below hb e2) e1 ?_
    rw [show (Value.agg (encR l[i]).toArray) = rdV l[i].1 l[i].2 from rfl, cl_e]
    refine f12_s _ _ _ _ fun w1 hb1 => ?_
    have b1 := bt hb hb1
    have e5 : IntKind.i64.wrap ((i : Int) + 1) = ((i + 1 : Nat) : Int) := by rw [w64 (by omega) (by omega)]; omega
    have nxt : ∀ (o' : Option Int) (w' : World), Below W.heap.size W w' → o' = bstS T o l[i] → f21_j5 (itr (fun _ _ _ _ _ _ _ => bot) (f21_b4 j3) (m + 1)) v nv ov (.int .i64 T) (bV o') (tV o') (.int .i64 (i : Int)) w' Q := by
      intro o' w' b' h'
      unfold f21_j5
      simp only [↓reduceIte, ↓LL, LM, Value.cells, Nat.reduceAdd, Option.some.injEq, exists_eq_left', decide_true, decide_false, if_true, if_false, reduceCtorEq, cond_true, cond_false, e5]
      refine ih (i + 1) o' w' (by omega) b' ?_ kk
      rw [h', List.take_succ_eq_append_getElem hil, List.foldl_append, ho]
      rfl
    cases hR : rrB l[i].1 l[i].2 with
    | false =>
      simp only [↓reduceIte, ↓LL, LM, Value.cells, Nat.reduceAdd, Option.some.injEq, exists_eq_left', decide_true, decide_false, if_true, if_false, reduceCtorEq, cond_true, cond_false]
      refine nxt o w1 b1 ?_
      unfold bstS
      rw [hR]; rfl
    | true =>
      obtain ⟨r1, r2, r3, r4⟩ := rrB_t.1 hR
      have cA : w1.cell? (a.add 1) = some (.int .i64 l[i].2) := cellsAt_get (cellsAt_below b1 e2) rfl
      have cE : w1.cell? (a.add 0) = some (.int .i64 l[i].1) := cellsAt_get (cellsAt_below b1 e2) rfl
      obtain ⟨r, z0, z1, z2, z3⟩ := tm_case r1 l[i].2 T
      have e6 : IntKind.i64.wrap (T - l[i].2) = T - l[i].2 := w64' (by omega) (by omega)
      have hne : ¬ l[i].1 = 0 := by omega
      have e7 : IntKind.i64.wrap (T - (T - l[i].2).tmod l[i].1) = T - (T - l[i].2).tmod l[i].1 := w64' (by omega) (by omega)
      simp only [↓reduceIte, ↓LL, LM, Value.cells, Nat.reduceAdd, Option.some.injEq, exists_eq_left', decide_true, decide_false, if_true, if_false, reduceCtorEq, cond_true, cond_false, e4, cA, cE, e6, e7, ne_eq, hne, not_false_eq_true, true_and]
      have cE' : (drw w1).cell? (a.add 0) = some (.int .i64 l[i].1) := cE
      have b1 : Below W.heap.size W (drw w1) := Below_drw b1
      generalize drw w1 = w2 at *
      have fin : ∀ x, x = bh l[i].1 l[i].2 (T + 1) → f21_j6 (f21_j5 (itr (fun _ _ _ _ _ _ _ => bot) (f21_b4 j3) (m + 1))) v nv ov (.int .i64 T) (bV o) (tV o) (.int .i64 (i : Int)) (.int .i64 x) w2 Q := by
        intro x hx
        unfold f21_j6
        have hn2 : bstS T o l[i] = match o with | none => some (bh l[i].1 l[i].2 (T + 1)) | some y => if bh l[i].1 l[i].2 (T + 1) < y then some (bh l[i].1 l[i].2 (T + 1)) else some y := by
          unfold bstS; rw [hR]; rfl
        cases o with
        | none =>
          simp only [↓reduceIte, ↓LL, LM, Value.cells, Nat.reduceAdd, Option.some.injEq, exists_eq_left', decide_true, decide_false, if_true, if_false, reduceCtorEq, cond_true, cond_false, bV, tV, Option.isSome, Option.getD]
          refine nxt (some x) w2 b1 ?_
          rw [hn2, hx]
        | some y =>
          simp only [↓reduceIte, ↓LL, LM, Value.cells, Nat.reduceAdd, Option.some.injEq, exists_eq_left', decide_true, decide_false, if_true, if_false, reduceCtorEq, cond_true, cond_false, bV, tV, Option.isSome, Option.getD]
          by_cases c : x < y
          · simp only [↓reduceIte, ↓LL, LM, Value.cells, Nat.reduceAdd, Option.some.injEq, exists_eq_left', decide_true, decide_false, if_true, if_false, reduceCtorEq, cond_true, cond_false, c]
            refine nxt (some x) w2 b1 ?_
            rw [hn2]
            show _ = if _ then _ else _
            rw [← hx, if_pos c]
          · simp only [↓reduceIte, ↓LL, LM, Value.cells, Nat.reduceAdd, Option.some.injEq, exists_eq_left', decide_true, decide_false, if_true, if_false, reduceCtorEq, cond_true, cond_false, c]
            refine nxt (some y) w2 b1 ?_
            rw [hn2]
            show _ = if _ then _ else _
            rw [← hx, if_neg c]
      refine ⟨2, ?_⟩
      show f21_b7 _ _ _ _ _ _ _ _ _ _ w2 Q
      unfold f21_b7
      rcases z3 with z3 | ⟨z3, z4⟩
      · have c2 : T - r ≤ T := by omega
        have e3 : IntKind.i64.wrap (T - r + l[i].1) = T - r + l[i].1 := w64' (by omega) (by omega)
        simp only [↓reduceIte, ↓LL, LM, Value.cells, Nat.reduceAdd, Option.some.injEq, exists_eq_left', decide_true, decide_false, if_true, if_false, reduceCtorEq, cond_true, cond_false, z3, c2, e4, cE', e3]
        show f21_b7 _ _ _ _ _ _ _ _ _ _ w2 Q
        unfold f21_b7
        have c3 : ¬ T - r + l[i].1 ≤ T := by omega
        simp only [↓reduceIte, ↓LL, LM, Value.cells, Nat.reduceAdd, Option.some.injEq, exists_eq_left', decide_true, decide_false, if_true, if_false, reduceCtorEq, cond_true, cond_false, c3]
        exact fin _ z2.symm
      · have c2 : ¬ T - (r - l[i].1) ≤ T := by omega
        simp only [↓reduceIte, ↓LL, LM, Value.cells, Nat.reduceAdd, Option.some.injEq, exists_eq_left', decide_true, decide_false, if_true, if_false, reduceCtorEq, cond_true, cond_false, z3, c2]
        exact fin _ (by omega)
end
section
variable {W : World} {Q : Value → World → Prop} {v : Value} {l : List (Int × Int)} {n fr : Int} {B : Nat}
theorem doc_loop (hr : rdS 2 (eR encR) W v l) (hl : l.length ≤ 20) : ∀ (m : Nat) (T : Int) (acc : List Int) (ov : Value) (w : World), limN n - acc.length < m → acc.length ≤ limN n →
    -1152921504606846977 ≤ T → T ≤ 1152921504606846976 + acc.length * 1099511627776 → Below W.heap.size W w → ownI W.heap.size 2 .i64 w ov acc →
    (∀ w' ov', Below W.heap.size W w' → ownI W.heap.size 2 .i64 w' ov' (acc ++ mr l (limN n - acc.length) T) → Q ov' w') →
    itr (fun _ _ _ _ => bot) (f21_b2 f21_j1) m v (.int .i64 n) ov (.int .i64 T) w Q := by
  intro m
  induction m with
  | zero => intro T acc ov w h; omega
  | succ m ih =>
    intro T acc ov w hm hal hT0 hT1 hb ho kk
    show f21_b2 _ _ _ _ _ _ w Q
    unfold f21_b2
    obtain ⟨op, oc, rfl, hop⟩ := ownI_len ho
    have hlim := @limN_le n
    by_cases hlt : acc.length < limN n
    · have c1 : (acc.length : Int) < if 1000 < n then 1000 else n := by have := limN_lt.2 hlt; split <;> omega
      have hTb : T ≤ 1154047404513689600 := by
        have : (acc.length : Int) * 1099511627776 ≤ 1000 * 1099511627776 := by omega
        omega
      simp only [↓reduceIte, ↓LL, LM, Value.cells, Nat.reduceAdd, Option.some.injEq, exists_eq_left', decide_true, decide_false, if_true, if_false, reduceCtorEq, cond_true, cond_false, c1]
      refine ⟨_, best_loop (W := w) (nv := .int .i64 n) (ov := .slice op acc.length oc) (T := T) _ (rdS_below eR_st hb hr) hl hT0 hTb l.length 0 none w (by omega) (Below.refl _ _) rfl fun w1 hb1 => ?_⟩
      have b1 := bt hb hb1
      have o1 := ownI_below ho hb1
      obtain ⟨k, hk⟩ : ∃ k, limN n - acc.length = k + 1 := ⟨limN n - acc.length - 1, by omega⟩
      rw [hk] at kk
      unfold mr at kk
      unfold f21_j3
      cases hbst : bst l T with
      | none =>
        rw [hbst] at kk
        simp only [↓reduceIte, ↓LL, LM, Value.cells, Nat.reduceAdd, Option.some.injEq, exists_eq_left', decide_true, decide_false, if_true, if_false, reduceCtorEq, cond_true, cond_false, tV, bV, Option.isSome, Option.getD]
        unfold f21_j1
        rw [rt_e]
        exact kk w1 _ b1 (by simpa using o1)
      | some N =>
        rw [hbst] at kk
        have hN := bst_bd hbst
        simp only [↓reduceIte, ↓LL, LM, Value.cells, Nat.reduceAdd, Option.some.injEq, exists_eq_left', decide_true, decide_false, if_true, if_false, reduceCtorEq, cond_true, cond_false, tV, bV, Option.isSome, Option.getD]
        refine ap_one slt44 o1 (by omega) (by omega) b1.size fun v' w' o' b' _ q' => ?_
        refine ih N (acc ++ [N]) v' w' ?_ ?_ (by omega) ?_ (b1.trans b') o' ?_
        · simp; omega
        · simp; omega
        · simp only [List.length_append, List.length_singleton]
          push_cast
          omega
        · intro w'' ov'' b'' o''
          refine kk w'' ov'' b'' ?_
          have hk' : limN n - (acc ++ [N]).length = k := by simp; omega
          rw [hk'] at o''
          simpa using o''
    · have c1 : ¬ (acc.length : Int) < if 1000 < n then 1000 else n := fun h => hlt (limN_lt.1 (by split at h <;> omega))
      have : limN n - acc.length = 0 := by omega
      rw [this] at kk
      simp only [↓reduceIte, ↓LL, LM, Value.cells, Nat.reduceAdd, Option.some.injEq, exists_eq_left', decide_true, decide_false, if_true, if_false, reduceCtorEq, cond_true, cond_false, c1]
      unfold f21_j1
      rw [rt_e]
      refine kk w _ hb ?_
      unfold mr
      rw [List.append_nil]; exact ho
theorem f21_s (hr : rdS 2 (eR encR) W v l) (hl : l.length ≤ 20) (kk : ∀ w' ov, Below W.heap.size W w' → ownI W.heap.size 2 .i64 w' ov (if nearB fr = true then mr l (limN n) (fr - 1) else []) → Q ov w') : f21 v (.int .i64 fr) (.int .i64 n) W Q := by
  unfold f21
  rw [cl_e]
  refine f24_s _ _ _ ?_
  cases hN : nearB fr with
  | false =>
    simp only [↓reduceIte, ↓LL, LM, Value.cells, Nat.reduceAdd, Option.some.injEq, exists_eq_left', decide_true, decide_false, if_true, if_false, reduceCtorEq, cond_true, cond_false]
    refine kk W _ (Below.refl _ _) ?_
    rw [hN]
    exact ownI_nil
  | true =>
    have hn := nearB_t.1 hN
    rw [if_pos hN] at kk
    have e1 : IntKind.i64.wrap (fr - 1) = fr - 1 := w64 (by omega) (by omega)
    simp only [↓reduceIte, ↓LL, LM, Value.cells, Nat.reduceAdd, Option.some.injEq, exists_eq_left', decide_true, decide_false, if_true, if_false, reduceCtorEq, cond_true, cond_false, e1]
    refine ⟨_, doc_loop (W := W) hr hl _ (fr - 1) [] (.slice none 0 0) W (Nat.lt_succ_self _) (Nat.zero_le _) (by omega) (by simp; omega) (Below.refl _ _) ownI_nil ?_⟩
    intro w5 ov b5 o5
    exact kk w5 ov b5 (by simpa using o5)
/-- two rows of whole numbers compared -/
theorem cmp_loop {A : World} {x y : Value} {k : List Int} (hx : rdI .i64 A x k) (hy : rdI .i64 A y k) (hk : k.length ≤ 1000) : ∀ (m i : Nat) (w : World), i + m = k.length → Below A.heap.size A w → (∀ w', Below A.heap.size A w' → Q (.bool true) w') →
    itr (fun _ _ _ => bot) (f6_b2 f6_j1) (m + 1) x y (.int .i64 (i : Int)) w Q := by
  intro m
  have hx0 := hx
  obtain ⟨px, cx, rfl, hxc⟩ := hx
  induction m with
  | zero =>
    intro i w hi hb kk
    show f6_b2 _ _ _ _ _ w Q
    unfold f6_b2
    have c1 : ¬ (i : Int) < (k.length : Int) := by omega
    simp only [↓reduceIte, ↓LL, LM, Value.cells, Nat.reduceAdd, Option.some.injEq, exists_eq_left', decide_true, decide_false, if_true, if_false, reduceCtorEq, cond_true, cond_false, c1]
    unfold f6_j1
    rw [rt_e]
    exact kk w hb
  | succ m ih =>
    intro i w hi hb kk
    show f6_b2 _ _ _ _ _ w Q
    unfold f6_b2
    have hil : i < k.length := by omega
    have c1 : (i : Int) < (k.length : Int) := by omega
    have e5 : IntKind.i64.wrap ((i : Int) + 1) = ((i + 1 : Nat) : Int) := by rw [w64 (by omega) (by omega)]; omega
    simp only [↓reduceIte, ↓LL, LM, Value.cells, Nat.reduceAdd, Option.some.injEq, exists_eq_left', decide_true, decide_false, if_true, if_false, reduceCtorEq, cond_true, cond_false, c1]
    have hbd : Below A.heap.size A (drw w) := Below_drw hb
    refine ia_ld (rdI_below hbd hx0) (by omega) (by omega) fun _ => ?_
    try simp only [↓reduceIte, ↓LL, LM, Value.cells, Nat.reduceAdd, Option.some.injEq, exists_eq_left', decide_true, decide_false, if_true, if_false, reduceCtorEq, cond_true, cond_false]
    refine ia_ld (rdI_below hbd hy) (by omega) (by omega) fun _ => ?_
    have e6 : (i : Int).toNat = i := Int.toNat_natCast i
    simp only [↓reduceIte, ↓LL, LM, Value.cells, Nat.reduceAdd, Option.some.injEq, exists_eq_left', decide_true, decide_false, if_true, if_false, reduceCtorEq, cond_true, cond_false, e6, ne_eq, not_true_eq_false, e5]
    exact ih (i + 1) _ (by omega) hbd kk
theorem f6_s (hr : rdS 2 (eR encR) W v l) (kk : ∀ w', Below W.heap.size W w' → Q (.bool true) w') : f6 v (.int .i64 fr) (.int .i64 n) W Q := by
  unfold f6
  rw [cl_e]
  refine f7_s _ _ fun w1 b1 => ?_
  simp only [↓reduceIte, ↓LL, LM, Value.cells, Nat.reduceAdd, Option.some.injEq, exists_eq_left', decide_true, decide_false, if_true, if_false, reduceCtorEq, cond_true, cond_false]
  refine lnl_S hr ?_
  have e1 : (if (20 : Int) < (l.length : Int) then (20 : Int) else (l.length : Int)) = ((min l.length 20 : Nat) : Int) := by split <;> omega
  simp only [↓reduceIte, ↓LL, LM, Value.cells, Nat.reduceAdd, Option.some.injEq, exists_eq_left', decide_true, decide_false, if_true, if_false, reduceCtorEq, cond_true, cond_false, e1]
  refine sll_S (rdS_below eR_st b1 hr) (Nat.min_le_left _ _) fun v' hr' => ?_
  have hlen : (l.take (min l.length 20)).length ≤ 20 := by rw [List.length_take]; omega
  generalize l.take (min l.length 20) = k at *
  rw [cl_e]
  refine f20_s hr' hlen fun w2 av b2 o2 => ?_
  rw [cl_e]
  refine f19_s (W := w2) (ownE_rd encR_len (by decide) o2) hlen fun w3 xv b3 o3 => ?_
  rw [cl_e]
  have b13 := bt b2 b3
  refine f21_s (W := w3) (rdS_below eR_st b13 hr') hlen fun w4 yv b4 o4 => ?_
  have o3 := ownI_below o3 b4
  have b14 := bt b1 (bt b13 b4)
  have hlm : (if nearB fr = true then mr k (limN n) (fr - 1) else []).length ≤ 1000 := by
    split
    · exact Nat.le_trans (mr_len _ _) limN_le
    · simp
  generalize (if nearB fr = true then mr k (limN n) (fr - 1) else []) = z at *
  have rx := ownI_rd o3
  have ry := ownI_rd o4
  refine lnl_rd rx ?_
  refine lnl_rd ry ?_
  simp only [↓reduceIte, ↓LL, LM, Value.cells, Nat.reduceAdd, Option.some.injEq, exists_eq_left', decide_true, decide_false, if_true, if_false, reduceCtorEq, cond_true, cond_false, ne_eq, not_true_eq_false]
  exact ⟨_, cmp_loop rx ry hlm z.length 0 w4 (by omega) (Below.refl _ _) fun w5 b5 => kk w5 (bt b14 b5)⟩
end
end Go.Proofs.Ytnckcgpmidgggaa

namespace Go.Proofs.Ytnckcgpmidgggaa
namespace Sh
open RowKit
section
variable {H : Type} {enc : TypeId × Value → H} {P : Program}
theorem trodAll_below (hl : laidOutB P = true) {W W' : World} (hb : Below W.heap.size W W') : ∀ (ts : List TypeId) (vs : List Value) (ds : List (DataW H)) (ps : List MemPlace),
    (∀ t ∈ ts, P.readableRec t = true ∧ t < P.types.size) → DataW.TrodAll enc P W 0 (fun _ => true) true ts vs ds ps → (∀ x ∈ ps, x.block < W.heap.size) →
    DataW.TrodAll enc P W' 0 (fun b => decide (b < W.heap.size)) true ts vs ds ps := by
  intro ts
  induction ts with
  | nil =>
    intro vs ds ps _ h _
    match vs, ds, h with
    | [], [], h => exact h
  | cons t ts ih =>
    intro vs ds ps ht h hp
    match vs, ds, h with
    | v :: vs, d :: ds, ⟨p, q, h1, h2, h3⟩ =>
      subst h3
      exact ⟨p, q, Below.trod hl (ht t (by simp)).1 (ht t (by simp)).2 h1 hb (fun x hx => hp x (by simp [hx])), ih vs ds q (fun u hu => ht u (by simp [hu])) h2 (fun x hx => hp x (by simp [hx])), rfl⟩
theorem trodAll_len : ∀ (ts : List TypeId) (vs : List Value) (ds : List (DataW H)) (ps : List MemPlace) {W : World}, DataW.TrodAll enc P W 0 (fun _ => true) true ts vs ds ps → ds.length = ts.length := by
  intro ts
  induction ts with
  | nil => intro vs ds ps W h; match vs, ds, h with | [], [], h => rfl
  | cons t ts ih => intro vs ds ps W h; match vs, ds, h with | v :: vs, d :: ds, ⟨p, q, h1, h2, h3⟩ => simp [ih vs ds q h2]
theorem law_post {fn : Func} {s : ChangeSpec} {apart : Bool} {W W' : World} {args : Array Value} {ds gs : List (DataW H)} {before : List MemPlace} {tb : TypeId} (hv : s.vars = []) (hl : laidOutB P = true)
    (hp : ∀ t ∈ fn.params.toList, P.readableRec t = true ∧ t < P.types.size) (hr : fn.resultTypes = #[tb]) (hb : P.underlying tb = some .bool)
    (hs : ∀ ds : List (DataW H), ds.length = fn.params.toList.length → (s.fn H ds).results = [.lit (.bool true)] ∧ (s.fn H ds).args = ds ∧ (s.fn H ds).vars = [])
    (hW : DataW.Whole enc P fn.params.toList s.vars apart W args.toList ds gs before) (h : Below W.heap.size W W') :
    s.post enc P fn apart true false false W args (.bool true) W' := by
  have hW0 := hW
  obtain ⟨p, q, hA, hV, rfl, hfz, hnd⟩ := hW
  rw [hv] at hV
  have hg : gs = [] ∧ q = [] := by
    cases gs with
    | nil => exact ⟨rfl, hV⟩
    | cons g gs => exact hV.elim
  obtain ⟨rfl, rfl⟩ := hg
  obtain ⟨e1, e2, e3⟩ := hs ds (trodAll_len _ _ _ _ hA)
  refine ⟨ds, [], p ++ [], [], p, [], hW0, ?_, ?_, ?_, Below.frame h _, fun h => by cases h⟩
  · rw [hr, List.append_nil, e1]
    exact ⟨[], [], ⟨1, by simp [DataW.trod, hb, Value.cells]⟩, rfl, rfl⟩
  · rw [List.append_nil, e2]
    exact trodAll_below hl h _ _ _ _ hp hA (fun x hx => by have := hW0.lt x (by simp [hx]); simpa using this)
  · rw [List.append_nil, hv, e3]
    rfl
theorem law_lifted {C : Checked} {os : Os} {f : FuncId} {fn : Func} {s : ChangeSpec} {conds : List PathCond} {tb : TypeId}
    (own : ownKnob C.prog.godebug = none) (started : os.Started) (noInit : C.prog.inits.idxOf? f = none) (hfn : C.prog.funcs[f]? = some fn)
    (witness : ∃ (w : World) (tape : Tape) (i : Input), w.os = os ∧ (w.forCall tape i).Shaped C.prog ∧ i.vars = [] ∧ Input.okWide C.prog (w.forCall tape i) .any w.heap.size f i ∧
      s.pre6 enc C.prog fn conds false (w.forCall tape i).memory i.args ∧ ({} : Assume).holds C.prog (lone (Frame.enter C.prog f i.args .normal) [] (w.forCall tape i)))
    (hv : s.vars = []) (hl : laidOutB C.prog = true) (hp : fn.params.toList.all (fun t => C.prog.readableRec t && decide (t < C.prog.types.size)) = true) (hr : fn.resultTypes = #[tb]) (hb : C.prog.underlying tb = some .bool)
    (hs : ∀ ds : List (DataW H), ds.length = fn.params.toList.length → (s.fn H ds).results = [.lit (.bool true)] ∧ (s.fn H ds).args = ds ∧ (s.fn H ds).vars = [])
    (contract : ∀ (W : World) (base : Nat) (args : Array Value) (ds : List (DataW H)) (p : List MemPlace),
      (∀ (j : Nat) t v, fn.params[j]? = some t → args[j]? = some v → Value.okWide C.prog W .any base t v) →
      DataW.TrodAll enc C.prog W 0 (fun _ => true) true fn.params.toList args.toList ds p →
      (DataW.weightsEach C.prog fn.params.toList ds).all (· ≤ reachBytes) = true →
      Calls C.prog f args W (Rt fun v W' => v = .bool true ∧ Below W.heap.size W W')) :
    ReturnsInHanded {} C os f .any (s.pre6 enc C.prog fn conds false) (s.post enc C.prog fn false true false false) := by
  refine returnsInHanded_of_change_sized own started noInit hfn witness ?_
  intro W base args ds gs before hval hW _ hz _
  have hp' : ∀ t ∈ fn.params.toList, C.prog.readableRec t = true ∧ t < C.prog.types.size := fun t ht => by
    have := List.all_eq_true.1 hp t ht
    simpa using this
  obtain ⟨p, q, hA, hV, hq⟩ := hW
  have hW : DataW.Whole enc C.prog fn.params.toList s.vars false W args.toList ds gs before := ⟨p, q, hA, hV, hq⟩
  have hg : gs = [] := by
    rw [hv] at hV
    cases gs with
    | nil => rfl
    | cons g gs => exact hV.elim
  subst hg
  have hvt : s.plain.varTypes C.prog = [] := by
    simp [ChangeSpec.plain, DataSpec.varTypes, hv]
  rw [hvt, List.append_nil, List.append_nil] at hz
  refine (contract W base args ds p hval hA hz).mono fun e W' he => ?_
  cases e with
  | returned v =>
    obtain ⟨hv', hbel⟩ := he
    subst hv'
    exact ⟨_, rfl, law_post hv hl hp' hr hb hs hW hbel⟩
  | panicked c => exact he.elim
  | outgrown => exact he.elim
end
end Sh
end Go.Proofs.Ytnckcgpmidgggaa

namespace Go.Proofs.Ytnckcgpmidgggaa
namespace Sh
open RowKit ChangeShapes
/-- all arguments, told by R -/
def OpensA (P : Program) (ts : List TypeId) (α : Type) (R : World → List Value → α → Prop) (bulk : α → Nat) : Prop :=
  ∀ {H : Type} (enc : TypeId × Value → H) (W : World) (vs : List Value) (ds : List (DataW H)) (ps : List MemPlace) (base : Nat),
    (∀ (j : Nat) t v, ts[j]? = some t → vs[j]? = some v → Value.okWide P W .any base t v) →
    DataW.TrodAll enc P W 0 (fun _ => true) true ts vs ds ps → (DataW.weightsEach P ts ds).all (· ≤ reachBytes) = true → ∃ a, R W vs a ∧ bulk a ≤ Rows.uptoBulkAll ds
section
variable {P : Program}
theorem oa_nil : OpensA P [] Unit (fun _ vs _ => vs = []) (fun _ => 0) := by
  intro H enc W vs ds ps base hv h _
  match vs, ds, h with
  | [], [], _ => exact ⟨(), rfl, Nat.zero_le _⟩
theorem OpensA.mono {ts : List TypeId} {α β : Type} {R : World → List Value → α → Prop} {S : World → List Value → β → Prop} {b : α → Nat} {c : β → Nat} (h : OpensA P ts α R b)
    (f : ∀ W vs a, R W vs a → ∃ x, S W vs x ∧ c x ≤ b a) : OpensA P ts β S c := by
  intro H enc W vs ds ps base hv hd hw
  obtain ⟨a, h1, h2⟩ := h enc W vs ds ps base hv hd hw
  obtain ⟨y, h3, h4⟩ := f W vs a h1
  exact ⟨y, h3, Nat.le_trans h4 h2⟩
theorem oa_one {t : TypeId} {ts : List TypeId} {α β : Type} {R : RepT α} {S : World → List Value → β → Prop} {b : α → Nat} {c : β → Nat} (h : Opens P t α R b) (hs : isSc P t = true) (h1 : ∀ w cs a, R w cs a → ∃ v, cs = [v])
    (hr : OpensA P ts β S c) : OpensA P (t :: ts) (α × β) (fun w vs x => ∃ v r, vs = v :: r ∧ R w [v] x.1 ∧ S w r x.2) (fun x => b x.1 + c x.2) := by
  intro H enc W vs ds ps base hv hd hw
  match vs, ds, hd with
  | v :: vs, d :: ds, ⟨p, q, k1, k2, k3⟩ =>
    simp only [DataW.weightsEach, List.all_append, Bool.and_eq_true] at hw
    obtain ⟨a, e1, e2⟩ := open_one h hs h1 (hv 0 t v rfl rfl) k1 hw.1
    obtain ⟨a', e3, e4⟩ := hr enc W vs ds q base (fun j t v g1 g2 => hv (j + 1) t v g1 g2) k2 hw.2
    exact ⟨(a, a'), ⟨v, vs, rfl, e1, e3⟩, by simp only [Rows.uptoBulkAll]; omega⟩
end
section
variable {H : Type} {enc : TypeId × Value → H}
theorem law_from {C : Checked} {os : Os} {f : FuncId} {fn : Func} {s : ChangeSpec} {conds : List PathCond} {tb : TypeId} {α : Type} {R : World → List Value → α → Prop} {b : α → Nat}
    (own : ownKnob C.prog.godebug = none) (started : os.Started) (noInit : C.prog.inits.idxOf? f = none) (hfn : C.prog.funcs[f]? = some fn)
    (witness : ∃ (w : World) (tape : Tape) (i : Input), w.os = os ∧ (w.forCall tape i).Shaped C.prog ∧ i.vars = [] ∧ Input.okWide C.prog (w.forCall tape i) .any w.heap.size f i ∧
      s.pre6 enc C.prog fn conds false (w.forCall tape i).memory i.args ∧ ({} : Assume).holds C.prog (lone (Frame.enter C.prog f i.args .normal) [] (w.forCall tape i)))
    (hv : s.vars = []) (hl : laidOutB C.prog = true) (hp : fn.params.toList.all (fun t => C.prog.readableRec t && decide (t < C.prog.types.size)) = true) (hr : fn.resultTypes = #[tb]) (hb : C.prog.underlying tb = some .bool)
    (hs : ∀ ds : List (DataW H), ds.length = fn.params.toList.length → (s.fn H ds).results = [.lit (.bool true)] ∧ (s.fn H ds).args = ds ∧ (s.fn H ds).vars = [])
    (oa : OpensA C.prog fn.params.toList α R b)
    (law : ∀ (W : World) (vs : List Value) (a : α), R W vs a → Calls C.prog f vs.toArray W (Rt fun v W' => v = .bool true ∧ Below W.heap.size W W')) :
    ReturnsInHanded {} C os f .any (s.pre6 enc C.prog fn conds false) (s.post enc C.prog fn false true false false) := by
  refine law_lifted own started noInit hfn witness hv hl hp hr hb hs ?_
  intro W base args ds p hval hA hz
  obtain ⟨a, h1, _⟩ := oa enc W args.toList ds p base (fun j t v h1 h2 => hval j t v (by simpa using h1) (by simpa using h2)) hA hz
  exact law W args.toList a h1
end
end Sh
end Go.Proofs.Ytnckcgpmidgggaa

namespace Go.Proofs.Ytnckcgpmidgggaa
open Go.ChangeShapes Go.WideShapes Go.ChangeAt Go.RowKit
open Sh
theorem u2 : Try.prog.underlying 2 = some (.int .i64) := by kernel_rfl
theorem u3 : Try.prog.underlying 3 = some (.int .i64) := by kernel_rfl
theorem u43 : Try.prog.underlying 43 = some (.slice 23) := by kernel_rfl
theorem xsc43 : isSc Try.prog 43 = true := by kernel_rfl
theorem xsc2 : isSc Try.prog 2 = true := by kernel_rfl
theorem xsc3 : isSc Try.prog 3 = true := by kernel_rfl
theorem len2 {cs : List Value} (h : cs.length = 2) : ∃ a b, cs = [a, b] := by
  match cs, h with
  | [a, b], _ => exact ⟨a, b, rfl⟩
theorem one_cell {x y : Value} (h : [x] = [y]) : x = y := (List.cons.inj h).1
theorem op23 : Opens Try.prog 23 (Int × Int) (eR encR) (fun _ => 3) := by
  refine Opens.mono (op_struct Try.underlying23 (n := 2) (by kernel_rfl) (opf_cons (n := 1) (by kernel_rfl) (op_int u2) (opf_cons (n := 1) (by kernel_rfl) (op_int u2) opf_nil))) ?_
  rintro w cs ⟨a, b, ⟨⟩⟩ ⟨hl, ⟨h0, _⟩, ⟨h1, _⟩, -⟩
  obtain ⟨c0, c1, rfl⟩ := len2 hl
  have e0 := one_cell (x := c0) h0
  have e1 := one_cell (x := c1) h1
  exact ⟨⟨a, b⟩, by rw [e0, e1]; rfl, Nat.le_refl _⟩
def R6 : World → List Value → List (Int × Int) × Int × Int → Prop := fun W vs x => ∃ v, vs = [v, .int .i64 x.2.1, .int .i64 x.2.2] ∧ rdS 2 (eR encR) W v x.1
def b6 : List (Int × Int) × Int × Int → Nat := fun _ => 0
theorem oa6 : OpensA Try.prog [43, 2, 3] (List (Int × Int) × Int × Int) R6 b6 := by
  refine OpensA.mono (oa_one (op_slice u43 (n := 2) (by kernel_rfl) op23) xsc43 (fun w cs a h => ⟨_, h.choose_spec.1⟩) (oa_one (op_int u2) xsc2 (fun w cs a h => ⟨_, h.1⟩) (oa_one (op_int u3) xsc3 (fun w cs a h => ⟨_, h.1⟩) oa_nil))) ?_
  rintro W vs ⟨l, k, m, ⟨⟩⟩ ⟨v, r, rfl, ⟨v', hv, hr, hl⟩, v2, r2, rfl, ⟨h2, _⟩, v3, r3, rfl, ⟨h3, _⟩, rfl⟩
  exact ⟨(l, k, m), ⟨v, by rw [one_cell h2, one_cell h3], by rw [one_cell hv]; exact hr⟩, Nat.zero_le _⟩
theorem law6 (W : World) (vs : List Value) (a : List (Int × Int) × Int × Int) (h : R6 W vs a) : Calls Try.prog 6 vs.toArray W (Rt fun v W' => v = .bool true ∧ Below W.heap.size W W') := by
  obtain ⟨v, rfl, hr⟩ := h
  exact s6 _ _ _ _ _ (f6_s hr fun w' h => ⟨rfl, h⟩)
theorem own : ownKnob Try.prog.godebug = none := by kernel_rfl
set_option maxRecDepth 100000 in
theorem lifted6 (os : Os) (started : os.Started) (H : Type) (enc : TypeId × Value → H) :
    ReturnsInHanded {} Try.checked os 6 .any (Rows.clockMergeSpec.pre6 enc Try.prog Try.f6 Rows.clockMergeRow.domain false) (Rows.clockMergeSpec.post enc Try.prog Try.f6 false true false false) := by
  refine law_from (C := Try.checked) (tb := 4) (R := R6) (b := b6) own started (by kernel_rfl) Try.func6
    (ChangeSpec.witness6 (enc := enc) (C := Try.checked) false ⟨#[], #[.slice none 0 0, .int .i64 0, .int .i64 0], []⟩ 8 (by kernel_rfl) (by kernel_rfl) (by kernel_rfl) (by kernel_rfl))
    rfl (by kernel_rfl) (by kernel_rfl) rfl Try.underlying4 (fun ds hd => ?_) ?_ law6
  · match ds, hd with
    | [d0, d1, d2], _ => exact ⟨rfl, rfl, rfl⟩
  · show OpensA Try.prog Try.f6.params.toList _ R6 b6
    rw [Try.params6]; exact oa6
theorem clockMerge_holds : Rows.ClockMergeSaid :=
  OpenClaim.holds_of_wide 6 Try.f6 rfl rfl rfl rfl rfl rfl rfl ⟨rfl, rfl, rfl, rfl, rfl⟩ rfl rfl rfl rfl rfl (by kernel_rfl) Try.func6 (by kernel_rfl)
    (of_decide_eq_true (by kernel_rfl)) (by unfold Func.isWrapper; first | (rw [if_pos (by decide +kernel)]; kernel_rfl) | (rw [if_neg (by decide +kernel)]; exact ⟨rfl, rfl⟩))
    (fun os started H enc _ => lifted6 os started H enc)
#print axioms clockMerge_holds
end Go.Proofs.Ytnckcgpmidgggaa
