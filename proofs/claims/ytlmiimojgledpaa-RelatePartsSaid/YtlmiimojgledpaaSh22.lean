/- Several blocks changed; rows of whatever values of one cell: read, stored, grown, cut. -/
import Derived.Test.YtlmiimojgledpaaSh21
import Derived.Maps.AppendAt
set_option linter.unusedVariables false
set_option linter.unusedSimpArgs false
set_option linter.unusedSectionVars false
namespace Go.Proofs.Ytlmiimojgledpaa
namespace Sh
open RowKit
/-- of the old blocks none but those of S has changed -/
structure ChgS (S : Nat → Prop) (w w' : World) : Prop where
  os : w'.os = w.os
  tape : w'.tape = w.tape
  output : w'.output = w.output
  size : w.heap.size ≤ w'.heap.size
  block : ∀ k, k < w.heap.size → ¬ S k → w'.heap[k]? = w.heap[k]?
theorem of_drw' {w w' : World} (h : Below (Sh.drw w).heap.size (Sh.drw w) w') : Below w.heap.size w w' := ⟨h.os, h.tape, h.output, h.size, h.block⟩
section
variable {S T : Nat → Prop} {w w' w2 : World}
theorem ChgS.refl (S : Nat → Prop) (w : World) : ChgS S w w := ⟨rfl, rfl, rfl, Nat.le_refl _, fun _ _ _ => rfl⟩
theorem ChgS.mono (h : ChgS S w w') (hs : ∀ k, S k → T k) : ChgS T w w' := ⟨h.os, h.tape, h.output, h.size, fun k a b => h.block k a (fun c => b (hs k c))⟩
theorem ChgS.mono' (h : ChgS S w w') (hs : ∀ k, k < w.heap.size → S k → T k) : ChgS T w w' := ⟨h.os, h.tape, h.output, h.size, fun k a b => h.block k a (fun c => b (hs k a c))⟩
theorem ChgS.trans (h : ChgS S w w') (k : ChgS T w' w2) (hs : ∀ x, x < w.heap.size → T x → S x) : ChgS S w w2 :=
  ⟨k.os.trans h.os, k.tape.trans h.tape, k.output.trans h.output, Nat.le_trans h.size k.size, fun i hi hp => (k.block i (Nat.lt_of_lt_of_le hi h.size) (fun c => hp (hs i hi c))).trans (h.block i hi hp)⟩
theorem ChgS.of_below (h : Below w.heap.size w w') : ChgS S w w' := ⟨h.os, h.tape, h.output, h.size, fun k hk _ => h.block k hk⟩
theorem ChgS.of_upd {p : Nat} (h : Upd p w w') (hp : S p) : ChgS S w w' := ⟨h.os, h.tape, h.output, by rw [h.size]; exact Nat.le_refl _, fun k _ hk => h.block k (fun e => hk (e ▸ hp))⟩
theorem ChgS.of_chg {p : Nat} (h : Chg p w w') (hp : S p) : ChgS S w w' := ⟨h.os, h.tape, h.output, h.size, fun k hl hk => h.block k hl (fun e => hk (e ▸ hp))⟩
theorem ChgS.below {B : Nat} (h : ChgS S w w') (hB : ∀ k, S k → B ≤ k) (hw : B ≤ w.heap.size) : Below B w w' := ⟨h.os, h.tape, h.output, h.size, fun k hk => h.block k (by omega) (fun c => by have := hB k c; omega)⟩
theorem ChgS.keep {q : Nat} {o : Obj} (h : ChgS S w w') (hq : w.heap[q]? = some o) (hne : ¬ S q) : w'.heap[q]? = some o := by rw [h.block q (blk_lt hq) hne]; exact hq
theorem ChgS.drw (h : ChgS S w w') : ChgS S w (drw w') := ⟨h.os, h.tape, h.output, h.size, h.block⟩
theorem ChgS.of_drw (h : ChgS S (Sh.drw w) w') : ChgS S w w' := ⟨h.os, h.tape, h.output, h.size, h.block⟩
theorem bs {B : Nat} {w0 : World} (b : Below B w0 w) (hB : ∀ k, S k → B ≤ k) (hw : B ≤ w.heap.size) (h : ChgS S w w') : Below B w0 w' := b.trans (h.below hB hw)
theorem ChgS.grown {w' : World} {row : Option Nat} (hg : w.grownBy w' row) (hr : ∀ k, row = some k → S k) : ChgS S w w' := by
  refine ⟨hg.os, hg.tape, hg.output, hg.size, fun k hk hs => hg.block k hk (fun e => hs (hr k e.symm))⟩
end
/-- a row of one-cell values, the call's own -/
def ownV (B : Nat) (e : TypeId) (w : World) (v : Value) (xs : List Value) : Prop := w.ownsRow B e 1 v xs.length xs
section
variable {P : Program} {w : World} {Q : Value → World → Prop} {K : Value → M} {K0 : M} {B : Nat} {e : TypeId} {v : Value} {xs : List Value}
theorem ownV_nil : ownV B e w (.slice none 0 0) [] := World.ownsRow_nil w B e 1
/-- the row's block, if it has one -/
theorem ownV_cases (h : ownV B e w v xs) : (v = .slice none 0 0 ∧ xs = []) ∨ ∃ g cap cur, v = .slice (some ⟨g, 0, none⟩) xs.length cap ∧ B ≤ g ∧ w.heap[g]? = some (.cells cur e (0, 0)) ∧ xs.length ≤ cap ∧ cap ≤ maxLen ∧ cur.size = cap ∧ cur.toList.take xs.length = xs := by
  obtain ⟨h1, h2⟩ := h
  rcases h2 with ⟨rfl, h0⟩ | ⟨g, cap, cur, rfl, hg, hb, hn, hm, hs, ht⟩
  · exact .inl ⟨rfl, List.length_eq_zero_iff.1 h0⟩
  · exact .inr ⟨g, cap, cur, rfl, hg, hb, hn, hm, by simpa using hs, by simpa using ht⟩
theorem ownV_mk {g cap : Nat} {cur : Array Value} (hg : B ≤ g) (hb : w.heap[g]? = some (.cells cur e (0, 0))) (hn : xs.length ≤ cap) (hm : cap ≤ maxLen) (hs : cur.size = cap) (ht : cur.toList.take xs.length = xs) : ownV B e w (.slice (some ⟨g, 0, none⟩) xs.length cap) xs :=
  ⟨by simp, .inr ⟨g, cap, cur, rfl, hg, hb, hn, hm, by simpa using hs, by simpa using ht⟩⟩
theorem ownV_len (h : ownV B e w v xs) : ∃ p c, v = .slice p xs.length c := by
  rcases ownV_cases h with ⟨rfl, rfl⟩ | ⟨g, cap, cur, rfl, _⟩
  · exact ⟨none, 0, rfl⟩
  · exact ⟨_, _, rfl⟩
theorem ownV_blk (h : ownV B e w v xs) (hne : xs ≠ []) : ∃ g cap, v = .slice (some ⟨g, 0, none⟩) xs.length cap ∧ v.ownBlock = some g ∧ B ≤ g ∧ (∃ cur, w.heap[g]? = some (.cells cur e (0, 0))) ∧ ∀ (i : Nat) (hi : i < xs.length), w.cell? ⟨g, i, none⟩ = some xs[i] := by
  rcases ownV_cases h with ⟨rfl, rfl⟩ | ⟨g, cap, cur, rfl, hg, hb, hn, hm, hs, ht⟩
  · exact absurd rfl hne
  · refine ⟨g, cap, rfl, rfl, hg, ⟨cur, hb⟩, fun i hi => ?_⟩
    rw [cell_of_blk hb]
    have : (cur.toList.take xs.length)[i]? = xs[i]? := by rw [ht]
    rw [List.getElem?_take_of_lt hi] at this
    rw [← Array.getElem?_toList, this, List.getElem?_eq_getElem hi]
theorem lnl_V {w1 : World} (h : ownV B e w v xs) (kk : K (.int .i64 xs.length) w1 Q) : lnl v K w1 Q := by
  obtain ⟨p, c, rfl⟩ := ownV_len h
  rw [lnl_e]; exact kk
theorem ia_at {g l c i : Nat} {k : IntKind} (hi : i < l) : ia 1 (.slice (some ⟨g, 0, none⟩) l c) (.int k (i : Int)) K w Q = K (.pointer (some ⟨g, i, none⟩)) w Q := by
  rw [ia_e, Int.toNat_natCast, Nat.mul_one, add_lit, Nat.zero_add]
  apply propext
  constructor
  · rintro ⟨_, _, h⟩; exact h
  · intro h; exact ⟨by omega, by omega, h⟩
theorem ownV_stay {w' : World} (h : ownV B e w v xs) (hb : ∀ g, v.ownBlock = some g → w'.heap[g]? = w.heap[g]?) : ownV B e w' v xs := by
  rcases ownV_cases h with ⟨rfl, rfl⟩ | ⟨g, cap, cur, rfl, hg, hb', hn, hm, hs, ht⟩
  · exact ownV_nil
  · exact ownV_mk hg (by rw [hb g rfl]; exact hb') hn hm hs ht
theorem ownV_lt (h : ownV B e w v xs) : ∀ g, v.ownBlock = some g → B ≤ g ∧ g < w.heap.size ∧ ∃ cur, w.heap[g]? = some (.cells cur e (0, 0)) := by
  intro g hg
  rcases ownV_cases h with ⟨rfl, rfl⟩ | ⟨g', cap, cur, rfl, hg', hb', _⟩
  · cases hg
  · cases hg; exact ⟨hg', blk_lt hb', _, hb'⟩
theorem ownV_below {w' : World} (h : ownV B e w v xs) (hb : Below w.heap.size w w') : ownV B e w' v xs := ownV_stay h (fun g hg => hb.block g (ownV_lt h g hg).2.1)
/-- a place stored: the row behind it -/
theorem ownV_set {w' : World} {i : Nat} {x : Value} {g : Nat} (h : ownV B e w v xs) (hi : i < xs.length) (hg : v.ownBlock = some g) (hw : ∀ cur, w.heap[g]? = some (.cells cur e (0, 0)) → w'.heap[g]? = some (.cells (cur.setIfInBounds i x) e (0, 0))) : ownV B e w' v (xs.set i x) := by
  rcases ownV_cases h with ⟨rfl, rfl⟩ | ⟨g', cap, cur, rfl, hg', hb', hn, hm, hs, ht⟩
  · simp at hi
  · cases hg
    have h1 := hw cur hb'
    have := ownV_mk (xs := xs.set i x) (cap := cap) hg' h1 (by simpa using hn) hm (by simp [hs]) (by
      rw [Array.toList_setIfInBounds, List.length_set, List.take_set, ht])
    simpa using this
theorem ia_stV {j : IntKind} {i : Nat} {x : Value} (h : ownV B e w v xs) (hi : i < xs.length) (hx : x.oneCell' = true)
    (kk : ∀ w' g, v.ownBlock = some g → ownV B e w' v (xs.set i x) → Upd g w w' → K0 w' Q) : ia 1 v (.int j (i : Int)) (fun p => st p x K0) w Q := by
  have h0 := h
  rcases ownV_cases h with ⟨rfl, rfl⟩ | ⟨g, cap, cur, rfl, hg, hb, hn, hm, hs, ht⟩
  · simp at hi
  · rw [ia_at hi]
    refine st_box hb (by omega) hx fun w' hw hu => ?_
    exact kk w' g rfl (ownV_set h0 hi rfl (fun cur' h' => by rw [hb] at h'; cases h'; exact hw)) hu
/-- one more, behind a row of the call's own -/
theorem ap_V {t : TypeId} {z x : Value} {b : Nat} (ht : slT P t e z 1 b) (hz : z.cells.size = 1) (hx : x.oneCell' = true) (hxc : x.cells = #[x]) (h : ownV B e w v xs) (h63 : xs.length + 1 ≤ maxLen) (hbytes : (xs.length + 1) * b ≤ 140737488355328) (hB : B ≤ w.heap.size)
    (kk : ∀ v' w', ownV B e w' v' (xs ++ [x]) → (∀ k, k < w.heap.size → v.ownBlock ≠ some k → w'.heap[k]? = w.heap[k]?) → w.heap.size ≤ w'.heap.size → (w'.os = w.os ∧ w'.tape = w.tape ∧ w'.output = w.output) → (∀ g, v'.ownBlock = some g → v.ownBlock = some g ∨ w.heap.size ≤ g) → K v' w' Q) :
    sm P (Instr.buildSlice t 1 #[(0, x)]) (fun u => sm P (Builtin.append_ #[t, t] t #[v, u]) K) w Q := by
  refine bsl1 ht hz hxc ?_
  have h1 : (psh w (.cells #[x] e)).ownsRow B e 1 v xs.length xs := World.ownsRow.alloc h _
  obtain ⟨i, g1, g2, g3, g4, g5⟩ := slT_info ht
  obtain ⟨v', w', hr, ho, hg, _, hf⟩ := run_append_own_at (P := P) (psh w (.cells #[x] e)) B t t e i z 1 b g1 g2 g3 g4 g5 hz (by decide) v xs.length xs h1 ⟨w.heap.size, 0, none⟩ 1 1 [x] rfl (by
    intro j u hj
    cases j with
    | zero => simp at hj; subst hj; rw [add_lit, cell_psh_new]; rfl
    | succ j => simp at hj) (by intro u hu; simp at hu; subst hu; exact hx) h63 hbytes (by rw [size_psh]; omega)
  refine ⟨v', w', hr, kk v' w' ?_ (fun k hk hne => ?_) ?_ ?_ ?_⟩
  · unfold ownV; rw [List.length_append]; exact ho
  · rw [hg.block k (by rw [size_psh]; omega) (fun e => hne e.symm), blk_psh_old hk]
  · have := hg.size; rw [size_psh] at this; omega
  · exact ⟨hg.os, hg.tape, hg.output⟩
  · intro g hgv
    rcases hf with hf | hf
    · left; rw [← hf]; exact hgv
    · right
      rw [hf, size_psh] at hgv
      cases hgv; omega
/-- one number more, behind a row of the call's own -/
theorem ap_one {t : TypeId} {k : IntKind} {l : List Int} {x : Int} {b : Nat} (ht : slT P t e (.int k 0) 1 b) (ho : ownI B e k w v l) (h63 : l.length + 1 ≤ 140737488355328) (hbytes : (l.length + 1) * b ≤ 140737488355328) (hB : B ≤ w.heap.size)
    (kk : ∀ v' w', ownI B e k w' v' (l ++ [x]) → Below B w w' → (∀ (B' : Nat) (e' : TypeId) (k' : IntKind) (u : Value) (l' : List Int), e' ≠ e → ownI B' e' k' w u l' → ownI B' e' k' w' u l') → (∀ q o, w.heap[q]? = some o → v.ownBlock ≠ some q → w'.heap[q]? = some o) → K v' w' Q) :
    sm P (Instr.buildSlice t 1 #[(0, .int k x)]) (fun u => sm P (Builtin.append_ #[t, t] t #[v, u]) K) w Q := by
  refine bsl1 ht rfl rfl ?_
  have ho1 := ownI_psh ho (.cells #[.int k x] e)
  have hb1 := b_psh w (.cells #[.int k x] e)
  refine ap_rd (b := b) (m := [x]) ht ho1 (.inr ⟨⟨w.heap.size, 0, none⟩, 1, rfl, fun i hi => ?_⟩) (by simpa using hbytes) (by simpa using h63) (by rw [size_psh]; omega) ?_
  · have : i = 0 := by simpa using hi
    subst this
    rw [add_lit, cell_psh_new]; rfl
  · intro v' w' ho' hg
    have hq : ∀ q o, w.heap[q]? = some o → v.ownBlock ≠ some q → w'.heap[q]? = some o := by
      intro q o hqo hne
      rw [hg.block q (by rw [size_psh]; have := blk_lt hqo; omega) (fun e => hne e.symm), blk_psh_old (blk_lt hqo)]
      exact hqo
    refine kk v' w' ho' (Below_grown (bt' (Below.refl _ _) hB hb1) ho1 (by rw [size_psh]; omega) hg) ?_ hq
    intro B' e' k' u l' hne hu
    obtain ⟨h1, h2⟩ := hu
    refine ⟨h1, ?_⟩
    rcases h2 with h2 | ⟨g, cap, cur, rfl, hg', hb', rest⟩
    · exact .inl h2
    · refine .inr ⟨g, cap, cur, rfl, hg', hq g _ hb' ?_, rest⟩
      intro ev
      obtain ⟨_, h3⟩ := ho
      rcases h3 with ⟨rfl, _⟩ | ⟨g2, cap2, cur2, rfl, _, hb2, _⟩
      · cases ev
      · cases ev
        rw [hb'] at hb2
        cases hb2
        exact hne rfl
end
end Sh
end Go.Proofs.Ytlmiimojgledpaa
