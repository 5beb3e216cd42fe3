/- The call of PagerLost returns true for every input of limited bulk, and its arguments read behind it as they read before. -/
import Derived.Test.YtongpnolikkknaaGreatDoorZ3
import Derived.Shelf.SlGeneric
import Derived.Shelf.SlIterI.Nil
import Derived.Shelf.SortM.Plain
import Derived.Shelf.SortM.SortNone
import Derived.Ground.GgzProg
import Derived.Ground.SlgmProg
import Derived.Test.YtongpnolikkknaaGreatDoorProg
set_option linter.unusedVariables false
set_option linter.unusedSimpArgs false
set_option linter.unusedSectionVars false
set_option maxRecDepth 20000
set_option maxHeartbeats 4000000
namespace Go.Proofs.YtongpnolikkknaaGreatDoor
open Sh RowKit Go.MapKept
structure RfAt (B : Nat) (w : World) (r : Nat) (u : Value) (L : List ByteArray) : Prop where
  rB : B ≤ r
  hr : w.heap[r]? = some (.cells #[u] 102 (0, 0))
  hu : ownV B 9 w u (L.map .string)
def fpR (r : Nat) (u : Value) : Nat → Prop := fun k => k = r ∨ u.ownBlock = some k
def encT (s : ByteArray) : List Value := [.string s]
theorem encT_len (s : ByteArray) : (encT s).length = 1 := rfl
theorem encT_one (s : ByteArray) : ∀ x ∈ encT s, x.oneCell' = true := fun x hx => by rw [List.mem_singleton.1 hx]; rfl
theorem flat_T (l : List ByteArray) : l.flatMap encT = l.map .string := by
  induction l with
  | nil => rfl
  | cons a l ih => rw [List.flatMap_cons, ih]; rfl
theorem ownV_T {B : Nat} {e : TypeId} {w : World} {v : Value} {l : List ByteArray} (h : ownV B e w v (l.map .string)) : ownE B e 1 encT w v l := by
  unfold ownV at h
  unfold ownE
  rw [flat_T]
  rw [List.length_map] at h
  exact h
theorem ownT_V {B : Nat} {e : TypeId} {w : World} {v : Value} {l : List ByteArray} (h : ownE B e 1 encT w v l) : ownV B e w v (l.map .string) := by
  unfold ownV
  unfold ownE at h
  rw [flat_T] at h
  rw [List.length_map]
  exact h
theorem buildR0 (w : World) : (Instr.build 102 #[]).run Tryz.prog w = .ok (.agg #[.slice none 0 0]) w := by
  kernel_rfl
theorem buildR1 (p : Option Addr) (l c : Nat) (w : World) : (Instr.build 102 #[(0, .slice p l c)]).run Tryz.prog w = .ok (.agg #[.slice p l c]) w := by
  kernel_rfl
section
variable {B : Nat} {W w w' : World} {r : Nat} {u v : Value} {L : List ByteArray} {Q : Value → World → Prop}
theorem RfAt.below (h : RfAt B w r u L) (hb : Below w.heap.size w w') : RfAt B w' r u L := ⟨h.rB, stay hb h.hr, ownV_below h.hu hb⟩
theorem RfAt.chg {S : Nat → Prop} (h : RfAt B w r u L) (hc : ChgS S w w') (hS : ∀ k, fpR r u k → ¬ S k) : RfAt B w' r u L := ⟨h.rB, hc.keep h.hr (hS r (.inl rfl)), ownV_chg h.hu hc fun g hg => hS g (.inr hg)⟩
theorem RfAt.weak {B' : Nat} (h : RfAt B w r u L) (hB : B' ≤ B) : RfAt B' w r u L := ⟨Nat.le_trans hB h.rB, h.hr, ownV_weak h.hu hB⟩
theorem RfAt.c0 (h : RfAt B w r u L) : w.cell? ⟨r, 0, none⟩ = some u := by rw [cell_of_blk h.hr]; rfl
theorem RfAt.lnl (h : RfAt B w r u L) : ∀ (K : Value → M) (w1 : World) (Q : Value → World → Prop), lnl u K w1 Q = K (.int .i64 ((L.length : Nat) : Int)) w1 Q := by
  have := lnl_own h.hu
  rwa [List.length_map] at this
theorem f88_s (kk : ∀ w', Below w.heap.size w w' → Q (.string (zs 256)) w') : f88 w Q := by
  unfold f88
  refine mkI (n := 256) (B := w.heap.size) sl61 (by omega) (by omega) (Nat.le_refl _) fun v w1 ho hb => ?_
  try simp only [↓reduceIte, ↓LL, LM, Value.cells, Nat.reduceAdd, Option.some.injEq, exists_eq_left', decide_true, decide_false, if_true, if_false, reduceCtorEq, cond_true, cond_false]
  refine cvb sl61 ud5 str9 (rdP_rd (ownI_rdP ho)) ?_
  try simp only [↓reduceIte, ↓LL, LM, Value.cells, Nat.reduceAdd, Option.some.injEq, exists_eq_left', decide_true, decide_false, if_true, if_false, reduceCtorEq, cond_true, cond_false]
  exact kk w1 hb
theorem new6_loop {n : Nat} {j1 : Value → M} (hn : n ≤ 1000) (hrW : W.heap.size ≤ r) : ∀ (d m i : Nat) (w : World) (u : Value), i + d = n → d < m → Below W.heap.size W w → w.heap[r]? = some (.cells #[u] 102 (0, 0)) → ownV W.heap.size 9 w u ((List.replicate i (zs 256)).map .string) →
    (∀ w' u', Below W.heap.size W w' → w'.heap[r]? = some (.cells #[u'] 102 (0, 0)) → ownV W.heap.size 9 w' u' ((List.replicate n (zs 256)).map .string) → j1 (pv r) w' Q) →
    itr (fun _ _ _ => bot) (f41_b2 j1) m (.int .i64 ((n : Nat) : Int)) (pv r) (.int .i64 ((i : Nat) : Int)) w Q := by
  intro d
  induction d with
  | zero =>
    intro m i w u hi hm hb hr ho kk
    obtain ⟨m, rfl⟩ : ∃ x, m = x + 1 := ⟨m - 1, by omega⟩
    show f41_b2 j1 _ _ _ _ w Q
    unfold f41_b2
    have c : ¬ (i : Int) < (n : Nat) := by omega
    try simp only [↓reduceIte, ↓LL, LM, Value.cells, Nat.reduceAdd, Option.some.injEq, exists_eq_left', decide_true, decide_false, if_true, if_false, reduceCtorEq, cond_true, cond_false, c]
    have : i = n := by omega
    rw [this] at ho
    exact kk w u hb hr ho
  | succ d ih =>
    intro m i w u hi hm hb hr ho kk
    obtain ⟨m, rfl⟩ : ∃ x, m = x + 1 := ⟨m - 1, by omega⟩
    show f41_b2 j1 _ _ _ _ w Q
    unfold f41_b2
    have c : (i : Int) < (n : Nat) := by omega
    have h3 : IntKind.i64.wrap ((i : Int) + 1) = ((i + 1 : Nat) : Int) := by rw [w64 (by omega) (by omega)]; rfl
    have c0 : w.cell? ⟨r, 0, none⟩ = some u := by rw [cell_of_blk hr]; rfl
    try simp only [↓reduceIte, ↓LL, LM, Value.cells, Nat.reduceAdd, Option.some.injEq, exists_eq_left', decide_true, decide_false, if_true, if_false, reduceCtorEq, cond_true, cond_false, c, c0]
    refine f88_s fun w2 b2 => ?_
    have b2 := of_drw' b2
    have hr2 := stay b2 hr
    have hb2 := bt hb b2
    have ho2 := ownV_below ho b2
    have c2 : w2.cell? ⟨r, 0, none⟩ = some u := by rw [cell_of_blk hr2]; rfl
    try simp only [↓reduceIte, ↓LL, LM, Value.cells, Nat.reduceAdd, Option.some.injEq, exists_eq_left', decide_true, decide_false, if_true, if_false, reduceCtorEq, cond_true, cond_false]
    refine ⟨by rw [Kld_e]; exact c2, ?_⟩
    have b4 := b_psh w2 (.cells #[.string (zs 256)] 9)
    refine ap_Tk (by rw [Kld_e]; exact cell_below b4 c2) ho2 (by rw [List.length_replicate]; omega) hb2.size fun w5 u5 o5 hc5 fr5 => ?_
    have uT : ∀ g, u.ownBlock = some g → W.heap.size ≤ g ∧ g ≠ r := fun g hg => by
      obtain ⟨h1, _, cur, hcur⟩ := ownV_lt ho g hg
      exact ⟨h1, fun e => by rw [e, hr] at hcur; cases hcur⟩
    have hr5 := hc5.keep hr2 fun h => (uT r h).2 rfl
    have hb5 : Below W.heap.size W w5 := hb2.trans (hc5.below (fun k hk => (uT k hk).1) hb2.size)
    try simp only [↓reduceIte, ↓LL, LM, Value.cells, Nat.reduceAdd, Option.some.injEq, exists_eq_left', decide_true, decide_false, if_true, if_false, reduceCtorEq, cond_true, cond_false]
    refine st_box (o := 0) (v := u5) hr5 (show 0 < 1 by decide) (by obtain ⟨x, y, rfl⟩ := ownV_len o5; rfl) fun w6 hr6 u6 => ?_
    have hr6 : w6.heap[r]? = some (.cells #[u5] 102 (0, 0)) := hr6
    try simp only [↓reduceIte, ↓LL, LM, Value.cells, Nat.reduceAdd, Option.some.injEq, exists_eq_left', decide_true, decide_false, if_true, if_false, reduceCtorEq, cond_true, cond_false, h3]
    refine ih m (i + 1) w6 u5 (by omega) (by omega) (hb5.trans (u6.below hrW)) hr6 ?_ kk
    have e : List.replicate (i + 1) (zs 256) = List.replicate i (zs 256) ++ [zs 256] := List.replicate_succ'
    rw [e]
    exact ownV_stay o5 fun g hg => u6.block g fun e => by
      obtain ⟨_, _, cur, hcur⟩ := ownV_lt o5 g hg
      rw [e, hr5] at hcur; cases hcur
theorem f41_s {n : Nat} (hn : n ≤ 1000) (kk : ∀ w' r u, Below w.heap.size w w' → RfAt w.heap.size w' r u (List.replicate n (zs 256)) → Q (pv r) w') : f41 (.int .i64 ((n : Nat) : Int)) w Q := by
  unfold f41
  rw [smr_run (buildR0 w)]
  have b1 := b_psh w (.cells #[.slice none 0 0] 102)
  have r1 := blk_psh_new (w := w) (o := .cells #[.slice none 0 0] 102)
  try simp only [↓reduceIte, ↓LL, LM, Value.cells, Nat.reduceAdd, Option.some.injEq, exists_eq_left', decide_true, decide_false, if_true, if_false, reduceCtorEq, cond_true, cond_false]
  generalize psh w (.cells #[.slice none 0 0] 102) = w1 at *
  refine ⟨_, new6_loop (W := w) hn (Nat.le_refl _) n (n + 1) 0 w1 _ (by omega) (by omega) b1 r1 ownV_nil fun w2 u2 b2 r2 o2 => ?_⟩
  unfold f41_j1
  try simp only [↓reduceIte, ↓LL, LM, Value.cells, Nat.reduceAdd, Option.some.injEq, exists_eq_left', decide_true, decide_false, if_true, if_false, reduceCtorEq, cond_true, cond_false]
  exact kk w2 _ u2 b2 ⟨Nat.le_refl _, r2, o2⟩
/-- pages out of bounds? -/
theorem right_a {cs : List Ch} {j1 : Value → M} (hq : RfAt B W r u L) (hcs : rdS 2 (eR encC) W v cs) (hl : cs.length ≤ 31) (hL : L.length ≤ 1000000) : ∀ (d m i : Nat) (w : World), i + d = cs.length → d < m → Below W.heap.size W w → (∀ x ∈ cs.take i, 0 ≤ x.1 ∧ x.1 < (L.length : Int)) →
    (∀ w', Below W.heap.size W w' → (∃ c ∈ cs, c.1 < 0 ∨ (L.length : Int) ≤ c.1) → Q (.int .i64 7) w') → (∀ w', Below W.heap.size W w' → (∀ x ∈ cs, 0 ≤ x.1 ∧ x.1 < (L.length : Int)) → j1 v w' Q) →
    itr (fun _ _ _ => bot) (f45_b2 j1) m (pv r) v (.int .i64 ((i : Nat) : Int)) w Q := by
  intro d
  induction d with
  | zero =>
    intro m i w hi hm hb hall k7 kk
    obtain ⟨m, rfl⟩ : ∃ x, m = x + 1 := ⟨m - 1, by omega⟩
    show f45_b2 j1 _ _ _ _ w Q
    unfold f45_b2
    have lv := lnl_S hcs
    have cc : ¬ (i : Int) < (cs.length : Nat) := by omega
    try simp only [↓reduceIte, ↓LL, LM, Value.cells, Nat.reduceAdd, Option.some.injEq, exists_eq_left', decide_true, decide_false, if_true, if_false, reduceCtorEq, cond_true, cond_false, lv, cc]
    rw [List.take_of_length_le (by omega)] at hall
    exact kk w hb hall
  | succ d ih =>
    intro m i w hi hm hb hall k7 kk
    obtain ⟨m, rfl⟩ : ∃ x, m = x + 1 := ⟨m - 1, by omega⟩
    show f45_b2 j1 _ _ _ _ w Q
    unfold f45_b2
    have lv := lnl_S hcs
    have cc : (i : Int) < (cs.length : Nat) := by omega
    have hil : i < cs.length := by omega
    have h3 : IntKind.i64.wrap ((i : Int) + 1) = ((i + 1 : Nat) : Int) := by rw [w64 (by omega) (by omega)]; rfl
    obtain ⟨ad, es, he1, he2, he3, hia⟩ := rdS_at (rdS_below eR_st hb hcs) hil
    have he3 : es = encC cs[i] := he3
    have c0 : w.cell? (ad.add 0) = some (.int .i64 cs[i].1) := he2 0 _ (by rw [he3]; rfl)
    have hts : cs.take (i + 1) = cs.take i ++ [cs[i]] := List.take_succ_eq_append_getElem hil
    have hqw := hq.below hb
    have q0 := hqw.c0
    have lq := hqw.lnl
    have bd : Below W.heap.size W (drw w) := ⟨hb.os, hb.tape, hb.output, hb.size, hb.block⟩
    by_cases c1 : cs[i].1 < 0
    · try simp only [↓reduceIte, ↓LL, LM, Value.cells, Nat.reduceAdd, Option.some.injEq, exists_eq_left', decide_true, decide_false, if_true, if_false, reduceCtorEq, cond_true, cond_false, lv, cc, hia, c0, c1]
      exact k7 _ bd ⟨cs[i], List.getElem_mem hil, .inl c1⟩
    · by_cases c2 : (L.length : Int) ≤ cs[i].1
      · have c2' : cs[i].1 ≥ (L.length : Int) := c2
        try simp only [↓reduceIte, ↓LL, LM, Value.cells, Nat.reduceAdd, Option.some.injEq, exists_eq_left', decide_true, decide_false, if_true, if_false, reduceCtorEq, cond_true, cond_false, lv, cc, hia, c0, c1, q0, lq, c2, c2']
        exact k7 _ bd ⟨cs[i], List.getElem_mem hil, .inr c2⟩
      · have c2' : ¬ cs[i].1 ≥ (L.length : Int) := c2
        try simp only [↓reduceIte, ↓LL, LM, Value.cells, Nat.reduceAdd, Option.some.injEq, exists_eq_left', decide_true, decide_false, if_true, if_false, reduceCtorEq, cond_true, cond_false, lv, cc, hia, c0, c1, q0, lq, c2, c2', h3]
        refine ih m (i + 1) (drw w) (by omega) (by omega) bd (fun x hx => ?_) k7 kk
        rw [hts] at hx
        rcases List.mem_append.1 hx with hx | hx
        · exact hall x hx
        · rw [List.mem_singleton.1 hx]; omega
/-- one behind equal to another? -/
theorem right_c {cs : List Ch} {j5 : Value → Value → M} {i : Nat} (hcs : rdS 2 (eR encC) W v cs) (hl : cs.length ≤ 31) (hi : i < cs.length) : ∀ (d m k : Nat) (w : World), k + d = i → d < m → Below W.heap.size W w → ¬ cs[i].1 ∈ (cs.take k).map (·.1) →
    (∀ w', Below W.heap.size W w' → cs[i].1 ∈ (cs.take i).map (·.1) → Q (.int .i64 1) w') → (∀ w', Below W.heap.size W w' → ¬ cs[i].1 ∈ (cs.take i).map (·.1) → j5 v (.int .i64 ((i : Nat) : Int)) w' Q) →
    itr (fun _ _ _ => bot) (f45_b6 j5) m v (.int .i64 ((i : Nat) : Int)) (.int .i64 ((k : Nat) : Int)) w Q := by
  intro d
  induction d with
  | zero =>
    intro m k w hk hm hb hall k1 kk
    obtain ⟨m, rfl⟩ : ∃ x, m = x + 1 := ⟨m - 1, by omega⟩
    show f45_b6 j5 _ _ _ _ w Q
    unfold f45_b6
    have cc : ¬ (k : Int) < (i : Nat) := by omega
    try simp only [↓reduceIte, ↓LL, LM, Value.cells, Nat.reduceAdd, Option.some.injEq, exists_eq_left', decide_true, decide_false, if_true, if_false, reduceCtorEq, cond_true, cond_false, cc]
    have : k = i := by omega
    rw [this] at hall
    exact kk w hb hall
  | succ d ih =>
    intro m k w hk hm hb hall k1 kk
    obtain ⟨m, rfl⟩ : ∃ x, m = x + 1 := ⟨m - 1, by omega⟩
    show f45_b6 j5 _ _ _ _ w Q
    unfold f45_b6
    have cc : (k : Int) < (i : Nat) := by omega
    have hkl : k < cs.length := by omega
    have h3 : IntKind.i64.wrap ((k : Int) + 1) = ((k + 1 : Nat) : Int) := by rw [w64 (by omega) (by omega)]; rfl
    obtain ⟨ad, es, he1, he2, he3, hia⟩ := rdS_at (rdS_below eR_st hb hcs) hi
    obtain ⟨ad2, es2, hf1, hf2, hf3, hia2⟩ := rdS_at (rdS_below eR_st hb hcs) hkl
    have he3 : es = encC cs[i] := he3
    have hf3 : es2 = encC cs[k] := hf3
    have c0 : w.cell? (ad.add 0) = some (.int .i64 cs[i].1) := he2 0 _ (by rw [he3]; rfl)
    have c1 : w.cell? (ad2.add 0) = some (.int .i64 cs[k].1) := hf2 0 _ (by rw [hf3]; rfl)
    have hts : cs.take (k + 1) = cs.take k ++ [cs[k]] := List.take_succ_eq_append_getElem hkl
    have bd : Below W.heap.size W (drw w) := ⟨hb.os, hb.tape, hb.output, hb.size, hb.block⟩
    by_cases c2 : cs[i].1 = cs[k].1
    · try simp only [↓reduceIte, ↓LL, LM, Value.cells, Nat.reduceAdd, Option.some.injEq, exists_eq_left', decide_true, decide_false, if_true, if_false, reduceCtorEq, cond_true, cond_false, cc, hia, hia2, c0, c1, c2]
      refine k1 _ bd ?_
      rw [c2]
      exact List.mem_map.2 ⟨cs[k], List.mem_take_iff_getElem.2 ⟨k, by omega, rfl⟩, rfl⟩
    · try simp only [↓reduceIte, ↓LL, LM, Value.cells, Nat.reduceAdd, Option.some.injEq, exists_eq_left', decide_true, decide_false, if_true, if_false, reduceCtorEq, cond_true, cond_false, cc, hia, hia2, c0, c1, c2, h3]
      refine ih m (k + 1) (drw w) (by omega) (by omega) bd (fun hx => ?_) k1 kk
      rw [hts, List.map_append] at hx
      rcases List.mem_append.1 hx with hx | hx
      · exact hall hx
      · exact c2 (List.mem_singleton.1 hx)
theorem right_b {cs : List Ch} (hcs : rdS 2 (eR encC) W v cs) (hl : cs.length ≤ 31) (hrange : ∀ x ∈ cs, 0 ≤ x.1 ∧ x.1 < (L.length : Int)) : ∀ (d m i : Nat) (w : World), i + d = cs.length → d < m → Below W.heap.size W w → oddL (cs.take i) = false →
    (∀ w', Below W.heap.size W w' → Q (.int .i64 (mayB false L.length cs)) w') →
    itr (fun _ _ => bot) (f45_b4 f45_j3) m v (.int .i64 ((i : Nat) : Int)) w Q := by
  have e0 : mayB false L.length cs = if oddL cs = true then 1 else 0 := by
    unfold mayB
    rw [if_neg (by decide), if_neg (by omega), if_neg (fun ⟨x, hx, h⟩ => by have := hrange x hx; omega)]
  intro d
  induction d with
  | zero =>
    intro m i w hi hm hb hodd kk
    obtain ⟨m, rfl⟩ : ∃ x, m = x + 1 := ⟨m - 1, by omega⟩
    show f45_b4 f45_j3 _ _ _ w Q
    unfold f45_b4
    have lv := lnl_S hcs
    have cc : ¬ (i : Int) < (cs.length : Nat) := by omega
    try simp only [↓reduceIte, ↓LL, LM, Value.cells, Nat.reduceAdd, Option.some.injEq, exists_eq_left', decide_true, decide_false, if_true, if_false, reduceCtorEq, cond_true, cond_false, lv, cc]
    unfold f45_j3
    rw [List.take_of_length_le (by omega)] at hodd
    rw [hodd, if_neg (by decide)] at e0
    rw [e0] at kk
    try simp only [↓reduceIte, ↓LL, LM, Value.cells, Nat.reduceAdd, Option.some.injEq, exists_eq_left', decide_true, decide_false, if_true, if_false, reduceCtorEq, cond_true, cond_false]
    exact kk w hb
  | succ d ih =>
    intro m i w hi hm hb hodd kk
    obtain ⟨m, rfl⟩ : ∃ x, m = x + 1 := ⟨m - 1, by omega⟩
    show f45_b4 f45_j3 _ _ _ w Q
    unfold f45_b4
    have lv := lnl_S hcs
    have cc : (i : Int) < (cs.length : Nat) := by omega
    have hil : i < cs.length := by omega
    have h3 : IntKind.i64.wrap ((i : Int) + 1) = ((i + 1 : Nat) : Int) := by rw [w64 (by omega) (by omega)]; rfl
    obtain ⟨ad, es, he1, he2, he3, hia⟩ := rdS_at (rdS_below eR_st hb hcs) hil
    have he3 : es = encC cs[i] := he3
    have c0 : w.cell? (ad.add 1) = some (.string cs[i].2) := he2 1 _ (by rw [he3]; rfl)
    have hts : cs.take (i + 1) = cs.take i ++ [cs[i]] := List.take_succ_eq_append_getElem hil
    have odd1 : (cs[i].1 ∈ (cs.take i).map (·.1) ∨ cs[i].2.size ≠ 256) → oddL cs = true := by
      intro h
      unfold oddL
      refine decide_eq_true fun ⟨q1, q2⟩ => ?_
      rcases h with h | h
      · have : ((cs.take (i + 1)).map (·.1)).Nodup := by rw [List.map_take]; exact q1.sublist (List.take_sublist _ _)
        rw [hts, List.map_append, List.nodup_append] at this
        exact this.2.2 _ h _ (List.mem_singleton.2 rfl) rfl
      · exact h (q2 _ (List.getElem_mem hil))
    by_cases c1 : cs[i].2.size = 256
    · have c1' : ((cs[i].2.size : Nat) : Int) = 256 := by omega
      try simp only [↓reduceIte, ↓LL, LM, Value.cells, Nat.reduceAdd, Option.some.injEq, exists_eq_left', decide_true, decide_false, if_true, if_false, reduceCtorEq, cond_true, cond_false, lv, cc, hia, c0, c1', ne_eq]
      refine ⟨_, right_c (j5 := f45_j5 (itr (fun _ _ => bot) (f45_b4 f45_j3) m)) hcs hl hil i (i + 1) 0 w (by omega) (by omega) hb (by simp) (fun w' hb' hx => ?_) (fun w' hb' hx => ?_)⟩
      · rw [odd1 (.inl hx), if_pos rfl] at e0
        rw [e0] at kk
        exact kk w' hb'
      · unfold f45_j5
        try simp only [↓reduceIte, ↓LL, LM, Value.cells, Nat.reduceAdd, Option.some.injEq, exists_eq_left', decide_true, decide_false, if_true, if_false, reduceCtorEq, cond_true, cond_false, h3]
        refine ih m (i + 1) w' (by omega) (by omega) hb' ?_ kk
        rw [hts, oddL_snoc, hodd, decide_eq_false hx, decide_eq_false (fun h => h c1)]; rfl
    · have c1' : ¬ ((cs[i].2.size : Nat) : Int) = 256 := by omega
      try simp only [↓reduceIte, ↓LL, LM, Value.cells, Nat.reduceAdd, Option.some.injEq, exists_eq_left', decide_true, decide_false, if_true, if_false, reduceCtorEq, cond_true, cond_false, lv, cc, hia, c0, c1', ne_eq]
      rw [odd1 (.inr c1), if_pos rfl] at e0
      rw [e0] at kk
      exact kk w hb
theorem f45_s {cs : List Ch} (hq : RfAt B w r u L) (hcs : rdS 2 (eR encC) w v cs) (hL : L.length ≤ 1000000) (kk : ∀ w', Below w.heap.size w w' → Q (.int .i64 (mayB false L.length cs)) w') : f45 (pv r) v w Q := by
  unfold f45
  have lv := lnl_S hcs
  by_cases c : 31 < cs.length
  · have c1 : ((cs.length : Nat) : Int) > 31 := by omega
    have c2 : (31 : Int) < ((cs.length : Nat) : Int) := by omega
    have e : mayB false L.length cs = 3 := by unfold mayB; rw [if_neg (by decide), if_pos c]
    rw [e] at kk
    try simp only [↓reduceIte, ↓LL, LM, Value.cells, Nat.reduceAdd, Option.some.injEq, exists_eq_left', decide_true, decide_false, if_true, if_false, reduceCtorEq, cond_true, cond_false, lv, c1, c2]
    exact kk w (Below.refl _ _)
  · have c1 : ¬ ((cs.length : Nat) : Int) > 31 := by omega
    have c2 : ¬ (31 : Int) < ((cs.length : Nat) : Int) := by omega
    try simp only [↓reduceIte, ↓LL, LM, Value.cells, Nat.reduceAdd, Option.some.injEq, exists_eq_left', decide_true, decide_false, if_true, if_false, reduceCtorEq, cond_true, cond_false, lv, c1, c2]
    refine ⟨_, right_a (W := w) hq hcs (by omega) hL cs.length (cs.length + 1) 0 w (by omega) (by omega) (Below.refl _ _) (fun x hx => by simp at hx) (fun w' hb' hx => ?_) (fun w' hb' hx => ?_)⟩
    · have e : mayB false L.length cs = 7 := by unfold mayB; rw [if_neg (by decide), if_neg (by omega), if_pos hx]
      rw [e] at kk
      exact kk w' hb'
    · unfold f45_j1
      try simp only [↓reduceIte, ↓LL, LM, Value.cells, Nat.reduceAdd, Option.some.injEq, exists_eq_left', decide_true, decide_false, if_true, if_false, reduceCtorEq, cond_true, cond_false]
      exact ⟨_, right_b (W := w) (L := L) hcs (by omega) hx cs.length (cs.length + 1) 0 w' (by omega) (by omega) hb' rfl kk⟩
end
end Go.Proofs.YtongpnolikkknaaGreatDoor

set_option maxRecDepth 20000
set_option maxHeartbeats 4000000
namespace Go.Proofs.YtongpnolikkknaaGreatDoor
open Sh RowKit Go.MapKept
def callsN (n : Nat) : Int := if n = 0 then 0 else 8 * (n : Int) + 7
def pagesN (n : Int) : Nat := 1 + (um n 40).toNat
theorem pagesN_bd (n : Int) : 1 ≤ pagesN n ∧ pagesN n ≤ 40 := by
  have := um_bd n (show (0 : Int) < 40 by decide)
  unfold pagesN
  omega
theorem take_eq_of {l m : List ByteArray} {i : Nat} (h : l.take i = m.take i) (hl : i < l.length) (hm : i < m.length) (he : l[i] = m[i]) : l.take (i + 1) = m.take (i + 1) := by
  rw [List.take_succ_eq_append_getElem hl, List.take_succ_eq_append_getElem hm, h, he]
section
variable {B Bc : Nat} {W w w' : World} {q p b r : Nat} {v u vp : Value} {L : List ByteArray} {G : Pg} {D : Dv} {Q : Value → World → Prop}
theorem with_loop {cs : List Ch} {j1 : Value → M} (hr : RfAt W.heap.size w r u L) (hcs : rdS 2 (eR encC) W v cs) (hW : Below W.heap.size W w) (hl : cs.length ≤ 31) (hbd : ∀ x ∈ cs, 0 ≤ x.1 ∧ x.1 < (L.length : Int)) :
    ∀ (d m i : Nat) (w1 : World), i + d = cs.length → d < m → ChgS (fun k => u.ownBlock = some k) w w1 → ownV W.heap.size 9 w1 u ((setL L (cs.take i)).map .string) →
    (∀ w', ChgS (fun k => u.ownBlock = some k) w w' → ownV W.heap.size 9 w' u ((setL L cs).map .string) → j1 (pv r) w' Q) →
    itr (fun _ _ _ => bot) (f46_b2 j1) m v (pv r) (.int .i64 ((i : Nat) : Int)) w1 Q := by
  have uT : ∀ g, u.ownBlock = some g → W.heap.size ≤ g ∧ g ≠ r := fun g hg => by
    obtain ⟨h1, _, cur, hcur⟩ := ownV_lt hr.hu g hg
    exact ⟨h1, fun e => by rw [e, hr.hr] at hcur; cases hcur⟩
  intro d
  induction d with
  | zero =>
    intro m i w1 hi hm hc ho kk
    obtain ⟨m, rfl⟩ : ∃ x, m = x + 1 := ⟨m - 1, by omega⟩
    show f46_b2 j1 _ _ _ _ w1 Q
    unfold f46_b2
    have lv := lnl_S hcs
    have cc : ¬ (i : Int) < (cs.length : Nat) := by omega
    try simp only [↓reduceIte, ↓LL, LM, Value.cells, Nat.reduceAdd, Option.some.injEq, exists_eq_left', decide_true, decide_false, if_true, if_false, reduceCtorEq, cond_true, cond_false, lv, cc]
    rw [List.take_of_length_le (by omega)] at ho
    exact kk w1 hc ho
  | succ d ih =>
    intro m i w1 hi hm hc ho kk
    obtain ⟨m, rfl⟩ : ∃ x, m = x + 1 := ⟨m - 1, by omega⟩
    show f46_b2 j1 _ _ _ _ w1 Q
    unfold f46_b2
    have lv := lnl_S hcs
    have cc : (i : Int) < (cs.length : Nat) := by omega
    have hil : i < cs.length := by omega
    have h3 : IntKind.i64.wrap ((i : Int) + 1) = ((i + 1 : Nat) : Int) := by rw [w64 (by omega) (by omega)]; rfl
    have hb1 : Below W.heap.size W w1 := hW.trans (hc.below (fun k hk => (uT k hk).1) hW.size)
    obtain ⟨ad, es, he1, he2, he3, hia⟩ := rdS_at (rdS_below eR_st hb1 hcs) hil
    have he3 : es = encC cs[i] := he3
    have c0 : w1.cell? (ad.add 0) = some (.int .i64 cs[i].1) := he2 0 _ (by rw [he3]; rfl)
    have c1 : w1.cell? (ad.add 1) = some (.string cs[i].2) := he2 1 _ (by rw [he3]; rfl)
    have hts : cs.take (i + 1) = cs.take i ++ [cs[i]] := List.take_succ_eq_append_getElem hil
    obtain ⟨n0, n1⟩ := hbd _ (List.getElem_mem hil)
    generalize cs[i] = x at *
    obtain ⟨n, s⟩ := x
    obtain ⟨n, rfl⟩ := Int.eq_ofNat_of_zero_le n0
    have n1 : ((n : Nat) : Int) < (L.length : Int) := n1
    have hr1 := hc.keep hr.hr fun h => (uT r h).2 rfl
    have q0 : w1.cell? ⟨r, 0, none⟩ = some u := by rw [cell_of_blk hr1]; rfl
    try simp only [↓reduceIte, ↓LL, LM, Value.cells, Nat.reduceAdd, Option.some.injEq, exists_eq_left', decide_true, decide_false, if_true, if_false, reduceCtorEq, cond_true, cond_false, lv, cc, hia, c0, c1, q0]
    refine ia_stV (w := drw w1) (show ownV W.heap.size 9 (drw w1) u _ from ho) (i := n) (by rw [List.length_map, setL_len]; omega) rfl fun w3 g3 hg3 o3 up3 => ?_
    have es3 : ((setL L (cs.take i)).map Value.string).set n (.string s) = (setL L (cs.take (i + 1))).map .string := by rw [hts, setL_snoc, List.map_set]; rfl
    rw [es3] at o3
    try simp only [↓reduceIte, ↓LL, LM, Value.cells, Nat.reduceAdd, Option.some.injEq, exists_eq_left', decide_true, decide_false, if_true, if_false, reduceCtorEq, cond_true, cond_false, h3]
    exact ih m (i + 1) w3 (by omega) (by omega) (hc.drw.trans (ChgS.of_upd up3 hg3) fun _ _ h => h) o3 kk
theorem f46_s {cs : List Ch} (hq : RfAt B w r u L) (hcs : rdS 2 (eR encC) w v cs) (hl : cs.length ≤ 31) (hbd : ∀ x ∈ cs, 0 ≤ x.1 ∧ x.1 < (L.length : Int)) (hL : L.length ≤ 1000)
    (kk : ∀ w' r' u', Below w.heap.size w w' → RfAt w.heap.size w' r' u' (setL L cs) → Q (pv r') w') : f46 (pv r) v w Q := by
  unfold f46
  have c0 := hq.c0
  try simp only [↓reduceIte, ↓LL, LM, Value.cells, Nat.reduceAdd, Option.some.injEq, exists_eq_left', decide_true, decide_false, if_true, if_false, reduceCtorEq, cond_true, cond_false, c0]
  refine ap_E (B := w.heap.size) (l := []) (m := L) slS rfl (by decide) encT_len encT_one ownE_nil (ownE_rd encT_len (by decide) (ownV_T hq.hu)) (by rw [List.length_nil]; unfold maxLen; omega) (by rw [List.length_nil]; omega) (Nat.le_refl _) fun v2 w2 o2 g2 f2 => ?_
  have hc2 : ChgS (fun _ => False) w w2 := ChgS.grown g2 fun k hk => by cases hk
  have b2 : Below w.heap.size w w2 := hc2.below (fun k hk => hk.elim) (Nat.le_refl _)
  have o2 : ownV w.heap.size 9 w2 v2 (L.map .string) := ownT_V o2
  have ow := o2
  obtain ⟨pp, cc, rfl⟩ := ownV_len o2
  try simp only [↓reduceIte, ↓LL, LM, Value.cells, Nat.reduceAdd, Option.some.injEq, exists_eq_left', decide_true, decide_false, if_true, if_false, reduceCtorEq, cond_true, cond_false]
  rw [smr_run (buildR1 _ _ _ w2)]
  have b3 := b_psh w2 (.cells #[.slice pp (L.map Value.string).length cc] 102)
  have r3 := blk_psh_new (w := w2) (o := .cells #[.slice pp (L.map Value.string).length cc] 102)
  have o3 := ownV_below o2 b3
  have b03 := bt b2 b3
  try simp only [↓reduceIte, ↓LL, LM, Value.cells, Nat.reduceAdd, Option.some.injEq, exists_eq_left', decide_true, decide_false, if_true, if_false, reduceCtorEq, cond_true, cond_false]
  generalize psh w2 (.cells #[.slice pp (L.map Value.string).length cc] 102) = w3 at *
  have s2 := b2.size
  refine ⟨_, with_loop (W := w) (w := w3) ⟨s2, r3, o3⟩ hcs b03 hl hbd cs.length (cs.length + 1) 0 w3 (by omega) (by omega) (ChgS.refl _ _) o3 fun w4 hc4 o4 => ?_⟩
  have uT : ∀ g, (Value.slice pp (L.map Value.string).length cc).ownBlock = some g → w.heap.size ≤ g ∧ g ≠ w2.heap.size := fun g hg => by
    obtain ⟨h1, _, cur, hcur⟩ := ownV_lt o3 g hg
    exact ⟨h1, fun e => by rw [e, r3] at hcur; cases hcur⟩
  unfold f46_j1
  try simp only [↓reduceIte, ↓LL, LM, Value.cells, Nat.reduceAdd, Option.some.injEq, exists_eq_left', decide_true, decide_false, if_true, if_false, reduceCtorEq, cond_true, cond_false]
  exact kk w4 _ _ (b03.trans (hc4.below (fun k hk => (uT k hk).1) b03.size)) ⟨s2, hc4.keep r3 fun h => (uT _ h).2 rfl, o4⟩
theorem same_loop (hp : w.heap[q]? = some (.cells #[pv p, u, .bool G.st, .int .i64 G.c] 133 (0, 0))) (hu : ownV B 9 w u (G.L.map .string)) (hr : RfAt Bc w r v L) (hlen : G.L.length = L.length) (hL : L.length ≤ 1000) :
    ∀ (d m i : Nat), i + d = L.length → d < m → G.L.take i = L.take i → Q (.bool (decide (G.L = L))) w →
    itr (fun _ _ _ => bot) (f49_b2 f49_j1) m (pv q) (pv r) (.int .i64 ((i : Nat) : Int)) w Q := by
  intro d
  induction d with
  | zero =>
    intro m i hi hm ht kk
    obtain ⟨m, rfl⟩ : ∃ x, m = x + 1 := ⟨m - 1, by omega⟩
    show f49_b2 f49_j1 _ _ _ _ w Q
    unfold f49_b2
    have q0 := hr.c0
    have lr := hr.lnl
    have cc : ¬ (i : Int) < (L.length : Nat) := by omega
    try simp only [↓reduceIte, ↓LL, LM, Value.cells, Nat.reduceAdd, Option.some.injEq, exists_eq_left', decide_true, decide_false, if_true, if_false, reduceCtorEq, cond_true, cond_false, q0, lr, cc]
    unfold f49_j1
    try simp only [↓reduceIte, ↓LL, LM, Value.cells, Nat.reduceAdd, Option.some.injEq, exists_eq_left', decide_true, decide_false, if_true, if_false, reduceCtorEq, cond_true, cond_false]
    have : G.L = L := by
      rw [List.take_of_length_le (by omega), List.take_of_length_le (by omega)] at ht
      exact ht
    rw [decide_eq_true this] at kk
    exact kk
  | succ d ih =>
    intro m i hi hm ht kk
    obtain ⟨m, rfl⟩ : ∃ x, m = x + 1 := ⟨m - 1, by omega⟩
    show f49_b2 f49_j1 _ _ _ _ w Q
    unfold f49_b2
    have q0 := hr.c0
    have lr := hr.lnl
    have cc : (i : Int) < (L.length : Nat) := by omega
    have hil : i < L.length := by omega
    have hig : i < G.L.length := by omega
    have h3 : IntKind.i64.wrap ((i : Int) + 1) = ((i + 1 : Nat) : Int) := by rw [w64 (by omega) (by omega)]; rfl
    obtain ⟨g, hia, hc, _⟩ := cell_V hr.hu (i := i) (by rw [List.length_map]; exact hil)
    rw [List.getElem_map] at hc
    have ep : pgR G.L ((i : Nat) : Int) = (G.L[i], 0) := by
      unfold pgR
      rw [if_pos (by omega), Int.toNat_natCast, List.getD_eq_getElem?_getD, List.getElem?_eq_getElem hig]; rfl
    try simp only [↓reduceIte, ↓LL, LM, Value.cells, Nat.reduceAdd, Option.some.injEq, exists_eq_left', decide_true, decide_false, if_true, if_false, reduceCtorEq, cond_true, cond_false, q0, lr, cc]
    refine f78_s hp hu ?_
    rw [ep]
    by_cases c : G.L[i] = L[i]
    · try simp only [↓reduceIte, ↓LL, LM, Value.cells, Nat.reduceAdd, Option.some.injEq, exists_eq_left', decide_true, decide_false, if_true, if_false, reduceCtorEq, cond_true, cond_false, get0, get1, ne_eq, q0, hia, hc, c, h3]
      exact ih m (i + 1) (by omega) (by omega) (take_eq_of ht hig hil c) kk
    · have : ¬ G.L = L := by
        intro e
        exact c (by simp [e])
      rw [decide_eq_false this] at kk
      try simp only [↓reduceIte, ↓LL, LM, Value.cells, Nat.reduceAdd, Option.some.injEq, exists_eq_left', decide_true, decide_false, if_true, if_false, reduceCtorEq, cond_true, cond_false, get0, get1, ne_eq, q0, hia, hc, c]
      exact kk
theorem f49_s (hp : w.heap[q]? = some (.cells #[pv p, u, .bool G.st, .int .i64 G.c] 133 (0, 0))) (hu : ownV B 9 w u (G.L.map .string)) (hr : RfAt Bc w r v L) (hL : L.length ≤ 1000) (kk : ∀ w', Below w.heap.size w w' → Q (.bool (decide (G.L = L))) w') : f49 (pv q) (pv r) w Q := by
  unfold f49
  have bd : Below w.heap.size w (drw w) := ⟨rfl, rfl, rfl, Nat.le_refl _, fun _ _ => rfl⟩
  have hr' : RfAt Bc (drw w) r v L := hr.below bd
  have hp' : (drw w).heap[q]? = some (.cells #[pv p, u, .bool G.st, .int .i64 G.c] 133 (0, 0)) := hp
  have hu' : ownV B 9 (drw w) u (G.L.map .string) := hu
  have q0 := hr'.c0
  have q0' := hr.c0
  have lr := hr'.lnl
  try simp only [↓reduceIte, ↓LL, LM, Value.cells, Nat.reduceAdd, Option.some.injEq, exists_eq_left', decide_true, decide_false, if_true, if_false, reduceCtorEq, cond_true, cond_false, q0, q0', lr]
  refine f79_s hp' hu' ?_
  try simp only [↓reduceIte, ↓LL, LM, Value.cells, Nat.reduceAdd, Option.some.injEq, exists_eq_left', decide_true, decide_false, if_true, if_false, reduceCtorEq, cond_true, cond_false]
  refine ⟨by rw [Kld_e]; exact q0, ?_⟩
  by_cases c : G.L.length = L.length
  · have c1 : ((G.L.length : Nat) : Int) = (L.length : Int) := by omega
    try simp only [↓reduceIte, ↓LL, LM, Value.cells, Nat.reduceAdd, Option.some.injEq, exists_eq_left', decide_true, decide_false, if_true, if_false, reduceCtorEq, cond_true, cond_false, ne_eq, c1]
    exact ⟨_, same_loop hp' hu' hr' c hL L.length (L.length + 1) 0 (by omega) (by omega) rfl (kk _ bd)⟩
  · have c1 : ¬ ((G.L.length : Nat) : Int) = (L.length : Int) := by omega
    have := kk _ bd
    rw [decide_eq_false (fun e => c (by rw [e]))] at this
    try simp only [↓reduceIte, ↓LL, LM, Value.cells, Nat.reduceAdd, Option.some.injEq, exists_eq_left', decide_true, decide_false, if_true, if_false, reduceCtorEq, cond_true, cond_false, ne_eq, c1]
    exact this
theorem f36_s {n : Int} (kk : Q (.int .i64 ((pagesN n : Nat) : Int)) w) : f36 (.int .i64 n) w Q := by
  unfold f36
  have h := um_bd n (show (0 : Int) < 40 by decide)
  have e1 : (IntKind.u64.wrap n).tmod 40 = um n 40 := rfl
  have e2 : IntKind.i64.wrap (um n 40) = um n 40 := w64 (by omega) (by omega)
  have e3 : IntKind.i64.wrap (1 + um n 40) = ((pagesN n : Nat) : Int) := by rw [w64 (by omega) (by omega)]; unfold pagesN; omega
  have z : ¬ (40 : Int) = 0 := by decide
  try simp only [↓reduceIte, ↓LL, LM, Value.cells, Nat.reduceAdd, Option.some.injEq, exists_eq_left', decide_true, decide_false, if_true, if_false, reduceCtorEq, cond_true, cond_false, e1, e2, e3, z]
  first
    | exact kk
    | exact ⟨by decide, kk⟩
    | skip
  try simp only [↓reduceIte, ↓LL, LM, Value.cells, Nat.reduceAdd, Option.some.injEq, exists_eq_left', decide_true, decide_false, if_true, if_false, reduceCtorEq, cond_true, cond_false, e1, e2, e3, z]
  try exact kk
end
end Go.Proofs.YtongpnolikkknaaGreatDoor

set_option maxRecDepth 20000
set_option maxHeartbeats 4000000
namespace Go.Proofs.YtongpnolikkknaaGreatDoor
open Sh RowKit Go.MapKept
theorem nd0 (k : Nat) : 0 ≤ (newD k).c := Int.le_refl 0
theorem nd1 (k : Nat) : (newD k).c + 200 ≤ 1000000 := by show (0 + 200 : Int) ≤ 1000000; decide
def anyG (m : Nat) (l : List Int) (f0 : Int) : Int := if l.any (fun x => decide ((m : Int) ≤ x)) = true then 10 else f0
section
variable {B : Nat} {W w w' : World} {q p b : Nat} {v u : Value} {D : Dv} {Q : Value → World → Prop}
end
end Go.Proofs.YtongpnolikkknaaGreatDoor

/-
  DERIVED: THE SHELF's CONTRACTS AT THIS DUMP, IN PLAIN WORDS (tools/lay-plain.mjs out of 'TryzKeptZ.lean', which tools/lay-shelf.mjs wrote): THE SAME DECLARATIONS UNDER THE SAME NAMES: 'import', 'namespace', 'open', 'def', 'theorem' AND NOTHING ELSE: no command of the shelf's: FOR A HAND-IN. Each laying: the table of numbers ('.._ren') and one theorem, a field a fact of the dump's own or the kernel's comparison; each contract: ONE APPLICATION.
-/
namespace Go.Proofs
open Go.Shelf
def YtongpnolikkknaaGreatDoor.keysA_ren : Go.Shelf.Ren := ⟨fun | 7 => 93 | 10 => 122 | n => n, fun | 23 => 128 | 26 => 3 | 3 => 145 | 28 => 142 | 0 => 0 | 27 => 141 | 33 => 60 | 4 => 4 | n => n, fun | n => n⟩
theorem YtongpnolikkknaaGreatDoor.keysA : Go.Proofs.SlLaysZI.n7 Tryz.prog YtongpnolikkknaaGreatDoor.keysA_ren := {
  mixed := by kernel_rfl
  f7 := ⟨Tryz.f93.name, by decide, Tryz.func93.trans (congrArg some (by kernel_rfl))⟩
  f10 := ⟨Tryz.f122.name, by decide, Tryz.func122.trans (congrArg some (by kernel_rfl))⟩
  t0 := Tryz.underlying0
  a0 := Tryz.isAgg0
  z0 := Tryz.sizeOf0
  v0 := Tryz.zeroValue0
  t4 := Tryz.underlying4
  a4 := Tryz.isAgg4
  z4 := Tryz.sizeOf4
  v4 := Tryz.zeroValue4
  t23 := Tryz.underlying128
  a23 := Tryz.isAgg128
  z23 := Tryz.sizeOf128
  v23 := Tryz.zeroValue128
  t26 := Tryz.underlying3
  a26 := Tryz.isAgg3
  z26 := Tryz.sizeOf3
  v26 := Tryz.zeroValue3
  t27 := Tryz.underlying141
  a27 := Tryz.isAgg141
  z27 := Tryz.sizeOf141
  v27 := Tryz.zeroValue141
  t28 := Tryz.underlying142
  a28 := Tryz.isAgg142
  z28 := Tryz.sizeOf142
  v28 := Tryz.zeroValue142
  t33 := Tryz.underlying60
  a33 := Tryz.isAgg60
  z33 := Tryz.sizeOf60
  v33 := Tryz.zeroValue60 }
def YtongpnolikkknaaGreatDoor.sortedA_ren : Go.Shelf.Ren := ⟨fun | 6 => 92 | 8 => 120 | 9 => 121 | 11 => 151 | 13 => 153 | 12 => 152 | 23 => 181 | 24 => 182 | 14 => 172 | 15 => 173 | 16 => 174 | 17 => 175 | 18 => 176 | 19 => 177 | 20 => 178 | 21 => 179 | 22 => 180 | 25 => 189 | 26 => 190 | 27 => 191 | 28 => 192 | 29 => 193 | 30 => 194 | 31 => 198 | n => n, fun | 26 => 3 | 28 => 142 | 24 => 22 | 0 => 0 | 3 => 3 | 37 => 37 | 48 => 198 | 50 => 185 | 4 => 4 | 40 => 218 | 39 => 217 | 45 => 223 | 5 => 5 | 9 => 9 | 51 => 234 | 55 => 238 | 57 => 241 | 58 => 242 | 33 => 60 | n => n, fun | n => n⟩
theorem YtongpnolikkknaaGreatDoor.sortedA : Go.Proofs.SlLaysZI.n6 Tryz.prog YtongpnolikkknaaGreatDoor.sortedA_ren := {
  mixed := by kernel_rfl
  f6 := ⟨Tryz.f92.name, by decide, Tryz.func92.trans (congrArg some (by kernel_rfl))⟩
  f8 := ⟨Tryz.f120.name, by decide, Tryz.func120.trans (congrArg some (by kernel_rfl))⟩
  f11 := ⟨Tryz.f151.name, by decide, Tryz.func151.trans (congrArg some (by kernel_rfl))⟩
  t0 := Tryz.underlying0
  a0 := Tryz.isAgg0
  z0 := Tryz.sizeOf0
  v0 := Tryz.zeroValue0
  t24 := Tryz.underlying22
  a24 := Tryz.isAgg22
  z24 := Tryz.sizeOf22
  v24 := Tryz.zeroValue22
  t26 := Tryz.underlying3
  a26 := Tryz.isAgg3
  z26 := Tryz.sizeOf3
  v26 := Tryz.zeroValue3
  t28 := Tryz.underlying142
  a28 := Tryz.isAgg142
  z28 := Tryz.sizeOf142
  v28 := Tryz.zeroValue142
  i26 := by kernel_rfl }
def YtongpnolikkknaaGreatDoor.sortA_ren : Go.Shelf.Ren := ⟨fun | 5 => 121 | 8 => 153 | 7 => 152 | 19 => 181 | 20 => 182 | 10 => 172 | 11 => 173 | 12 => 174 | 13 => 175 | 14 => 176 | 15 => 177 | 16 => 178 | 17 => 179 | 18 => 180 | 30 => 189 | 31 => 190 | 32 => 191 | 33 => 192 | 34 => 193 | 35 => 194 | 40 => 198 | n => n, fun | 23 => 22 | 25 => 3 | 3 => 3 | 32 => 37 | 22 => 22 | 0 => 0 | 44 => 198 | 46 => 185 | 4 => 4 | 36 => 218 | 35 => 217 | 41 => 223 | 5 => 5 | 9 => 9 | 53 => 234 | 57 => 238 | 63 => 241 | 64 => 242 | n => n, fun | n => n⟩
theorem YtongpnolikkknaaGreatDoor.sortA : Go.Proofs.SlLaysM.n5 Tryz.prog YtongpnolikkknaaGreatDoor.sortA_ren := {
  mixed := by kernel_rfl
  f5 := ⟨Tryz.f121.name, by decide, Tryz.func121.trans (congrArg some (by kernel_rfl))⟩
  f7 := ⟨Tryz.f152.name, by decide, Tryz.func152.trans (congrArg some (by kernel_rfl))⟩
  f8 := Tryz.func153.trans (congrArg some (by kernel_rfl))
  f10 := ⟨Tryz.f172.name, by decide, Tryz.func172.trans (congrArg some (by kernel_rfl))⟩
  f11 := ⟨Tryz.f173.name, by decide, Tryz.func173.trans (congrArg some (by kernel_rfl))⟩
  f12 := ⟨Tryz.f174.name, by decide, Tryz.func174.trans (congrArg some (by kernel_rfl))⟩
  f13 := ⟨Tryz.f175.name, by decide, Tryz.func175.trans (congrArg some (by kernel_rfl))⟩
  f14 := ⟨Tryz.f176.name, by decide, Tryz.func176.trans (congrArg some (by kernel_rfl))⟩
  f15 := ⟨Tryz.f177.name, by decide, Tryz.func177.trans (congrArg some (by kernel_rfl))⟩
  f16 := ⟨Tryz.f178.name, by decide, Tryz.func178.trans (congrArg some (by kernel_rfl))⟩
  f17 := ⟨Tryz.f179.name, by decide, Tryz.func179.trans (congrArg some (by kernel_rfl))⟩
  f18 := ⟨Tryz.f180.name, by decide, Tryz.func180.trans (congrArg some (by kernel_rfl))⟩
  f19 := Tryz.func181.trans (congrArg some (by kernel_rfl))
  f20 := Tryz.func182.trans (congrArg some (by kernel_rfl))
  f30 := ⟨Tryz.f189.name, by decide, Tryz.func189.trans (congrArg some (by kernel_rfl))⟩
  f31 := Tryz.func190.trans (congrArg some (by kernel_rfl))
  f32 := Tryz.func191.trans (congrArg some (by kernel_rfl))
  f33 := ⟨Tryz.f192.name, by decide, Tryz.func192.trans (congrArg some (by kernel_rfl))⟩
  f34 := ⟨Tryz.f193.name, by decide, Tryz.func193.trans (congrArg some (by kernel_rfl))⟩
  f35 := ⟨Tryz.f194.name, by decide, Tryz.func194.trans (congrArg some (by kernel_rfl))⟩
  f40 := ⟨Tryz.f198.name, by decide, Tryz.func198.trans (congrArg some (by kernel_rfl))⟩
  t0 := Tryz.underlying0
  a0 := Tryz.isAgg0
  z0 := Tryz.sizeOf0
  v0 := Tryz.zeroValue0
  t3 := Tryz.underlying3
  a3 := Tryz.isAgg3
  z3 := Tryz.sizeOf3
  v3 := Tryz.zeroValue3
  t4 := Tryz.underlying4
  a4 := Tryz.isAgg4
  z4 := Tryz.sizeOf4
  v4 := Tryz.zeroValue4
  t5 := Tryz.underlying5
  a5 := Tryz.isAgg5
  z5 := Tryz.sizeOf5
  v5 := Tryz.zeroValue5
  t9 := Tryz.underlying9
  a9 := Tryz.isAgg9
  z9 := Tryz.sizeOf9
  v9 := Tryz.zeroValue9
  t22 := Tryz.underlying22
  a22 := Tryz.isAgg22
  z22 := Tryz.sizeOf22
  v22 := Tryz.zeroValue22
  t23 := Tryz.underlying22
  a23 := Tryz.isAgg22
  z23 := Tryz.sizeOf22
  v23 := Tryz.zeroValue22
  t25 := Tryz.underlying3
  a25 := Tryz.isAgg3
  z25 := Tryz.sizeOf3
  v25 := Tryz.zeroValue3
  t32 := Tryz.underlying37
  a32 := Tryz.isAgg37
  z32 := Tryz.sizeOf37
  v32 := Tryz.zeroValue37
  t35 := Tryz.underlying217
  a35 := Tryz.isAgg217
  z35 := Tryz.sizeOf217
  v35 := Tryz.zeroValue217
  t36 := Tryz.underlying218
  a36 := Tryz.isAgg218
  z36 := Tryz.sizeOf218
  v36 := Tryz.zeroValue218
  t41 := Tryz.underlying223
  a41 := Tryz.isAgg223
  z41 := Tryz.sizeOf223
  v41 := Tryz.zeroValue223
  t44 := Tryz.underlying198
  a44 := Tryz.isAgg198
  z44 := Tryz.sizeOf198
  v44 := Tryz.zeroValue198
  t46 := Tryz.underlying185
  a46 := Tryz.isAgg185
  z46 := Tryz.sizeOf185
  v46 := Tryz.zeroValue185
  t53 := Tryz.underlying234
  a53 := Tryz.isAgg234
  z53 := Tryz.sizeOf234
  v53 := Tryz.zeroValue234
  t57 := Tryz.underlying238
  a57 := Tryz.isAgg238
  z57 := Tryz.sizeOf238
  v57 := Tryz.zeroValue238
  t63 := Tryz.underlying241
  a63 := Tryz.isAgg241
  z63 := Tryz.sizeOf241
  v63 := Tryz.zeroValue241
  t64 := Tryz.underlying242
  a64 := Tryz.isAgg242
  z64 := Tryz.sizeOf242
  v64 := Tryz.zeroValue242 }
end Go.Proofs

namespace Go.Proofs.YtongpnolikkknaaGreatDoor
open Go.Shelf
open Sh RowKit Go.Maps Go.Sort
theorem sortsA (m : Nat) : AnyZI.SortsIn Tryz.prog sortedA_ren Fence.wide m :=
  ⟨fun blk off cap ss W hH hblk hsz => callsIn_wide.2 (AnyM.slices_Sort_int sortA blk off cap ss W hH hblk hsz),
   fun p cap W => callsIn_wide.2 (AnyM.slices_Sort_int_none sortA p cap W)⟩
abbrev R0 : Value → Option (DataW Unit × List MemPlace) := fun _ => some (.map [], [])
theorem sorted_c {w : World} {b nn : Nat} {D0 : DataW Unit} (hown : w.ownsMap Tryz.prog 3 R0 b nn D0) (hmax : Maps.size D0 ≤ maxLen) (hbytes : Maps.size D0 * 8 ≤ 140737488355328) :
    Calls Tryz.prog 92 #[.func (.func 122) #[] #[.pointer (some ⟨w.heap.size, 0, none⟩)]] (w.alloc (.cells #[.map (some b)] 128)) fun e w' => ∃ (v : Value) (ss : List Int), e = .returned v ∧ ss.Perm (intKeys D0) ∧
      w'.ownsRow (w.heap.size + 1) 3 1 v ss.length ((ss.mergeSort (fun x y => decide (x ≤ y))).map encZ) ∧ Below (w.heap.size + 1) (w.alloc (.cells #[.map (some b)] 128)) w' := by
  refine (callsIn_wide (n := 5)).1 ?_
  have hbl := hown.lt
  have hseq : SeqGives Fence.wide 2 Tryz.prog 122 #[.pointer (some ⟨w.heap.size, 0, none⟩)] encZ (fun ss => ss.Perm (intKeys D0)) (Maps.size D0) (w.alloc (.cells #[.map (some b)] 128)) :=
    AnyZI.keys_gives (ρ := keysA_ren) { keysA with } Fence.wide _ trivial rfl (by omega) w.heap.size b nn D0 _ (by simp) (by simp) (by
      obtain ⟨es, clock, hb, Ft, hs, hD⟩ := hown
      exact ⟨es, clock, (Below.heap_alloc _ _ b hbl).trans hb, Ft, hs, hD⟩)
  have cS := AnyZI.sorted_in sortedA Fence.wide 5 trivial trivial trivial trivial rfl (by omega) (sortsA _) (enters_of Tryz.func121 (by kernel_rfl) rfl) 122 #[.pointer (some ⟨w.heap.size, 0, none⟩)] trivial (enters_of Tryz.func122 (by kernel_rfl) rfl) _ _ hmax hbytes _ hseq
  change CallsIn _ _ Tryz.prog 92 _ _ _ at cS
  refine cS.mono ?_
  rintro e w' ⟨v, ss, rfl, hS, hrow, hnil, hb⟩
  have hrow2 : w'.ownsRow (w.heap.size + 1) 3 1 v ss.length ((ss.mergeSort (fun x y => decide (x ≤ y))).map encZ) := by
    have := hrow
    simp only [World.size_alloc] at this
    exact this
  exact ⟨v, ss, rfl, hS, hrow2, by simpa using hb⟩
open Go.WideElems in
theorem ownsMap_of {w : World} {b : Nat} {L : List (Int × Value)} (h : MapAt kI w b L) (hk : ∀ p ∈ L, 0 ≤ p.1 ∧ p.1 < 4096) (hL : L.length ≤ 4096) :
    ∃ D0 : DataW Unit, w.ownsMap Tryz.prog 3 R0 b L.length D0 ∧ (intKeys D0).Perm (L.map (·.1)) ∧ Maps.size D0 = L.length := by
  obtain ⟨es, clock, h1, h2, h3⟩ := h
  have hlen : es.size = L.length := by have := congrArg List.length h3; simpa using this
  have hrd : ∀ x ∈ es.toList, ∃ i : Int, (∃ v, (i, v) ∈ L) ∧ x.key = .int .i64 i ∧ WideElems.rd (H := Unit) Tryz.prog 3 R0 x = some (.int .i64 i, .map []) := by
    intro x hx
    have : (x.key, x.val) ∈ L.map (fun p => (kI p.1, p.2)) := h3 ▸ List.mem_map.2 ⟨x, hx, rfl⟩
    obtain ⟨p, hp, e⟩ := List.mem_map.1 this
    have e1 : x.key = kI p.1 := (Prod.mk.inj e).1.symm
    have hr := hk p hp
    have hw : (Lit.int .i64 p.1).wf = true := by
      unfold Lit.wf; simp [IntKind.min, IntKind.max, IntKind.signed, IntKind.bits]; omega
    refine ⟨p.1, ⟨p.2, hp⟩, e1, ?_⟩
    unfold WideElems.rd
    rw [e1, show kI p.1 = .int .i64 p.1 from rfl, Go.Maps.keyOf_int_mk Tryz.underlying3 hw]
    rfl
  refine ⟨.map ((es.toList.map (rg Tryz.prog 3 R0)).foldr DataW.insert []), ⟨es, clock, h1, ⟨by rw [hlen]; unfold maxLen; omega, h2, fun x hx => ?_⟩, by omega, rfl⟩, ?_, ?_⟩
  · obtain ⟨i, _, _, e⟩ := hrd x hx
    exact ⟨_, e⟩
  · show List.Perm (((es.toList.map (rg Tryz.prog 3 R0)).foldr DataW.insert []).map fun p => Go.intOf p.1) _
    refine ((WideShapes.sorted_perm _).map _).trans ?_
    have : (es.toList.map (rg (H := Unit) Tryz.prog 3 R0)).map (fun p => Go.intOf p.1) = L.map (·.1) := by
      rw [List.map_map]
      have e2 : L.map (·.1) = (L.map (fun p => (kI p.1, p.2))).map (fun q => match q.1 with | .int _ a => a | _ => 0) := by
        rw [List.map_map]; rfl
      rw [e2, ← h3, List.map_map]
      refine List.map_congr_left fun x hx => ?_
      obtain ⟨i, _, e, e'⟩ := hrd x hx
      simp [rg, e', e, Go.intOf]
    rw [this]
  · show ((es.toList.map (rg Tryz.prog 3 R0)).foldr DataW.insert []).length = _
    rw [(WideShapes.sorted_perm _).length_eq, List.length_map, Array.length_toList, hlen]
/-- the keys of a map, in order -/
theorem keys_s {w : World} {b : Nat} {L : List (Int × Value)} {K : Value → M} {Q : Value → World → Prop} (h : MapAt kI w b L) (hk : ∀ p ∈ L, 0 ≤ p.1 ∧ p.1 < 4096) (hL : L.length ≤ 4096)
    (kk : ∀ w' v, ownI w.heap.size 3 .i64 w' v ((L.map (·.1)).mergeSort (fun x y => decide (x ≤ y))) → Below w.heap.size w w' → K v w' Q) : cc Tryz.prog 93 #[.map (some b)] (fun t9 => cc Tryz.prog 92 #[t9] K) w Q := by
  obtain ⟨D0, ho, hp, hs⟩ := ownsMap_of h hk hL
  have hc := sorted_c ho (by rw [hs]; unfold maxLen; omega) (by rw [hs]; omega)
  have cK : Calls Tryz.prog 93 #[.map (some b)] w fun e w' => e = .returned (.func (.func 122) #[] #[.pointer (some ⟨w.heap.size, 0, none⟩)]) ∧ w' = w.alloc (.cells #[.map (some b)] 128) := (callsIn_wide (n := 5)).1 (AnyZI.keys_in keysA Fence.wide 5 trivial rfl (some b) w)
  refine cK.mono ?_
  rintro e w' ⟨rfl, rfl⟩
  refine hc.mono ?_
  rintro e w' ⟨v, ss, rfl, hS, hrow, hb⟩
  have e1 : ss.mergeSort (fun x y => decide (x ≤ y)) = (L.map (·.1)).mergeSort (fun x y => decide (x ≤ y)) := by
    have hp2 : ((ss.mergeSort (fun x y => decide (x ≤ y))).Perm ((L.map (·.1)).mergeSort (fun x y => decide (x ≤ y)))) := (List.mergeSort_perm _ _).trans ((hS.trans hp).trans (List.mergeSort_perm _ _).symm)
    refine hp2.eq_of_pairwise (le := fun x y => x ≤ y) (fun a b _ _ h1 h2 => by omega) ?_ ?_
    · exact (List.pairwise_mergeSort (le := fun x y => decide (x ≤ y)) (fun a b c h1 h2 => by simp at *; omega) (fun a b => by simp; omega) _).imp (by simp)
    · exact (List.pairwise_mergeSort (le := fun x y => decide (x ≤ y)) (fun a b c h1 h2 => by simp at *; omega) (fun a b => by simp; omega) _).imp (by simp)
  rw [e1] at hrow
  have hl : ss.length = ((L.map (·.1)).mergeSort (fun x y => decide (x ≤ y))).length := by rw [← e1, List.length_mergeSort]
  refine kk w' v ?_ ⟨hb.os, hb.tape, hb.output, Nat.le_trans (by simp) hb.size, fun k hk => ?_⟩
  · have : ownI (w.heap.size + 1) 3 .i64 w' v ((L.map (·.1)).mergeSort (fun x y => decide (x ≤ y))) := by
      unfold ownI
      rw [← hl]
      exact hrow
    exact ownI_weak this (by omega)
  · rw [hb.block k (by omega)]
    exact Below.heap_alloc _ _ k hk
end Go.Proofs.YtongpnolikkknaaGreatDoor

set_option maxRecDepth 20000
namespace Go.Proofs.YtongpnolikkknaaGreatDoor
open Sh RowKit Go.MapKept
section
variable {B : Nat} {w : World} {p b : Nat} {v : Value} {D : Dv} {Q : Value → World → Prop}
theorem f48_s (hd : DevAt B w p v b D) (h : ∀ w' u, ownI w.heap.size 3 .i64 w' u (unsL D.A) → Below w.heap.size w w' → Q u w') : f48 (pv p) w Q := by
  unfold f48
  have c1 := hd.c1
  obtain ⟨L, hm, hl⟩ := hd.mp
  obtain ⟨k1, k2⟩ := keys_ok hd.n hm hl
  rw [pn_eq pt23]
  simp only [↓reduceIte, ↓LL, LM, Value.cells, Nat.reduceAdd, Option.some.injEq, exists_eq_left', decide_true, decide_false, if_true, if_false, reduceCtorEq, cond_true, cond_false, Option.isNone, c1]
  refine keys_s (K := fun t10 => rt t10) hm k1 k2 fun w' u ho hb => ?_
  rw [uns_keys hm.nodup hl] at ho
  exact h w' u ho hb
end
end Go.Proofs.YtongpnolikkknaaGreatDoor

set_option maxRecDepth 20000
set_option maxHeartbeats 4000000
namespace Go.Proofs.YtongpnolikkknaaGreatDoor
open Sh RowKit Go.MapKept
theorem commit_ok {G : Pg} {D : Dv} {cs : List Ch} (h : Rdy D G.L) (ha : AllS D.A) (hv : mayB G.st G.L.length cs = 0) (hh : D.c + 300 ≤ D.h) :
    ∃ D', commitB G D cs = (0, D', ⟨setL G.L cs, G.st, G.c + (if cs.length = 0 then 0 else 1)⟩) ∧ Rdy D' (setL G.L cs) ∧ D'.h = D.h ∧ D'.c = D.c + callsN cs.length ∧ AllS D'.A := by
  by_cases c : cs = []
  · subst c
    refine ⟨D, ?_, h, rfl, ?_, ha⟩
    · rw [commit_no (.inr rfl), hv]
      show ((0 : Int), D, G) = (0, D, ⟨G.L, G.st, G.c + 0⟩)
      rw [Int.add_zero]
    · show D.c = D.c + 0; omega
  · obtain ⟨D', h1, h2, h3, h4, h5, _⟩ := commit_rdy h hv c hh
    have hl : ¬ cs.length = 0 := fun e => c (List.length_eq_zero_iff.1 e)
    refine ⟨D', ?_, h2, h3, ?_, h5⟩
    · rw [h1, if_neg hl]
    · rw [h4]; unfold callsN; rw [if_neg hl]; omega
theorem new_all (n : Nat) : AllS (newD n).A := fun x hx => by
  rw [List.eq_of_mem_replicate (show x ∈ List.replicate n _ from hx)]
structure St (W w : World) (q p b r : Nat) (v u ur : Value) (G : Pg) (D : Dv) : Prop where
  pg : PgAt W.heap.size w q p b v u G D
  rf : RfAt W.heap.size w r ur G.L
  ap : ∀ k, fpP q p b v u k → ¬ fpR r ur k
  bw : Below W.heap.size W w
  rdy : Rdy D G.L
  st : G.st = false
  al : AllS D.A
  hh : D.h = 4611686018427387904
theorem RfAt.fpB {B : Nat} {w : World} {r : Nat} {u : Value} {L : List ByteArray} (h : RfAt B w r u L) : ∀ k, fpR r u k → B ≤ k := by
  rintro k (rfl | hk)
  · exact h.rB
  · exact (ownV_lt h.hu k hk).1
theorem RfAt.lt {B : Nat} {w : World} {r : Nat} {u : Value} {L : List ByteArray} (h : RfAt B w r u L) : ∀ k, fpR r u k → k < w.heap.size := by
  rintro k (rfl | hk)
  · exact blk_lt h.hr
  · exact (ownV_lt h.hu k hk).2.1
section
variable {W w w' : World} {q p b r : Nat} {v u ur vs : Value} {G : Pg} {D : Dv} {Q : Value → World → Prop}
end
end Go.Proofs.YtongpnolikkknaaGreatDoor

set_option maxRecDepth 20000
namespace Go.Proofs.YtongpnolikkknaaGreatDoor
open Sh RowKit Go.MapKept
section
variable {f : Option Sct → Option Sct} {keep : List Bool} {tn cut : Int}
theorem crash1_len (A : List Sec) (i k : Nat) : (crash1 f keep tn cut A i k).length = A.length := by
  unfold crash1; split <;> simp
theorem crash1_get {A : List Sec} {i k : Nat} {x : Sec} (h : A[i]? = some x) (j : Nat) : (crash1 f keep tn cut A i k)[j]? = if j = i then some ⟨nw keep tn cut x k, f x.u⟩ else A[j]? := by
  unfold crash1
  rw [h]
  simp only [List.getElem?_set]
  have := (List.getElem?_eq_some_iff.1 h).1
  by_cases c : j = i
  · subst c; simp [this]
  · rw [if_neg (fun e => c e.symm), if_neg c]
theorem crashL_get : ∀ (rest : List Nat) (A : List Sec) (k : Nat), rest.Nodup → (∀ i ∈ rest, i < A.length) →
    (crashL f keep tn cut A rest k).length = A.length ∧ (∀ j, j ∉ rest → (crashL f keep tn cut A rest k)[j]? = A[j]?) ∧
    ∀ m (hm : m < rest.length), ∃ x, A[rest[m]]? = some x ∧ (crashL f keep tn cut A rest k)[rest[m]]? = some ⟨nw keep tn cut x (k + m), f x.u⟩
  | [], A, k, _, _ => ⟨rfl, fun _ _ => rfl, fun m hm => absurd hm (by simp)⟩
  | i :: r, A, k, hn, hl => by
    obtain ⟨hn1, hn2⟩ := List.nodup_cons.1 hn
    have hi := hl i (by simp)
    have hx := List.getElem?_eq_getElem hi
    obtain ⟨q1, q2, q3⟩ := crashL_get r (crash1 f keep tn cut A i k) (k + 1) hn2 (fun j hj => by rw [crash1_len]; exact hl j (by simp [hj]))
    refine ⟨by show (crashL f keep tn cut (crash1 f keep tn cut A i k) r (k + 1)).length = _; rw [q1, crash1_len], fun j hj => ?_, fun m hm => ?_⟩
    · show (crashL f keep tn cut (crash1 f keep tn cut A i k) r (k + 1))[j]? = _
      rw [q2 j (fun c => hj (by simp [c])), crash1_get hx, if_neg (fun c => hj (by simp [c]))]
    · cases m with
      | zero =>
        refine ⟨A[i], hx, ?_⟩
        show (crashL f keep tn cut (crash1 f keep tn cut A i k) r (k + 1))[i]? = _
        rw [q2 i hn1, crash1_get hx, if_pos rfl]; rfl
      | succ m =>
        obtain ⟨x, h1, h2⟩ := q3 m (by simpa using hm)
        have hne : r[m]'(by simpa using hm) ≠ i := fun c => hn1 (c ▸ List.getElem_mem _)
        refine ⟨x, ?_, ?_⟩
        · rw [crash1_get hx, if_neg hne] at h1; exact h1
        · show (crashL f keep tn cut (crash1 f keep tn cut A i k) r (k + 1))[r[m]'(by simpa using hm)]? = _
          rw [h2, show k + 1 + m = k + (m + 1) by omega]
theorem uns_nodup (A : List Sec) : (uns A).Nodup := (uns_sorted A).imp (by intro a b h; omega)
theorem crash_none (A : List Sec) : ∀ (j : Nat) (x : Sec), (crashL (fun _ => none) keep tn cut A (uns A) 0)[j]? = some x → x.u = none := by
  intro j x hx
  obtain ⟨q1, q2, q3⟩ := crashL_get (f := fun _ => none) (keep := keep) (tn := tn) (cut := cut) (uns A) A 0 (uns_nodup A) (fun i hi => uns_lt hi)
  by_cases c : j ∈ uns A
  · obtain ⟨m, hm, rfl⟩ := List.mem_iff_getElem.1 c
    obtain ⟨y, h1, h2⟩ := q3 m hm
    rw [h2] at hx; cases hx; rfl
  · rw [q2 j c] at hx
    cases hu : x.u with
    | none => rfl
    | some y => exact absurd (uns_mem.2 ⟨x, y, hx, hu⟩) c
theorem crash_two (A : List Sec) : (crashL id keep tn cut A (uns A) 0).map (·.s) = (crashL (fun _ => none) keep tn cut A (uns A) 0).map (·.s) := by
  obtain ⟨q1, q2, q3⟩ := crashL_get (f := fun _ => none) (keep := keep) (tn := tn) (cut := cut) (uns A) A 0 (uns_nodup A) (fun i hi => uns_lt hi)
  obtain ⟨p1, p2, p3⟩ := crashL_get (f := id) (keep := keep) (tn := tn) (cut := cut) (uns A) A 0 (uns_nodup A) (fun i hi => uns_lt hi)
  apply List.ext_getElem?
  intro j
  rw [List.getElem?_map, List.getElem?_map]
  by_cases c : j ∈ uns A
  · obtain ⟨m, hm, rfl⟩ := List.mem_iff_getElem.1 c
    obtain ⟨y, h1, h2⟩ := q3 m hm
    obtain ⟨z, h3, h4⟩ := p3 m hm
    rw [h1] at h3; cases h3
    rw [h2, h4]; rfl
  · rw [q2 j c, p2 j c]
end
theorem encS_torn (y s : Sct) {c : Nat} (hc : c ≤ 64) : encS (torn y s c) = ovl (encS s) 0 ((encS y).take c) := by
  unfold encS ovl
  rw [byL_torn, List.map_append, List.map_take, List.map_drop, List.take_zero, List.nil_append, List.length_take, List.length_map, byL_len, y.2, Nat.zero_add, Nat.min_eq_left hc]
/-- a beginning of an element's cells -/
theorem sla_to {n c : Nat} {a : Addr} {w : World} {K : Value → M} {Q : Value → World → Prop} {x : Int} (h0 : n ≠ 0) (hc : c ≤ n) (hx : x = (c : Int)) (k : K (.slice (some a) c n) w Q) : sla n 1 (.pointer (some a)) none (some (.int .i64 x)) K w Q := by
  subst hx
  refine ⟨a, 0, c, rfl, ⟨.i64, _, rfl, by omega, by omega, by rw [Int.toNat_natCast]⟩, rfl, ?_⟩
  rw [if_neg h0]
  exact k
section
variable {B : Nat} {w : World} {p b : Nat} {v : Value} {D : Dv} {Q : Value → World → Prop}
/-- a sector made sure -/
theorem DevAt.setS {w' : World} {i : Nat} {x : Sec} {y : Sct} {g : Nat} (hd : DevAt B w p v b D) (hx : D.A[i]? = some x) (ho : ownE B 145 64 encS w' v ((D.A.map (·.s)).set i y)) (hg : v.ownBlock = some g) (hu : Upd g w w') : DevAt B w' p v b (D.set i ⟨y, x.u⟩) := by
  obtain ⟨L, hm, hl⟩ := hd.mp
  have hg' := hd.gblk g hg
  refine ⟨hd.pB, hd.bB, by simpa [Dv.set] using hd.n, (hu.block p hg'.1.symm).trans hd.hp, ?_, L, hm.upd hu hg'.2.1.symm, fun j z => ?_⟩
  · have : (D.set i ⟨y, x.u⟩).A.map (·.s) = (D.A.map (·.s)).set i y := by unfold Dv.set; rw [List.map_set]
    rw [this]; exact ho
  · rw [hl]
    have : ((D.set i ⟨y, x.u⟩).at j).bind (·.u) = (D.at j).bind (·.u) := by
      unfold Dv.at Dv.set
      split
      · simp only [List.getElem?_set]
        have hi := (List.getElem?_eq_some_iff.1 hx).1
        split
        · rename_i e
          rw [← e, hx]; rfl
        · rfl
      · rfl
    rw [this]
/-- what isn't sure, away -/
theorem DevAt.clear {w' : World} (hd : DevAt B w p v b D) (hm : MapAt kI w' b ([] : List (Int × Value))) (hu : Upd b w w') {A' : List Sec} (hA : A'.map (·.s) = D.A.map (·.s)) (hn : ∀ (j : Nat) (x : Sec), A'[j]? = some x → x.u = none) : DevAt B w' p v b { D with A := A' } := by
  have hlen : A'.length = D.A.length := by simpa using congrArg List.length hA
  refine ⟨hd.pB, hd.bB, by show A'.length ≤ _; rw [hlen]; exact hd.n, (hu.block p hd.pb).trans hd.hp, ?_, [], hm, fun i x => ?_⟩
  · show ownE B 145 64 encS w' v (A'.map (·.s))
    rw [hA]
    exact ownE_stay hd.own (fun g hg => hu.block g (hd.gblk g hg).2.1)
  · have : (({ D with A := A' } : Dv).at i).bind (·.u) = none := by
      unfold Dv.at
      split
      · cases h : A'[i.toNat]? with
        | none => rfl
        | some x => exact hn _ x h
      · rfl
    rw [this]
    simp
end
end Go.Proofs.YtongpnolikkknaaGreatDoor

set_option maxRecDepth 20000
namespace Go.Proofs.YtongpnolikkknaaGreatDoor
open Sh RowKit Go.MapKept
section
variable {B : Nat} {w : World} {p b : Nat} {v : Value} {D : Dv} {Q : Value → World → Prop} {keep : List Bool} {tn cut : Int} {vk : Value}
theorem uns_num {A : List Sec} {k : Nat} (hk : k < (unsL A).length) : (unsL A)[k] = (((uns A)[k]'(by simpa [unsL] using hk) : Nat) : Int) := by simp [unsL]
theorem mapA_eq {A : List Sec} {i : Nat} {x : Sec} (h : A[i]? = some x) : ∃ hi : i < (A.map (·.s)).length, (A.map (·.s))[i] = x.s := by
  obtain ⟨h1, h2⟩ := List.getElem?_eq_some_iff.1 h
  exact ⟨by simpa using h1, by rw [List.getElem_map, h2]⟩
theorem own_ne6 {e : TypeId} {B2 : Nat} {u : Value} {l : List Int} {g : Nat} {cur : Array Value} (h : ownI B2 3 .i64 w u l) (hg : w.heap[g]? = some (.cells cur e (0, 0))) (he : e ≠ 3) : u.ownBlock ≠ some g := by
  intro c
  obtain ⟨h1, h2⟩ := h
  rcases h2 with ⟨rfl, _⟩ | ⟨g', cap, cur', rfl, hg', hb', _⟩
  · cases c
  · cases c; rw [hb'] at hg; cases hg; exact he rfl
theorem run_ne_eS {x y : Operand} (a c : Sct) (w : World) : ((do eqGuard .neq 145 x y (.agg (encS a).toArray) (.agg (encS c).toArray); binOp .neq 145 (.agg (encS a).toArray) (.agg (encS c).toArray) : Sem Value)).run Tryz.prog w = .ok (.bool (!decide (a = c))) w := by
  have h := run_ne_arr (P := Tryz.prog) (w := w) (t := 145) (e := 5) (n := 64) (k := .u8) (x := x) (y := y) (xa0 := byL a.1) (xb0 := byL c.1) Tryz.underlying145 ud5 (by kernel_rfl) (by kernel_rfl) (by kernel_rfl) (by rw [byL_len, a.2]) (by rw [byL_len, c.2])
  have e : decide (byL a.1 = byL c.1) = decide (a = c) := by
    rw [Bool.eq_iff_iff, decide_eq_true_iff, decide_eq_true_iff]
    exact ⟨fun h => Subtype.ext (byL_inj h), fun h => by rw [h]⟩
  rw [e] at h
  exact h
theorem f51_loop {W : World} {u : Value} {B2 : Nat} (A0 : List Sec) (hk : rdS 1 bR W vk keep) (hWB : W.heap.size ≤ B) (hn : A0.length ≤ 4096) (j1 : Value → M) : ∀ (d m k : Nat) (w : World) (D : Dv), k + d = (uns A0).length → d < m → Below W.heap.size W w →
    DevAt B w p v b D → ownI B2 3 .i64 w u (unsL A0) → D.A.length = A0.length → (∀ m' (hm : m' < (uns A0).length), k ≤ m' → D.A[(uns A0)[m']]? = A0[(uns A0)[m']]?) →
    (∀ w', DevAt B w' p v b { D with A := crashL id keep tn cut D.A ((uns A0).drop k) k } → ChgS (fpD p v b) w w' → j1 (pv p) w' Q) →
    itr (fun _ _ _ _ _ _ _ => bot) (f51_b2 j1) m (pv p) vk (.int .i64 tn) (.int .i64 cut) u (.int .i64 ((uns A0).length : Nat)) (.int .i64 (k : Int)) w Q := by
  intro d
  induction d with
  | zero =>
    intro m k w D hkd hm hb hd ho hlen hsame kk
    obtain ⟨m, rfl⟩ : ∃ x, m = x + 1 := ⟨m - 1, by omega⟩
    show f51_b2 j1 _ _ _ _ _ _ _ _ w Q
    unfold f51_b2
    have c : ¬ (k : Int) < ((uns A0).length : Nat) := by omega
    simp only [↓reduceIte, ↓LL, LM, Value.cells, Nat.reduceAdd, Option.some.injEq, exists_eq_left', decide_true, decide_false, if_true, if_false, reduceCtorEq, cond_true, cond_false, c]
    refine kk w ?_ (ChgS.refl _ w)
    rw [List.drop_of_length_le (by omega)]
    exact hd
  | succ d ih =>
    intro m k w D hkd hm hb hd ho hlen hsame kk
    obtain ⟨m, rfl⟩ : ∃ x, m = x + 1 := ⟨m - 1, by omega⟩
    show f51_b2 j1 _ _ _ _ _ _ _ _ w Q
    unfold f51_b2
    have c : (k : Int) < ((uns A0).length : Nat) := by omega
    have hku : k < (unsL A0).length := by unfold unsL; rw [List.length_map]; omega
    have hkk : k < (uns A0).length := by omega
    obtain ⟨ad, hc, hia⟩ := rdI_at (ownI_rd ho) hku
    rw [uns_num hku] at hc
    generalize hi : (uns A0)[k] = i at *
    have hiA : i < A0.length := uns_lt (hi ▸ List.getElem_mem hkk)
    obtain ⟨x, y, hx0, hxu⟩ := uns_mem.1 (show i ∈ uns A0 from hi ▸ List.getElem_mem hkk)
    have hx : D.A[i]? = some x := by
      have := hsame k hkk (Nat.le_refl _)
      rw [hi] at this
      rw [this]; exact hx0
    have hat : D.at (i : Int) = some x := by unfold Dv.at; rw [if_pos (by omega), Int.toNat_natCast]; exact hx
    have hnow : x.now = y := by unfold Sec.now; rw [hxu]; rfl
    have c1 := hd.c1
    obtain ⟨L, hmp, hl⟩ := hd.mp
    simp only [↓reduceIte, ↓LL, LM, Value.cells, Nat.reduceAdd, Option.some.injEq, exists_eq_left', decide_true, decide_false, if_true, if_false, reduceCtorEq, cond_true, cond_false, c, hia, hc, c1]
    refine Eq.mpr (look_v (kv := kI) KK hmp z63 (i : Int)) ?_
    rw [lk_dev hmp hl, hat]
    simp only [↓reduceIte, ↓LL, LM, Value.cells, Nat.reduceAdd, Option.some.injEq, exists_eq_left', decide_true, decide_false, if_true, if_false, reduceCtorEq, cond_true, cond_false, Option.bind_some, hxu, Option.map_some, Option.getD_some]
    have b2 := b_psh w (.cells (Array.replicate 64 (.int .u8 0)) 145)
    have blk := blk_psh_new (w := w) (o := .cells (Array.replicate 64 (.int .u8 0)) 145)
    refine stn_box blk (by simp) (by simp [encS_len]) (by simpa using encS_one y) fun w2 h2 hu2 => ?_
    have hb2 : Below w.heap.size w w2 := b2.trans (hu2.below (Nat.le_refl _))
    have d2 := hd.below hb2
    have o2 := ownI_below ho hb2
    have hbW2 : Below W.heap.size W w2 := bt hb hb2
    have s2 : ChgS (fpD p v b) w w2 := ChgS.of_below hb2
    have hw2 : w.heap.size < w2.heap.size := blk_lt h2
    -- what is behind this round
    have hdrop : (uns A0).drop k = i :: (uns A0).drop (k + 1) := by rw [List.drop_eq_getElem_cons hkk, hi]
    have h3 : IntKind.i64.wrap ((k : Int) + 1) = ((k + 1 : Nat) : Int) := by
      have := uns_len A0
      rw [w64 (by omega) (by omega)]; rfl
    have next : ∀ w3 (D3 : Dv), DevAt B w3 p v b D3 → D3 = { D with A := crash1 id keep tn cut D.A i k } → ChgS (fpD p v b) w2 w3 → ownI B2 3 .i64 w3 u (unsL A0) →
        f51_j3 (itr (fun _ _ _ _ _ _ _ => bot) (f51_b2 j1) m) (pv p) vk (.int .i64 tn) (.int .i64 cut) u (.int .i64 ((uns A0).length : Nat)) (.int .i64 (k : Int)) w3 Q := by
      intro w3 D3 d3 e3 s3 o3
      subst e3
      unfold f51_j3
      simp only [↓reduceIte, ↓LL, LM, Value.cells, Nat.reduceAdd, Option.some.injEq, exists_eq_left', decide_true, decide_false, if_true, if_false, reduceCtorEq, cond_true, cond_false, h3]
      refine ih m (k + 1) w3 _ (by omega) (by omega) (bs hbW2 (S := fpD p v b) (fun k' hk' => Nat.le_trans hWB (fpD_B d2 k' hk')) hbW2.size s3) d3 o3 (by rw [crash1_len]; exact hlen) (fun m' hm' hle => ?_) fun w' hd' hc' => kk w' ?_ ((s2.trans s3 (fun _ _ h => h)).trans hc' (fun _ _ h => h))
      · show (crash1 id keep tn cut D.A i k)[(uns A0)[m']]? = _
        rw [crash1_get hx, if_neg ?_]
        · exact hsame m' hm' (by omega)
        · intro e
          have := (List.getElem?_inj hm' (uns_nodup A0)).1 (show (uns A0)[m']? = (uns A0)[k]? by rw [List.getElem?_eq_getElem hm', List.getElem?_eq_getElem hkk, e, hi])
          omega
      · rw [hdrop]
        exact hd'
    have hsetA : ∀ z, nw keep tn cut x k = z → (D.set i ⟨z, x.u⟩) = { D with A := crash1 id keep tn cut D.A i k } := by
      intro z hz
      unfold Dv.set crash1
      simp only [hx, hz]; rfl
    obtain ⟨hiS, hsx⟩ := mapA_eq hx
    obtain ⟨g, cap, cur, hv, hob, hgB, hblk, hcap, hmx, hsz, htk⟩ := ownE_open d2.own (by omega)
    have hgne : u.ownBlock ≠ some g := own_ne6 o2 hblk (by decide)
    have s2d : ChgS (fpD p v b) w2 (drw w2) := (ChgS.refl _ w2).drw
    have fin : ∀ w3 z, nw keep tn cut x k = z → ownE B 145 64 encS w3 v ((D.A.map (·.s)).set i z) → Upd g (drw w2) w3 →
        f51_j3 (itr (fun _ _ _ _ _ _ _ => bot) (f51_b2 j1) m) (pv p) vk (.int .i64 tn) (.int .i64 cut) u (.int .i64 ((uns A0).length : Nat)) (.int .i64 (k : Int)) w3 Q := fun w3 z hz hoz hu3 =>
      next w3 _ (d2.drw.setS hx hoz hob hu3) (hsetA z hz) (s2d.trans (ChgS.of_upd hu3 (.inr (.inr hob))) (fun _ _ h => h)) (Sh.ownI_chg (w := drw w2) o2 hu3.chg hgne)
    have fin0 : ∀ w3, (w3 = w2 ∨ w3 = drw w2) → nw keep tn cut x k = x.s →
        f51_j3 (itr (fun _ _ _ _ _ _ _ => bot) (f51_b2 j1) m) (pv p) vk (.int .i64 tn) (.int .i64 cut) u (.int .i64 ((uns A0).length : Nat)) (.int .i64 (k : Int)) w3 Q := fun w3 hw hz => by
      have e : D = { D with A := crash1 id keep tn cut D.A i k } := by
        rw [← hsetA x.s hz]
        unfold Dv.set
        have : D.A.set i ⟨x.s, x.u⟩ = D.A := by
          apply List.ext_getElem?
          intro j
          rw [List.getElem?_set]
          split
          · rename_i e; subst e; rw [if_pos (by omega), hx]
          · rfl
        rw [this]
      rcases hw with rfl | rfl
      · exact next _ D d2 e (ChgS.refl _ _) o2
      · exact next _ D d2.drw e s2d o2
    have k0 : (drw w2).cell? ⟨p, 0, none⟩ = some v := d2.c0
    by_cases ht : (k : Int) = tn
    · have htd : decide ((k : Int) = tn) = true := decide_eq_true ht
      simp only [↓reduceIte, ↓LL, LM, Value.cells, Nat.reduceAdd, Option.some.injEq, exists_eq_left', decide_true, decide_false, if_true, if_false, reduceCtorEq, cond_true, cond_false, htd, k0]
      rw [hv, ia_E (by rw [List.length_map]; omega)]
      simp only [↓reduceIte, ↓LL, LM, Value.cells, Nat.reduceAdd, Option.some.injEq, exists_eq_left', decide_true, decide_false, if_true, if_false, reduceCtorEq, cond_true, cond_false]
      have hcc : (if (64 : Int) < (if cut < 0 then 0 else cut) then 64 else (if cut < 0 then 0 else cut)) = (((min (max cut 0) 64).toNat : Nat) : Int) := by omega
      have hc64 : (min (max cut 0) 64).toNat ≤ 64 := by omega
      have hnw : nw keep tn cut x k = torn y x.s (min (max cut 0) 64).toNat := by unfold nw; rw [if_pos ht, hnow]
      generalize (min (max cut 0) 64).toNat = cc at *
      refine sla_to (c := cc) (by decide) hc64 hcc ?_
      refine sla_all (by decide) ?_
      have hin : i * 64 + 64 ≤ cur.size := by
        rw [hsz]
        have := Nat.mul_le_mul_right 64 (show i + 1 ≤ cap by rw [List.length_map] at hcap; omega)
        omega
      refine cpy (m := cc) (g2 := w.heap.size) (cur2 := (encS y).toArray) Tryz.underlying42 (by kernel_rfl) (show (drw w2).heap[g]? = _ from hblk) (show (drw w2).heap[_]? = _ from h2) hc64 (by simpa [encS_len] using hc64) (by omega) (by simpa using encS_one y) fun w3 h3b hu3 => ?_
      refine fin w3 _ hnw ?_ hu3
      refine ownE_put (w := drw w2) (o := 0) (cs := (encS y).take cc) encS_len d2.own hiS (by rw [List.length_take]; omega) (by rw [encS_torn _ _ hc64, hsx]) (fun g' cur' e1 e2 => ?_)
      rw [hob] at e1; cases e1
      rw [show (drw w2).heap[g]? = _ from hblk] at e2; cases e2
      exact ⟨_, h3b, by simp⟩
    · have htd : decide ((k : Int) = tn) = false := decide_eq_false ht
      obtain ⟨pk', ck, hvk⟩ := rdS_len hk
      have hkp := rdS_below bR_st hbW2 hk
      have hlnl : ∀ (K : Value → M) (w' : World), lnl vk K w' Q = K (.int .i64 (keep.length : Nat)) w' Q := fun K w' => by rw [hvk, lnl_e]
      rcases Nat.eq_zero_or_pos keep.length with hk0 | hkpos
      · have hz : nw keep tn cut x k = x.s := by
          unfold nw
          rw [if_neg ht, List.length_eq_zero_iff.1 hk0]
          rfl
        have hlk : ((keep.length : Nat) : Int) = 0 := by omega
        have hlk' : ¬ (0 : Int) < (keep.length : Nat) := by omega
        simp only [↓reduceIte, ↓LL, LM, Value.cells, Nat.reduceAdd, Option.some.injEq, exists_eq_left', decide_true, decide_false, if_true, if_false, reduceCtorEq, cond_true, cond_false, htd, hlnl, hlk']
        exact fin0 _ (.inr rfl) hz
      · have hmod : k % keep.length < keep.length := Nat.mod_lt _ hkpos
        obtain ⟨adk, es, he1, he2, he3, hiak⟩ := rdS_at hkp hmod
        have hcb : (drw w2).cell? adk = some (.bool keep[k % keep.length]) := by
          have := he2 0 (.bool keep[k % keep.length]) (by rw [he3]; rfl)
          rw [add_zero'] at this; exact this
        have htm : ((k : Int).tmod (keep.length : Int)) = ((k % keep.length : Nat) : Int) := (Int.ofNat_tmod k keep.length).symm
        have hlp : (0 : Int) < (keep.length : Int) := by omega
        have hl0 : ¬ ((keep.length : Nat) : Int) = 0 := by omega
        by_cases hbb : keep[k % keep.length] = true
        · rw [hbb] at hcb
          have hnw : nw keep tn cut x k = y := by
            unfold nw
            rw [if_neg ht, List.getElem?_eq_getElem hmod, hbb, if_pos rfl, hnow]
          obtain ⟨ads, es2, hs1, hs2, hs3, hias⟩ := rdS_at (ownE_rd encS_len (by decide) d2.own) hiS
          have hs3 : es2 = encS x.s := by rw [hs3, hsx]
          subst hs3
          simp only [↓reduceIte, ↓LL, LM, Value.cells, Nat.reduceAdd, Option.some.injEq, exists_eq_left', decide_true, decide_false, if_true, if_false, reduceCtorEq, cond_true, cond_false, htd, hlnl, hlp, hl0, htm, hiak, hcb, k0, hias]
          refine ⟨by omega, ldn_box (show (drw w2).heap[_]? = _ from h2) (by simp [encS_len]) ?_⟩
          simp only [↓reduceIte, ↓LL, LM, Value.cells, Nat.reduceAdd, Option.some.injEq, exists_eq_left', decide_true, decide_false, if_true, if_false, reduceCtorEq, cond_true, cond_false, k0, hias]
          refine ldn_at (show cellsAt (drw w2) ads (encS x.s) from hs2) (encS_len _) ?_
          have hne := run_ne_eS (x := .tmp 57) (y := .tmp 64) y x.s (drw w2)
          simp only [↓reduceIte, ↓LL, LM, Value.cells, Nat.reduceAdd, Option.some.injEq, exists_eq_left', decide_true, decide_false, if_true, if_false, reduceCtorEq, cond_true, cond_false]
          refine Eq.mpr (smr_run hne) ?_
          by_cases hyx : y = x.s
          · simp only [↓reduceIte, ↓LL, LM, Value.cells, Nat.reduceAdd, Option.some.injEq, exists_eq_left', decide_true, decide_false, if_true, if_false, reduceCtorEq, cond_true, cond_false, hyx, decide_true]
            exact fin0 _ (.inr rfl) (by rw [hnw, hyx])
          · simp only [↓reduceIte, ↓LL, LM, Value.cells, Nat.reduceAdd, Option.some.injEq, exists_eq_left', decide_true, decide_false, if_true, if_false, reduceCtorEq, cond_true, cond_false, decide_eq_false hyx, k0]
            refine ldn_box (show (drw w2).heap[_]? = _ from h2) (by simp [encS_len]) ?_
            refine ia_stnE (w := drw (drw w2)) (j := .i64) (i := i) (y := y) encS_len encS_one d2.own hiS fun w3 g' hg' ho3 hu3 => ?_
            rw [hob] at hg'; cases hg'
            exact fin w3 y hnw ho3 ⟨hu3.os, hu3.tape, hu3.output, hu3.size, hu3.block⟩
        · have hbf : keep[k % keep.length] = false := by simpa using hbb
          rw [hbf] at hcb
          have hz : nw keep tn cut x k = x.s := by
            unfold nw
            rw [if_neg ht, List.getElem?_eq_getElem hmod, hbf, if_neg (by simp)]
          simp only [↓reduceIte, ↓LL, LM, Value.cells, Nat.reduceAdd, Option.some.injEq, exists_eq_left', decide_true, decide_false, if_true, if_false, reduceCtorEq, cond_true, cond_false, htd, hlnl, hlp, hl0, htm, hiak, hcb]
          exact ⟨by omega, fin0 _ (.inr rfl) hz⟩
theorem f51_s {W : World} (hk : rdS 1 bR W vk keep) (hb : Below W.heap.size W w) (hWB : W.heap.size ≤ B) (hd : DevAt B w p v b D) (h : ∀ w', DevAt B w' p v b (D.crash keep tn cut) → ChgS (fpD p v b) w w' → Q (.tuple #[]) w') : f51 (pv p) vk (.int .i64 tn) (.int .i64 cut) w Q := by
  unfold f51
  rw [pn_eq pt23]
  simp only [↓reduceIte, ↓LL, LM, Value.cells, Nat.reduceAdd, Option.some.injEq, exists_eq_left', decide_true, decide_false, if_true, if_false, reduceCtorEq, cond_true, cond_false, Option.isNone]
  refine f48_s hd fun w1 u ho hb1 => ?_
  have d1 := hd.below hb1
  obtain ⟨pu, cu, hvu, _⟩ := ownI_rd ho
  have hl : (unsL D.A).length = (uns D.A).length := by unfold unsL; rw [List.length_map]
  rw [hl] at hvu
  have hlnl : ∀ (K : Value → M) (w' : World), lnl u K w' Q = K (.int .i64 ((uns D.A).length : Nat)) w' Q := fun K w' => by rw [hvu, lnl_e]
  simp only [↓reduceIte, ↓LL, LM, Value.cells, Nat.reduceAdd, Option.some.injEq, exists_eq_left', decide_true, decide_false, if_true, if_false, reduceCtorEq, cond_true, cond_false, hlnl]
  refine ⟨_, f51_loop (W := W) (B := B) D.A hk hWB d1.n f51_j1 (uns D.A).length ((uns D.A).length + 1) 0 w1 D (by omega) (by omega) (bt hb hb1) d1 ho rfl (fun _ _ _ => rfl) fun w2 d2 c2 => ?_⟩
  rw [List.drop_zero] at d2
  unfold f51_j1
  have k1 := d2.c1
  obtain ⟨L, hm, hl2⟩ := d2.mp
  simp only [↓reduceIte, ↓LL, LM, Value.cells, Nat.reduceAdd, Option.some.injEq, exists_eq_left', decide_true, decide_false, if_true, if_false, reduceCtorEq, cond_true, cond_false, k1]
  refine clear_map (kv := kI) KK hm fun w3 hm3 hu3 => ?_
  have d3 := d2.clear hm3 hu3 (A' := crashL (fun _ => none) keep tn cut D.A (uns D.A) 0) (crash_two D.A).symm (crash_none D.A)
  simp only [↓reduceIte, ↓LL, LM, Value.cells, Nat.reduceAdd, Option.some.injEq, exists_eq_left', decide_true, decide_false, if_true, if_false, reduceCtorEq, cond_true, cond_false]
  refine st_box d3.hp (o := 3) (v := .int .i64 4611686018427387904) (by simp) rfl fun w4 h4 hu4 => ?_
  simp only [↓reduceIte, ↓LL, LM, Value.cells, Nat.reduceAdd, Option.some.injEq, exists_eq_left', decide_true, decide_false, if_true, if_false, reduceCtorEq, cond_true, cond_false]
  refine h w4 (d3.upd (D' := D.crash keep tn cut) rfl h4 hu4) ?_
  have s1 : ChgS (fpD p v b) w w1 := ChgS.of_below hb1
  exact ((s1.trans c2 (fun _ _ h => h)).trans (ChgS.of_upd hu3 (S := fpD p v b) (.inr (.inl rfl))) (fun _ _ h => h)).trans (ChgS.of_upd hu4 (S := fpD p v b) (.inl rfl)) (fun _ _ h => h)
end
end Go.Proofs.YtongpnolikkknaaGreatDoor

set_option maxRecDepth 20000
set_option maxHeartbeats 4000000
namespace Go.Proofs.YtongpnolikkknaaGreatDoor
open Sh RowKit Go.MapKept
theorem nw_mkd (keep : List Bool) (tn cut : Int) (x : Sec) (k : Nat) : mkd (nw keep tn cut x k).1 = mkd x.s.1 ∨ mkd (nw keep tn cut x k).1 = mkd x.now.1 := by
  unfold nw
  split
  · exact mkd_trn _ _ _
  · split
    · exact .inr rfl
    · exact .inl rfl
theorem crash_cr (D : Dv) (keep : List Bool) (tn cut : Int) : Cr D.A (D.crash keep tn cut).A := by
  obtain ⟨q1, q2, q3⟩ := crashL_get (f := fun _ => none) (keep := keep) (tn := tn) (cut := cut) (uns D.A) D.A 0 (uns_nodup D.A) (fun i hi => uns_lt hi)
  refine ⟨q1, fun i x hx => ?_⟩
  by_cases c : i ∈ uns D.A
  · obtain ⟨m, hm, rfl⟩ := List.mem_iff_getElem.1 c
    obtain ⟨y, h1, h2⟩ := q3 m hm
    rw [hx] at h1
    obtain rfl : x = y := Option.some.inj h1
    refine ⟨_, h2, fun hu => ?_, nw_mkd _ _ _ _ _⟩
    obtain ⟨x', y', e1, e2⟩ := uns_mem.1 c
    rw [hx] at e1
    obtain rfl : x = x' := Option.some.inj e1
    rw [hu] at e2; cases e2
  · have hu : x.u = none := by
      cases hu : x.u with
      | none => rfl
      | some y => exact absurd (uns_mem.2 ⟨x, y, hx, hu⟩) c
    refine ⟨x.s, ?_, fun _ => rfl, .inl rfl⟩
    show (crashL (fun _ => none) keep tn cut D.A (uns D.A) 0)[i]? = _
    rw [q2 i c, hx]
    congr 1
    cases x
    simp only at hu
    rw [hu]
theorem crash_len (D : Dv) (keep : List Bool) (tn cut : Int) : (D.crash keep tn cut).A.length = D.A.length := (crash_cr D keep tn cut).1
theorem Fit.len_eq {A A' : List Sec} {L : List ByteArray} (h : Fit A L) (hl : A'.length = A.length) : Fit A' L := ⟨by rw [hl]; exact h.len, h.sz, h.n1, h.n2⟩
theorem rdy_crash {D : Dv} {L : List ByteArray} (h : Rdy D L) (keep : List Bool) (tn cut : Int) : Rdy (D.crash keep tn cut) L :=
  ⟨h.fit.len_eq (crash_len D keep tn cut), h.mark.sub fun z hz => (crash_cr D keep tn cut).sure hz, h.pg.sub fun i z _ hz => (crash_cr D keep tn cut).sure hz⟩
structure Cra where
  at_ : Int
  tn : Int
  cut : Int
  keep : List Bool
  vk : Value
def Cra.cells (c : Cra) : List Value := [.int .i64 c.at_, .int .i64 c.tn, .int .i64 c.cut, c.vk]
def oCra : RepT Cra := fun w cs x => cs = x.cells ∧ rdS 1 bR w x.vk x.keep
section
variable {W w w' : World} {q p b r : Nat} {v u ur vs : Value} {G : Pg} {D : Dv} {Q : Value → World → Prop}
theorem f8_s {n : Int} {ps bz : List Int} {vp vb : Value} {c : Cra} (hp : rdI .i64 w vp ps) (hbs : rdI .u8 w vb bz) (hl : ps.length ≤ 1048576) (hk : rdS 1 bR w c.vk c.keep) (kk : ∀ w', Below w.heap.size w w' → Q (.bool true) w') :
    f8 (.int .i64 n) (.agg #[vp, vb]) (.agg c.cells.toArray) w Q := by
  unfold f8
  have b1 := b_psh w (.cells #[vp, vb] 72)
  have k1 := blk_psh_new (w := w) (o := .cells #[vp, vb] 72)
  rw [bx_e]
  simp only [Value.cells]
  generalize psh w (.cells #[vp, vb] 72) = w1 at *
  have b2 := b_psh w1 (.cells c.cells.toArray 80)
  have k2 := blk_psh_new (w := w1) (o := .cells c.cells.toArray 80)
  rw [bx_e]
  simp only [Value.cells]
  have k1 := stay b2 k1
  generalize psh w1 (.cells c.cells.toArray 80) = w2 at *
  have z2 : w1.heap.size < w2.heap.size := blk_lt k2
  have b02 := bt b1 b2
  try simp only [↓reduceIte, ↓LL, LM, Value.cells, Nat.reduceAdd, Option.some.injEq, exists_eq_left', decide_true, decide_false, if_true, if_false, reduceCtorEq, cond_true, cond_false]
  refine f35_s fun w3 b3 => ?_
  have z3 : w2.heap.size ≤ w3.heap.size := b3.size
  have b03 := bt b02 b3
  have k1 := stay b3 k1
  have k2 := stay b3 k2
  try simp only [↓reduceIte, ↓LL, LM, Value.cells, Nat.reduceAdd, Option.some.injEq, exists_eq_left', decide_true, decide_false, if_true, if_false, reduceCtorEq, cond_true, cond_false]
  refine f36_s ?_
  obtain ⟨n1, n40⟩ := pagesN_bd n
  generalize pagesN n = n at *
  try simp only [↓reduceIte, ↓LL, LM, Value.cells, Nat.reduceAdd, Option.some.injEq, exists_eq_left', decide_true, decide_false, if_true, if_false, reduceCtorEq, cond_true, cond_false]
  refine f39_s ⟨by omega, by omega⟩ ?_
  try simp only [↓reduceIte, ↓LL, LM, Value.cells, Nat.reduceAdd, Option.some.injEq, exists_eq_left', decide_true, decide_false, if_true, if_false, reduceCtorEq, cond_true, cond_false]
  refine f38_s (B := w3.heap.size) (126 + 4 * ((n : Nat) : Int)) (k := 126 + 4 * n) (by omega) (Nat.le_refl _) fun w4 p v b pw bw hd hf b4 => ?_
  try simp only [↓reduceIte, ↓LL, LM, Value.cells, Nat.reduceAdd, Option.some.injEq, exists_eq_left', decide_true, decide_false, if_true, if_false, reduceCtorEq, cond_true, cond_false]
  refine open_at (B0 := w3.heap.size) hd (nd0 _) (nd1 _) (Nat.le_refl _) b4.size (open_new (m := n) (N := 126 + 4 * n) (by omega) (by omega) (by omega)) fun w5 q u q5 h5 _ _ hc5 => ?_
  have b5 := bs b4 (fpD_B hd) b4.size hc5
  have k1 := stay b5 k1
  have k2 := stay b5 k2
  have b05 := bt b03 b5
  try simp only [↓reduceIte, ↓LL, LM, Value.cells, Nat.reduceAdd, Option.some.injEq, exists_eq_left', decide_true, decide_false, if_true, if_false, reduceCtorEq, cond_true, cond_false, get0, get1, ne_eq]
  refine ldn_box k1 rfl ?_
  refine f42_s (rdI_b hp b05) (rdI_b hbs b05) hl fun w6 x1 y1 b6 hx1 hy1 => ?_
  have k2 := stay b6 k2
  have h6 := h5.below b6
  have b35 := bt b5 b6
  generalize hcs : chsB ps bz ps.length = cs at *
  try simp only [↓reduceIte, ↓LL, LM, Value.cells, Nat.reduceAdd, Option.some.injEq, exists_eq_left', decide_true, decide_false, if_true, if_false, reduceCtorEq, cond_true, cond_false, get0, get1, ne_eq]
  refine f41_s (by omega) fun w7 r ur b7 hr7 => ?_
  have k2 := stay b7 k2
  have h7 := h6.below b7
  have hx7 := ownE_below hx1 b7
  have hy7 := ownE_below hy1 b7
  have b37 := bt b35 b7
  try simp only [↓reduceIte, ↓LL, LM, Value.cells, Nat.reduceAdd, Option.some.injEq, exists_eq_left', decide_true, decide_false, if_true, if_false, reduceCtorEq, cond_true, cond_false, get0, get1, ne_eq]
  have rdy := rdy_new (m := n) (N := 126 + 4 * n) (by omega) (by omega) (by omega)
  have sz5 : w5.heap.size ≤ w6.heap.size := b6.size
  have sz6 : w6.heap.size ≤ w7.heap.size := b7.size
  have lR : (List.replicate n (zs 256)).length = n := by simp
  refine commit_at h7 hx7 (nd0 _) (by show (0 + 300 : Int) ≤ _; omega) (by show (0 : Int) ≤ 0; decide) (by show (0 : Int) ≤ 1000000; decide) (by show (List.replicate n (zs 256)).length ≤ 1000; omega) fun w8 hp8 hc8 => ?_
  have b38 : Below w3.heap.size w3 w8 := b37.trans (h7.bs hc8 (Nat.le_refl _) b37.size)
  have plt : ∀ k, fpP q p b v u k → k < w5.heap.size := h5.lt
  have hr8 : RfAt w3.heap.size w8 r ur (List.replicate n (zs 256)) := (hr7.weak b35.size).chg hc8 fun k hk hn => by
    have := plt k hn
    have := hr7.fpB k hk
    omega
  have hy8 : ownE w5.heap.size 136 2 encC w8 y1 cs := ownE_chg hy7 hc8 fun g hg hn => by
    have := (ownE_blk hy7 g hg).1
    have := plt g hn
    omega
  have hyr := ownE_rd encC_len (by decide) hy8
  by_cases hv : mayB false (List.replicate n (zs 256)).length cs = 0
  · obtain ⟨D', e1, r1, e2, e3, e4⟩ := commit_ok (G := ⟨List.replicate n (zs 256), false, 0⟩) (cs := cs) rdy (new_all _) hv (by show (0 + 300 : Int) ≤ 4611686018427387904; decide)
    rw [e1] at hp8 ⊢
    have hp8 : PgAt w3.heap.size w8 q p b v u ⟨setL (List.replicate n (zs 256)) cs, false, 0 + (if cs.length = 0 then 0 else 1)⟩ D' := hp8
    have h31 := (mayB_ok hv).2.1
    have hbd := (mayB_ok hv).2.2.1
    have hk2' : w8.heap[w1.heap.size]? = some (.cells c.cells.toArray 80 (0, 0)) := hc8.keep k2 fun hn => by
      have hq := hp8.fpB _ hn
      omega
    have c1 : w8.cell? ⟨w1.heap.size, 1, none⟩ = some (.int .i64 c.tn) := by rw [cell_of_blk hk2']; rfl
    have c2 : w8.cell? ⟨w1.heap.size, 2, none⟩ = some (.int .i64 c.cut) := by rw [cell_of_blk hk2']; rfl
    have c3 : w8.cell? ⟨w1.heap.size, 3, none⟩ = some c.vk := by rw [cell_of_blk hk2']; rfl
    try simp only [↓reduceIte, ↓LL, LM, Value.cells, Nat.reduceAdd, Option.some.injEq, exists_eq_left', decide_true, decide_false, if_true, if_false, reduceCtorEq, cond_true, cond_false, ne_eq, c1, c2, c3]
    refine f51_s (W := w) hk (bt b03 b38) b03.size hp8.dev fun w9 d9 hc9 => ?_
    have b39 := b38.trans (hc9.below (fun k hk => fpD_B hp8.dev k hk) b38.size)
    have hr9 : RfAt w3.heap.size w9 r ur (List.replicate n (zs 256)) := hr8.chg hc9 fun k hk hn => by
      have := plt k (.inr (.inr hn))
      have := hr7.fpB k hk
      omega
    have hy9 : ownE w5.heap.size 136 2 encC w9 y1 cs := ownE_chg hy8 hc9 fun g hg hn => by
      have := (ownE_blk hy8 g hg).1
      have := plt g (.inr (.inr hn))
      omega
    have eo := open_rdy (rdy_crash r1 c.keep c.tn c.cut)
    rw [setL_len, lR] at eo
    have ecn : 0 ≤ callsN cs.length ∧ callsN cs.length ≤ 300 := by unfold callsN; split <;> omega
    have ec : (D'.crash c.keep c.tn c.cut).c = D'.c := rfl
    have en0 : (newD (126 + 4 * n)).c = 0 := rfl
    try simp only [↓reduceIte, ↓LL, LM, Value.cells, Nat.reduceAdd, Option.some.injEq, exists_eq_left', decide_true, decide_false, if_true, if_false, reduceCtorEq, cond_true, cond_false]
    refine open_at (B0 := w3.heap.size) (D := D'.crash c.keep c.tn c.cut) d9 (by rw [ec, e3, en0]; omega) (by rw [ec, e3, en0]; omega) (Nat.le_refl _) b39.size eo fun w10 q' u' q10 h10 _ _ hc10 => ?_
    have b310 := b39.trans (hc10.below (fun k hk => fpD_B d9 k hk) b39.size)
    have hr10 : RfAt w3.heap.size w10 r ur (List.replicate n (zs 256)) := hr9.chg hc10 fun k hk hn => by
      have := plt k (.inr (.inr hn))
      have := hr7.fpB k hk
      omega
    have hy10 : ownE w5.heap.size 136 2 encC w10 y1 cs := ownE_chg hy9 hc10 fun g hg hn => by
      have := (ownE_blk hy9 g hg).1
      have := plt g (.inr (.inr hn))
      omega
    try simp only [↓reduceIte, ↓LL, LM, Value.cells, Nat.reduceAdd, Option.some.injEq, exists_eq_left', decide_true, decide_false, if_true, if_false, reduceCtorEq, cond_true, cond_false, get0, get1, ne_eq]
    refine f46_s hr10 (ownE_rd encC_len (by decide) hy10) h31 hbd (by omega) fun w11 r11 ur11 b11 hr11 => ?_
    have h11 := h10.below b11
    try simp only [↓reduceIte, ↓LL, LM, Value.cells, Nat.reduceAdd, Option.some.injEq, exists_eq_left', decide_true, decide_false, if_true, if_false, reduceCtorEq, cond_true, cond_false]
    refine f49_s (G := ⟨setL (List.replicate n (zs 256)) cs, false, 0⟩) h11.hq h11.hu hr11 (by rw [setL_len]; omega) fun w12 b12 => ?_
    rw [decide_eq_true rfl]
    try simp only [↓reduceIte, ↓LL, LM, Value.cells, Nat.reduceAdd, Option.some.injEq, exists_eq_left', decide_true, decide_false, if_true, if_false, reduceCtorEq, cond_true, cond_false]
    exact kk w12 (bt b03 (bt (bt b310 b11) b12))
  · have ec : commitB ⟨List.replicate n (zs 256), false, 0⟩ (newD (126 + 4 * n)) cs = (mayB false (List.replicate n (zs 256)).length cs, newD (126 + 4 * n), ⟨List.replicate n (zs 256), false, 0⟩) := commit_no (.inl hv)
    rw [ec]
    try simp only [↓reduceIte, ↓LL, LM, Value.cells, Nat.reduceAdd, Option.some.injEq, exists_eq_left', decide_true, decide_false, if_true, if_false, reduceCtorEq, cond_true, cond_false, ne_eq, hv]
    refine f45_s hr8 hyr (by omega) fun w9 b9 => ?_
    try simp only [↓reduceIte, ↓LL, LM, Value.cells, Nat.reduceAdd, Option.some.injEq, exists_eq_left', decide_true, decide_false, if_true, if_false, reduceCtorEq, cond_true, cond_false, ne_eq, hv]
    exact kk w9 (bt b03 (bt b38 b9))
end
end Go.Proofs.YtongpnolikkknaaGreatDoor

namespace Go.Proofs.YtongpnolikkknaaGreatDoor
open Sh RowKit Go.MapKept
theorem ulBo : Tryz.prog.underlying 78 = some (.slice 4) := by kernel_rfl
theorem len4 {cs : List Value} (h : cs.length = 4) : ∃ a b c d, cs = [a, b, c, d] := by
  match cs, h with
  | [a, b, c, d], _ => exact ⟨a, b, c, d, rfl⟩
theorem op_cra : Opens Tryz.prog 80 Cra oCra (fun _ => 0) := by
  refine Opens.mono (op_struct Tryz.underlying80 (n := 4) (by kernel_rfl) (opf_cons (n := 1) (by kernel_rfl) (op_int ui) (opf_cons (n := 1) (by kernel_rfl) (op_int ui)
    (opf_cons (n := 1) (by kernel_rfl) (op_int ui) (opf_cons (n := 1) (by kernel_rfl) (op_slice ulBo (n := 1) (by kernel_rfl) (op_bool ub)) opf_nil))))) ?_
  rintro w cs ⟨a, t, c, l, ⟨⟩⟩ ⟨hl, ⟨h0, _⟩, ⟨h1, _⟩, ⟨h2, _⟩, ⟨v, h3, h3', _⟩, -⟩
  obtain ⟨c0, c1, c2, c3, rfl⟩ := len4 hl
  have e0 := one_cell (x := c0) h0
  have e1 := one_cell (x := c1) h1
  have e2 := one_cell (x := c2) h2
  have e3 := one_cell (x := c3) h3
  exact ⟨⟨a, t, c, l, v⟩, ⟨by rw [e0, e1, e2, e3]; rfl, h3'⟩, Nat.zero_le _⟩
theorem agCra : isAg Tryz.prog 80 4 = true := by kernel_rfl
/-- a number, a batch, a crash -/
def RiBC : World → List Value → Int × Bat × Cra → Prop := fun W vs x => vs = [.int .i64 x.1, .agg #[x.2.1.vp, x.2.1.vb], .agg x.2.2.cells.toArray] ∧ rdI .i64 W x.2.1.vp x.2.1.ps ∧ rdI .u8 W x.2.1.vb x.2.1.bs ∧ rdS 1 bR W x.2.2.vk x.2.2.keep
theorem oaiBC : OpensA Tryz.prog [3, 72, 80] (Int × Bat × Cra) RiBC (fun x => x.2.1.ps.length) := by
  refine OpensA.mono (oa_one (op_int ui) scI (fun w cs a h => ⟨_, h.1⟩) (oa_agg op_bat agBat (oa_agg op_cra agCra oa_nil))) ?_
  rintro W vs ⟨n, x, c, ⟨⟩⟩ ⟨v, r, rfl, ⟨h1, _⟩, cs, r2, rfl, ⟨h2, h3, h4, _⟩, cs2, r3, rfl, ⟨h5, h6⟩, rfl⟩
  have e := agg_of h2
  have e2 := agg_of h5
  exact ⟨(n, x, c), ⟨by rw [one_cell h1, e, e2], h3, h4, h6⟩, by show x.ps.length ≤ _; simp only; omega⟩
end Go.Proofs.YtongpnolikkknaaGreatDoor

namespace Go.Proofs.YtongpnolikkknaaGreatDoor
open Go.ChangeShapes Go.WideShapes Go.ChangeAt Go.RowKit
open Sh
def R8 := RiBC
def b8 : Int × Bat × Cra → Nat := fun x => x.2.1.ps.length
theorem oa8 : OpensA Tryz.prog [3, 72, 80] (Int × Bat × Cra) R8 b8 := oaiBC
theorem law8 (W : World) (vs : List Value) (a : Int × Bat × Cra) (h : R8 W vs a) (hk : b8 a ≤ 1048576) : Calls Tryz.prog 8 vs.toArray W (Rt fun v W' => v = .bool true ∧ Below W.heap.size W W') := by
  obtain ⟨n, x, c⟩ := a
  obtain ⟨rfl, h1, h2, h3⟩ := h
  exact s8 _ _ _ _ _ (f8_s h1 h2 hk h3 fun w' hb => ⟨rfl, hb⟩)
set_option maxRecDepth 1000000 in
theorem lifted8 (os : Os) (started : os.Started) (H : Type) (enc : TypeId × Value → H) (F : Stop.Interp) :
    ReturnsInHanded {} Tryz.checked os 8 .any (fun w args => ((Rows.OpenSpec.upto Rows.pagerLostSpec).pre enc Tryz.prog Tryz.f8 Rows.pagerLostUptoRow.domain false w args ∧ laidMetH Tryz.prog Rows.pagerLostUptoRow.laid w) ∧ sizedMet enc Tryz.prog Tryz.f8 (Rows.OpenSpec.upto Rows.pagerLostSpec) false w args) (((Rows.OpenSpec.upto Rows.pagerLostSpec).at F).post enc Tryz.prog Tryz.f8 false true false false) := by
  refine law_from_laid_upto (C := Tryz.checked) (s := Rows.pagerLostSpec) (X := (fun w _ => laidMetH Tryz.prog Rows.pagerLostUptoRow.laid w)) (tb := 4) (R := R8) (b := b8) own started (by kernel_rfl) Tryz.func8
    (cond_witness_at (enc := enc) (C := Tryz.checked) (os := os) (s := Rows.OpenSpec.upto Rows.pagerLostSpec) (k := Rows.uptoSmall) (X := (fun w _ => laidMetH Tryz.prog Rows.pagerLostUptoRow.laid w)) rfl false (laidW Tryz.prog Rows.pagerLostUptoRow.laid os) #[.int .i64 0, .agg #[.slice none 0 0, .slice none 0 0], .agg #[.int .i64 0, .int .i64 0, .int .i64 0, .slice none 0 0]] 8 rfl (by kernel_rfl) (by kernel_rfl) (by kernel_rfl)
      (x := ([.lit (.int .i64 0), .agg [.nil, .nil], .agg [.lit (.int .i64 0), .lit (.int .i64 0), .lit (.int .i64 0), .nil]], [], [])) (by kernel_rfl) rfl (by kernel_rfl) (by kernel_rfl) (laidW_metH os _))
    rfl (by kernel_rfl) (by kernel_rfl) rfl Tryz.underlying4 (fun ds hd => ?_) ?_ law8
  · match ds, hd with
    | [d0, d1, d2], _ => exact ⟨rfl, rfl, rfl⟩
  · show OpensA Tryz.prog Tryz.f8.params.toList _ R8 b8
    rw [Tryz.params8]; exact oa8
theorem pagerLost_row : Rows.PagerLostUptoSaid :=
  OpenClaim.holds_of_cond 8 Tryz.f8 rfl rfl rfl rfl rfl rfl rfl ⟨rfl, rfl, rfl, rfl, rfl⟩ rfl rfl rfl rfl rfl (by kernel_rfl) Tryz.func8 (by kernel_rfl)
    (of_decide_eq_true (by kernel_rfl)) (by unfold Func.isWrapper; first | (rw [if_pos (by decide +kernel)]; kernel_rfl) | (rw [if_neg (by decide +kernel)]; exact ⟨rfl, rfl⟩))
    (fun os started H enc _ F => lifted8 os started H enc F)
theorem pagerLost_holds : Rows.PagerLostUptoCardSaid :=
  Claim7.holds_tied_plain_at .later [] Rows.pagerLostUptoCard.laidKinds true Rows.pagerLostUptoCard.stood.harness Rows.pagerLostUptoCard.stood.looks
    pagerLost_row (fun _ h => by cases h) (by kernel_rfl) (fun _ h => by cases h) pagerLostUpto_row_tie rfl ⟨rfl, rfl⟩ (by kernel_rfl) (by kernel_rfl)
    (fun f fn hf hfn => by
      obtain rfl : f = 8 := Option.some.inj ((show Tryz.prog.funcNamed Rows.pagerLostUptoRow.func = some 8 by kernel_rfl).symm.trans hf) |>.symm
      obtain rfl : fn = Tryz.f8 := (Option.some.inj (Tryz.func8.symm.trans hfn)).symm
      exact ⟨by kernel_rfl, no_stand (by kernel_rfl)⟩)
    (by kernel_rfl)
#print axioms pagerLost_holds
end Go.Proofs.YtongpnolikkknaaGreatDoor
