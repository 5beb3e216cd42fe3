/- The call of SpaceTakes returns true for every input, and its arguments read behind it as they read before. -/
import Derived.Test.YtongpnolikkknaaGreatDoorZ2
import Derived.LaidEqlPtr
import Derived.Shelf.SlGeneric
import Derived.Shelf.SlIterI.Nil
import Derived.Shelf.SortM.Plain
import Derived.Shelf.SortM.SortNone
import Derived.Ground.GgzProg
import Derived.Ground.SlgmProg
import Derived.Shelf.SlMaps.Clone
import Derived.Ground.SlmcProg
import Derived.Test.YtongpnolikkknaaGreatDoorProg
set_option linter.unusedVariables false
set_option linter.unusedSimpArgs false
set_option linter.unusedSectionVars false
set_option maxRecDepth 20000
set_option maxHeartbeats 4000000
namespace Go.Proofs.YtongpnolikkknaaGreatDoor
open Sh RowKit Go.MapKept
def recB (D : Dv) (L : List ByteArray) : Int × Dv × List ByteArray :=
  if dirB (D.rd 1) = true then match recLs D (lst (D.rd 1)) 0 L [] with
    | none => (10, D, L)
    | some (L', ds) => ((runs (ds ++ [.sy] ++ markD false) D).1, (runs (ds ++ [.sy] ++ markD false) D).2, L')
  else (10, D, L)
theorem rd_size (D : Dv) (i : Int) : (D.rd i).size ≤ 64 := by
  unfold Dv.rd
  cases h : D.at i with
  | none => show (⟨#[]⟩ : ByteArray).size ≤ 64; decide
  | some x => exact Nat.le_of_eq x.now.2
theorem dirB_lst {s : ByteArray} (h : dirB s = true) : (rdA s).1 = lst s ∧ (lst s).length ≤ 31 ∧ (lst s).Nodup ∧ ∀ x ∈ lst s, 0 ≤ x ∧ x ≤ 65535 := by
  have e := rdA_ok (dir_iff.1 h).1
  obtain ⟨_, h2, h3, _⟩ := of_decide_eq_true h
  rw [e] at h3
  have h4 := of_decide_eq_true h3
  exact ⟨by rw [e], by rw [lst_len]; exact h2, h4.1, h4.2⟩
section
variable {e : TypeId} {B C Bp : Nat} {W w w' : World} {p q b : Nat} {v u lv : Value} {D : Dv} {Q : Value → World → Prop}
theorem f87_s {L : List ByteArray} {st c : Value} (hd : DevAt B w p v b D) (hq : w.heap[q]? = some (.cells #[pv p, u, st, c] 133 (0, 0))) (hu : ownV Bp 9 w u (L.map .string)) (h0 : 0 ≤ D.c) (h1 : D.c + 200 ≤ 1000000)
    (kk : ∀ w', DevAt B w' p v b (recB D L).2.1 → ChgS (fun k => u.ownBlock = some k ∨ fpD p v b k) w w' → ((recB D L).1 = 0 → ownV Bp 9 w' u ((recB D L).2.2.map .string)) → Q (.int .i64 (recB D L).1) w') : f87 (pv q) w Q := by
  unfold f87
  have cq0 : w.cell? ⟨q, 0, none⟩ = some (pv p) := by rw [cell_of_blk hq]; rfl
  try simp only [↓reduceIte, ↓LL, LM, Value.cells, Nat.reduceAdd, Option.some.injEq, exists_eq_left', decide_true, decide_false, if_true, if_false, reduceCtorEq, cond_true, cond_false, cq0]
  refine f86_s hd 1 fun w1 b1 => ?_
  try simp only [↓reduceIte, ↓LL, LM, Value.cells, Nat.reduceAdd, Option.some.injEq, exists_eq_left', decide_true, decide_false, if_true, if_false, reduceCtorEq, cond_true, cond_false]
  have hz := rd_size D 1
  refine f109_s (by omega) (fun w2 b2 hdir => ?_) (fun w2 lv b2 hdir hlv => ?_)
  · have b02 := bt b1 b2
    have e : recB D L = (10, D, L) := by unfold recB; rw [if_neg (by rw [hdir]; decide)]
    rw [e] at kk
    have z : ¬ (10 : Int) = 0 := by decide
    try simp only [↓reduceIte, ↓LL, LM, Value.cells, Nat.reduceAdd, Option.some.injEq, exists_eq_left', decide_true, decide_false, if_true, if_false, reduceCtorEq, cond_true, cond_false, get0, get1, ne_eq, z]
    exact kk w2 (hd.below b02) (ChgS.of_below b02) (fun h => absurd h z)
  · have b02 := bt b1 b2
    obtain ⟨e1, l31, lnd, lbd⟩ := dirB_lst hdir
    rw [e1] at hlv
    have hq2 := stay b02 hq
    have hu2 := ownV_below hu b02
    have hd2 := hd.below b02
    have llv : ∀ (K : Value → M) (w1 : World) (Q : Value → World → Prop), lnl lv K w1 Q = K (.int .i64 (((lst (D.rd 1)).length : Nat) : Int)) w1 Q := fun K w1 Q => by
      obtain ⟨pl, cl, el, _⟩ := ownI_len hlv
      rw [el, lnl_e]
    try simp only [↓reduceIte, ↓LL, LM, Value.cells, Nat.reduceAdd, Option.some.injEq, exists_eq_left', decide_true, decide_false, if_true, if_false, reduceCtorEq, cond_true, cond_false, get0, get1, ne_eq, llv]
    have eB : recB D L = match recLs D (lst (D.rd 1)) 0 L [] with
      | none => (10, D, L)
      | some (L', ds) => ((runs (ds ++ [.sy] ++ markD false) D).1, (runs (ds ++ [.sy] ++ markD false) D).2, L') := by unfold recB; rw [if_pos hdir]
    refine ⟨_, recover_loop (W := w2) hd2 hq2 hu2 hlv l31 lbd (lst (D.rd 1)).length ((lst (D.rd 1)).length + 1) 0 w2 L [] _ (by omega) (by omega) (ChgS.refl _ _) hu2 rfl DsAt_nil (by simp) (fun hn w3 hc3 => ?_) (fun L' ds' hs w3 v3 hc3 hu3 hL3 hds3 hdl3 => ?_)⟩
    · rw [List.drop_zero] at hn
      rw [hn] at eB
      have eB : recB D L = (10, D, L) := eB
      rw [eB] at kk
      have z : ¬ (10 : Int) = 0 := by decide
      have hc := (ChgS.of_below b02 (S := fun k => u.ownBlock = some k)).trans hc3 fun _ _ h => h
      exact kk w3 (hd.chgV hu (by decide) (by decide) hc) (hc.mono fun k h => .inl h) (fun h => absurd h z)
    · rw [List.drop_zero] at hs
      rw [hs] at eB
      have eB : recB D L = ((runs (ds' ++ [.sy] ++ markD false) D).1, (runs (ds' ++ [.sy] ++ markD false) D).2, L') := eB
      rw [eB] at kk
      have hc := (ChgS.of_below b02 (S := fun k => u.ownBlock = some k)).trans hc3 fun _ _ h => h
      have uq : ¬ u.ownBlock = some q := fun hn => by
        obtain ⟨_, _, cur, hcur⟩ := ownV_lt hu q hn
        rw [hcur] at hq; cases hq
      have hq3 := hc.keep hq uq
      have cq0 : w3.cell? ⟨q, 0, none⟩ = some (pv p) := by rw [cell_of_blk hq3]; rfl
      have s3 : w2.heap.size ≤ w3.heap.size := hc3.size
      unfold f87_j1
      try simp only [↓reduceIte, ↓LL, LM, Value.cells, Nat.reduceAdd, Option.some.injEq, exists_eq_left', decide_true, decide_false, if_true, if_false, reduceCtorEq, cond_true, cond_false, cq0]
      refine ap_d hds3 (show dR w2.heap.size w3 q p _ .sy from rfl) (by omega) s3 fun w4 v4 b4 d4 hc4 _ => ?_
      have hc4' : ChgS (fun k => u.ownBlock = some k) w w4 := hc.trans hc4 fun k hk h => by have := (DsAt_lt hds3 k h).1; have := b02.size; omega
      have hq4 := hc4'.keep hq uq
      try simp only [↓reduceIte, ↓LL, LM, Value.cells, Nat.reduceAdd, Option.some.injEq, exists_eq_left', decide_true, decide_false, if_true, if_false, reduceCtorEq, cond_true, cond_false]
      refine f115_s (p := p) (by rw [cell_of_blk hq4]; rfl) fun w5 v5 b5 d5 => ?_
      have s4 : w2.heap.size ≤ w4.heap.size := Nat.le_trans s3 b4.size
      try simp only [↓reduceIte, ↓LL, LM, Value.cells, Nat.reduceAdd, Option.some.injEq, exists_eq_left', decide_true, decide_false, if_true, if_false, reduceCtorEq, cond_true, cond_false]
      refine ap_ds (d4.below b5) (d5.weak (Nat.le_refl _) s4) (by simp [markD]; omega) (Nat.le_trans s4 b5.size) fun w6 v6 b6 d6 hc6 _ => ?_
      have hc5' : ChgS (fun k => u.ownBlock = some k) w w5 := hc4'.trans (ChgS.of_below b5) fun _ _ h => h
      have hc6' : ChgS (fun k => u.ownBlock = some k) w w6 := hc5'.trans hc6 fun k hk h => by have := (DsAt_lt (d4.below b5) k h).1; have := b02.size; omega
      have hd6 := hd.chgV hu (by decide) (by decide) hc6'
      have hu6 : ownV Bp 9 w6 u (L'.map .string) := by
        have h4 := ownV_chg hu3 hc4 fun g hg h => by have := (DsAt_lt hds3 g h).1; have := (ownV_lt hu2 g hg).2.1; omega
        exact ownV_chg (ownV_below h4 b5) hc6 fun g hg h => by have := (DsAt_lt (d4.below b5) g h).1; have := (ownV_lt hu2 g hg).2.1; omega
      try simp only [↓reduceIte, ↓LL, LM, Value.cells, Nat.reduceAdd, Option.some.injEq, exists_eq_left', decide_true, decide_false, if_true, if_false, reduceCtorEq, cond_true, cond_false]
      have hlen : (ds' ++ [De.sy] ++ markD false).length ≤ 200 := by simp [markD]; omega
      refine f90_s (B2 := 0) hd6 (hc6'.keep hq uq) rfl d6 (by omega) h0 (by omega) fun w7 d7 hc7 => ?_
      try simp only [↓reduceIte, ↓LL, LM, Value.cells, Nat.reduceAdd, Option.some.injEq, exists_eq_left', decide_true, decide_false, if_true, if_false, reduceCtorEq, cond_true, cond_false]
      exact kk w7 d7 ((hc6'.mono fun k h => .inl h).trans (hc7.mono fun k h => .inr h) fun _ _ h => h) (fun _ => own_dev hd6 hu6 (by decide) (by decide) hc7)
end
end Go.Proofs.YtongpnolikkknaaGreatDoor

set_option maxRecDepth 20000
set_option maxHeartbeats 4000000
namespace Go.Proofs.YtongpnolikkknaaGreatDoor
open Sh RowKit Go.MapKept
def pgP (D : Dv) (n : Nat) : ByteArray := (joinB (rdL D (plG n) 4)).1
def pgL (D : Dv) (N : Nat) : List ByteArray := (List.range N).map (pgP D)
theorem pgL_succ (D : Dv) (N : Nat) : pgL D (N + 1) = pgL D N ++ [pgP D N] := by unfold pgL; rw [List.range_succ, List.map_append]; rfl
theorem pgL_len (D : Dv) (N : Nat) : (pgL D N).length = N := by unfold pgL; simp
/-- a pager opened: the error, the device behind it, the pages -/
def openB (D : Dv) (n : Int) : Int × Dv × List ByteArray :=
  if n < 1 ∨ 160 < n ∨ (D.A.length : Int) < 126 + 4 * n then (1, D, []) else if mkd (D.rd 0) = true then recB D (pgL D n.toNat) else (0, D, pgL D n.toNat)
theorem buildPg (p : Nat) (w : World) : (Instr.build 133 #[(0, pv p)]).run Tryz.prog w = .ok (.agg #[pv p, .slice none 0 0, .bool false, .int .i64 0]) w := by
  kernel_rfl
theorem slS : slT Tryz.prog 100 9 (.string ⟨#[]⟩) 1 16 := sl39
section
variable {e : TypeId} {B C Bp : Nat} {W w w' : World} {p q b : Nat} {v u lv : Value} {D : Dv} {Q : Value → World → Prop}
/-- one text more; what was read ahead is there still -/
theorem ap_Tk {F : World → Prop} {s : ByteArray} {l : List ByteArray} {K : Value → M} (hF : F (psh w (.cells #[.string s] 9))) (h : ownV B 9 w v (l.map .string)) (hl : l.length ≤ 1000000) (hB : B ≤ w.heap.size)
    (kk : ∀ w' v', ownV B 9 w' v' ((l ++ [s]).map .string) → ChgS (fun k => v.ownBlock = some k) w w' → (∀ g, v'.ownBlock = some g → v.ownBlock = some g ∨ w.heap.size ≤ g) → K v' w' Q) :
    sm Tryz.prog (Instr.buildSlice 100 1 #[(0, .string s)]) (fun t => kp F (sm Tryz.prog (Builtin.append_ #[100, 100] 100 #[v, t]) K)) w Q := by
  refine bsl1 slS rfl rfl ?_
  refine ⟨hF, ?_⟩
  have h1 : (psh w (.cells #[.string s] 9)).ownsRow B 9 1 v (l.map Value.string).length (l.map .string) := World.ownsRow.alloc h _
  obtain ⟨i, g1, g2, g3, g4, g5⟩ := slT_info slS
  obtain ⟨v', w', hr, ho, hg, _, hf⟩ := run_append_own_at (P := Tryz.prog) (psh w (.cells #[.string s] 9)) B 100 100 9 i _ 1 16 g1 g2 g3 g4 g5 rfl (by decide) v (l.map Value.string).length (l.map .string) h1 ⟨w.heap.size, 0, none⟩ 1 1 [.string s] rfl (by
    intro j u hj
    cases j with
    | zero => simp at hj; subst hj; rw [add_lit, cell_psh_new]; rfl
    | succ j => simp at hj) (by intro u hu; simp at hu; subst hu; rfl) (by rw [List.length_map]; unfold maxLen; omega) (by rw [List.length_map]; omega) (by rw [size_psh]; omega)
  refine ⟨v', w', hr, kk w' v' ?_ ⟨hg.os, hg.tape, hg.output, by have := hg.size; rw [size_psh] at this; omega, fun k hk hne => ?_⟩ ?_⟩
  · unfold ownV
    have e1 : ((l ++ [s]).map Value.string) = l.map .string ++ [.string s] := by rw [List.map_append]; rfl
    rw [e1, List.length_append]; exact ho
  · rw [hg.block k (by rw [size_psh]; omega) (fun e => hne e.symm), blk_psh_old hk]
  · intro g hgv
    rcases hf with hf | hf
    · left; rw [← hf]; exact hgv
    · right
      rw [hf, size_psh] at hgv
      cases hgv; omega
theorem open_loop {n : Nat} {j1 : Value → Value → M} (hd : DevAt B W p v b D) (hn : n ≤ 1000) (hqW : W.heap.size ≤ q) : ∀ (d m i : Nat) (w : World) (u : Value), i + d = n → d < m → Below W.heap.size W w → w.heap[q]? = some (.cells #[pv p, u, .bool false, .int .i64 0] 133 (0, 0)) → ownV W.heap.size 9 w u ((pgL D i).map .string) →
    (∀ w' u', Below W.heap.size W w' → w'.heap[q]? = some (.cells #[pv p, u', .bool false, .int .i64 0] 133 (0, 0)) → ownV W.heap.size 9 w' u' ((pgL D n).map .string) → j1 (pv p) (pv q) w' Q) →
    itr (fun _ _ _ _ => bot) (f40_b2 j1) m (pv p) (pv q) (.int .i64 ((n : Nat) : Int)) (.int .i64 ((i : Nat) : Int)) w Q := by
  intro d
  induction d with
  | zero =>
    intro m i w u hi hm hb hq ho kk
    obtain ⟨m, rfl⟩ : ∃ x, m = x + 1 := ⟨m - 1, by omega⟩
    show f40_b2 j1 _ _ _ _ _ w Q
    unfold f40_b2
    have c : ¬ (i : Int) < (n : Nat) := by omega
    try simp only [↓reduceIte, ↓LL, LM, Value.cells, Nat.reduceAdd, Option.some.injEq, exists_eq_left', decide_true, decide_false, if_true, if_false, reduceCtorEq, cond_true, cond_false, c]
    have : i = n := by omega
    rw [this] at ho
    exact kk w u hb hq ho
  | succ d ih =>
    intro m i w u hi hm hb hq ho kk
    obtain ⟨m, rfl⟩ : ∃ x, m = x + 1 := ⟨m - 1, by omega⟩
    show f40_b2 j1 _ _ _ _ _ w Q
    unfold f40_b2
    have c : (i : Int) < (n : Nat) := by omega
    have h3 : IntKind.i64.wrap ((i : Int) + 1) = ((i + 1 : Nat) : Int) := by rw [w64 (by omega) (by omega)]; rfl
    have b1 := b_psh w (.cells #[.int .i64 0] 3)
    have k1 := blk_psh_new (w := w) (o := .cells #[.int .i64 0] 3)
    try simp only [↓reduceIte, ↓LL, LM, Value.cells, Nat.reduceAdd, Option.some.injEq, exists_eq_left', decide_true, decide_false, if_true, if_false, reduceCtorEq, cond_true, cond_false, c]
    generalize psh w (.cells #[.int .i64 0] 3) = w1 at *
    refine st_box (o := 0) (v := .int .i64 ((i : Nat) : Int)) k1 (by decide) rfl fun w2 k2 u2 => ?_
    have k2 : w2.heap[w.heap.size]? = some (.cells #[.int .i64 ((i : Nat) : Int)] 3 (0, 0)) := k2
    have b2 : Below w.heap.size w w2 := b1.trans (u2.below (Nat.le_refl _))
    have hq2 := stay b2 hq
    have c1 : w2.cell? ⟨q, 1, none⟩ = some u := by rw [cell_of_blk hq2]; rfl
    have hb2 := bt hb b2
    try simp only [↓reduceIte, ↓LL, LM, Value.cells, Nat.reduceAdd, Option.some.injEq, exists_eq_left', decide_true, decide_false, if_true, if_false, reduceCtorEq, cond_true, cond_false, c1]
    refine f83_s ((hd.below hb2).drw) (by rw [cell_drw, cell_of_blk hq2]; rfl) (plc_O (show (drw w2).heap[w.heap.size]? = _ from k2) (by omega) (by omega)) fun w3 b3 => ?_
    have b3 := of_drw' b3
    have hq3 := stay b3 hq2
    have hb3 := bt hb2 b3
    have c1 : w3.cell? ⟨q, 1, none⟩ = some u := by rw [cell_of_blk hq3]; rfl
    have ho3 := ownV_below ho (bt b2 b3)
    try simp only [↓reduceIte, ↓LL, LM, Value.cells, Nat.reduceAdd, Option.some.injEq, exists_eq_left', decide_true, decide_false, if_true, if_false, reduceCtorEq, cond_true, cond_false]
    refine ⟨by rw [Kld_e]; exact c1, ?_⟩
    have b4 := b_psh w3 (.cells #[.string (joinB (rdL D (plG ((i : Nat) : Int)) 4)).1] 9)
    refine ap_Tk (by rw [Kld_e]; exact cell_below b4 c1) ho3 (by rw [pgL_len]; omega) hb3.size fun w5 u5 o5 hc5 fr5 => ?_
    have uT : ∀ g, u.ownBlock = some g → W.heap.size ≤ g ∧ g ≠ q := fun g hg => by
      obtain ⟨h1, _, cur, hcur⟩ := ownV_lt ho g hg
      exact ⟨h1, fun e => by rw [e, hq] at hcur; cases hcur⟩
    have hq5 := hc5.keep hq3 fun h => (uT q h).2 rfl
    have hb5 : Below W.heap.size W w5 := hb3.trans (hc5.below (fun k hk => (uT k hk).1) hb3.size)
    try simp only [↓reduceIte, ↓LL, LM, Value.cells, Nat.reduceAdd, Option.some.injEq, exists_eq_left', decide_true, decide_false, if_true, if_false, reduceCtorEq, cond_true, cond_false]
    refine st_box (o := 1) (v := u5) hq5 (show 1 < 4 by decide) (by obtain ⟨x, y, rfl⟩ := ownV_len o5; rfl) fun w6 hq6 u6 => ?_
    have hq6 : w6.heap[q]? = some (.cells #[pv p, u5, .bool false, .int .i64 0] 133 (0, 0)) := hq6
    try simp only [↓reduceIte, ↓LL, LM, Value.cells, Nat.reduceAdd, Option.some.injEq, exists_eq_left', decide_true, decide_false, if_true, if_false, reduceCtorEq, cond_true, cond_false, h3]
    refine ih m (i + 1) w6 u5 (by omega) (by omega) (hb5.trans (u6.below hqW)) hq6 ?_ kk
    rw [pgL_succ]
    exact ownV_stay o5 fun g hg => u6.block g fun e => by
      obtain ⟨_, _, cur, hcur⟩ := ownV_lt o5 g hg
      rw [e, hq5] at hcur; cases hcur
theorem pt58 : Tryz.prog.underlying 63 = some (.pointer (Tryz.prog.pointee 63)) := pt23
theorem f40_s {n : Int} (hd : DevAt B w p v b D) (h0 : 0 ≤ D.c) (h1 : D.c + 200 ≤ 1000000)
    (k1 : (openB D n).1 ≠ 0 → ∀ w', DevAt B w' p v b (openB D n).2.1 → ChgS (fpD p v b) w w' → Q (.tuple #[.pointer none, .int .i64 (openB D n).1]) w')
    (k0 : (openB D n).1 = 0 → ∀ w' q u, w.heap.size ≤ q → w'.heap[q]? = some (.cells #[pv p, u, .bool false, .int .i64 0] 133 (0, 0)) → ownV w.heap.size 9 w' u ((openB D n).2.2.map .string) → DevAt B w' p v b (openB D n).2.1 → ChgS (fpD p v b) w w' → Q (.tuple #[pv q, .int .i64 0]) w') : f40 (pv p) (.int .i64 n) w Q := by
  unfold f40
  rw [pn_eq pt58]
  by_cases c1 : n < 1
  · have e : openB D n = (1, D, []) := by unfold openB; rw [if_pos (.inl c1)]
    rw [e] at k1
    try simp only [↓reduceIte, ↓LL, LM, Value.cells, Nat.reduceAdd, Option.some.injEq, exists_eq_left', decide_true, decide_false, if_true, if_false, reduceCtorEq, cond_true, cond_false, Option.isNone, c1]
    exact k1 (show ¬ (1 : Int) = 0 by decide) w hd (ChgS.refl _ _)
  by_cases c2 : 160 < n
  · have e : openB D n = (1, D, []) := by unfold openB; rw [if_pos (.inr (.inl c2))]
    rw [e] at k1
    have c2' : n > 160 := c2
    try simp only [↓reduceIte, ↓LL, LM, Value.cells, Nat.reduceAdd, Option.some.injEq, exists_eq_left', decide_true, decide_false, if_true, if_false, reduceCtorEq, cond_true, cond_false, Option.isNone, c1, c2, c2']
    exact k1 (show ¬ (1 : Int) = 0 by decide) w hd (ChgS.refl _ _)
  have c2' : ¬ n > 160 := c2
  try simp only [↓reduceIte, ↓LL, LM, Value.cells, Nat.reduceAdd, Option.some.injEq, exists_eq_left', decide_true, decide_false, if_true, if_false, reduceCtorEq, cond_true, cond_false, Option.isNone, c1, c2, c2']
  refine f82_s hd ?_
  try simp only [↓reduceIte, ↓LL, LM, Value.cells, Nat.reduceAdd, Option.some.injEq, exists_eq_left', decide_true, decide_false, if_true, if_false, reduceCtorEq, cond_true, cond_false]
  refine f39_s ⟨by omega, by omega⟩ ?_
  by_cases c3 : ((D.A.length : Nat) : Int) < 126 + 4 * n
  · have e : openB D n = (1, D, []) := by unfold openB; rw [if_pos (.inr (.inr c3))]
    rw [e] at k1
    try simp only [↓reduceIte, ↓LL, LM, Value.cells, Nat.reduceAdd, Option.some.injEq, exists_eq_left', decide_true, decide_false, if_true, if_false, reduceCtorEq, cond_true, cond_false, c3]
    exact k1 (show ¬ (1 : Int) = 0 by decide) w hd (ChgS.refl _ _)
  have eO : openB D n = if mkd (D.rd 0) = true then recB D (pgL D n.toNat) else (0, D, pgL D n.toNat) := by
    unfold openB; rw [if_neg (by omega)]
  obtain ⟨n, rfl⟩ := Int.eq_ofNat_of_zero_le (show 0 ≤ n by omega)
  rw [Int.toNat_natCast] at eO
  try simp only [↓reduceIte, ↓LL, LM, Value.cells, Nat.reduceAdd, Option.some.injEq, exists_eq_left', decide_true, decide_false, if_true, if_false, reduceCtorEq, cond_true, cond_false, c3]
  rw [smr_run (buildPg p w)]
  have b1 := b_psh w (.cells #[pv p, .slice none 0 0, .bool false, .int .i64 0] 133)
  have q1 := blk_psh_new (w := w) (o := .cells #[pv p, .slice none 0 0, .bool false, .int .i64 0] 133)
  try simp only [↓reduceIte, ↓LL, LM, Value.cells, Nat.reduceAdd, Option.some.injEq, exists_eq_left', decide_true, decide_false, if_true, if_false, reduceCtorEq, cond_true, cond_false]
  generalize psh w (.cells #[pv p, .slice none 0 0, .bool false, .int .i64 0] 133) = w1 at *
  refine ⟨_, open_loop (W := w) hd (by omega) (Nat.le_refl _) n (n + 1) 0 w1 _ (by omega) (by omega) b1 q1 ownV_nil fun w2 u2 b2 q2 o2 => ?_⟩
  have hd2 := hd.below b2
  unfold f40_j1
  try simp only [↓reduceIte, ↓LL, LM, Value.cells, Nat.reduceAdd, Option.some.injEq, exists_eq_left', decide_true, decide_false, if_true, if_false, reduceCtorEq, cond_true, cond_false]
  refine f86_s hd2 0 fun w3 b3 => ?_
  have b03 := bt b2 b3
  have hd3 := hd.below b03
  have q3 := stay b3 q2
  have o3 := ownV_below o2 b3
  have uq : ∀ g, u2.ownBlock = some g → w.heap.size ≤ g := fun g hg => (ownV_lt o3 g hg).1
  try simp only [↓reduceIte, ↓LL, LM, Value.cells, Nat.reduceAdd, Option.some.injEq, exists_eq_left', decide_true, decide_false, if_true, if_false, reduceCtorEq, cond_true, cond_false]
  refine f85_s ?_
  by_cases cm : mkd (D.rd 0) = true
  · rw [if_pos cm] at eO
    rw [eO] at k0 k1
    try simp only [↓reduceIte, ↓LL, LM, Value.cells, Nat.reduceAdd, Option.some.injEq, exists_eq_left', decide_true, decide_false, if_true, if_false, reduceCtorEq, cond_true, cond_false, cm]
    refine f87_s hd3 q3 o3 h0 h1 fun w4 d4 hc4 ho4 => ?_
    have hc04 : ChgS (fpD p v b) w w4 := (ChgS.of_below b03 (S := fpD p v b)).trans (hc4.mono' (T := fun k => u2.ownBlock = some k ∨ fpD p v b k) fun k _ h => h) (fun k hk h => by
      rcases h with h | h
      · have := uq k h; omega
      · exact h)
    by_cases cz : (recB D (pgL D n)).1 = 0
    · have q4 := hc4.keep q3 fun h => by
        rcases h with h | h
        · obtain ⟨_, _, cur, hcur⟩ := ownV_lt o3 _ h
          rw [hcur] at q3; cases q3
        · exact dev_ne hd3 q3 (by decide) (by decide) h
      unfold f40_j3
      try simp only [↓reduceIte, ↓LL, LM, Value.cells, Nat.reduceAdd, Option.some.injEq, exists_eq_left', decide_true, decide_false, if_true, if_false, reduceCtorEq, cond_true, cond_false, cz, ne_eq]
      exact k0 cz w4 _ u2 (Nat.le_refl _) q4 (ho4 cz) d4 hc04
    · try simp only [↓reduceIte, ↓LL, LM, Value.cells, Nat.reduceAdd, Option.some.injEq, exists_eq_left', decide_true, decide_false, if_true, if_false, reduceCtorEq, cond_true, cond_false, cz, ne_eq]
      exact k1 cz w4 d4 hc04
  · have cm' : mkd (D.rd 0) = false := by simpa using cm
    rw [if_neg cm] at eO
    rw [eO] at k0
    unfold f40_j3
    try simp only [↓reduceIte, ↓LL, LM, Value.cells, Nat.reduceAdd, Option.some.injEq, exists_eq_left', decide_true, decide_false, if_true, if_false, reduceCtorEq, cond_true, cond_false, cm']
    exact k0 rfl w3 _ u2 (Nat.le_refl _) q3 o3 hd3 (ChgS.of_below b03)
end
end Go.Proofs.YtongpnolikkknaaGreatDoor

set_option maxRecDepth 20000
set_option maxHeartbeats 4000000
namespace Go.Proofs.YtongpnolikkknaaGreatDoor
open Sh RowKit Go.MapKept
abbrev Ch := Int × ByteArray
def encC (c : Ch) : List Value := [.int .i64 c.1, .string c.2]
theorem encC_len (c : Ch) : (encC c).length = 2 := rfl
theorem encC_one (c : Ch) : ∀ x ∈ encC c, x.oneCell' = true := by
  intro x hx
  rcases List.mem_cons.1 hx with rfl | hx
  · rfl
  · rw [List.mem_singleton.1 hx]; rfl
def pgR (L : List ByteArray) (n : Int) : ByteArray × Int := if 0 ≤ n ∧ n < L.length then (L.getD n.toNat ⟨#[]⟩, 0) else (⟨#[]⟩, 7)
def oddL (cs : List Ch) : Bool := decide (¬ ((cs.map (·.1)).Nodup ∧ ∀ c ∈ cs, c.2.size = 256))
def mayB (st : Bool) (N : Nat) (cs : List Ch) : Int := if st = true then 13 else if 31 < cs.length then 3 else if ∃ c ∈ cs, c.1 < 0 ∨ (N : Int) ≤ c.1 then 7 else if oddL cs = true then 1 else 0
theorem oddL_snoc {cs : List Ch} {c : Ch} : oddL (cs ++ [c]) = (oddL cs || decide (c.1 ∈ cs.map (·.1)) || decide (c.2.size ≠ 256)) := by
  unfold oddL
  rw [← Bool.decide_or, ← Bool.decide_or]
  congr 1
  apply propext
  rw [List.map_append, List.nodup_append]
  constructor
  · intro h
    by_cases h1 : ¬ ((cs.map (·.1)).Nodup ∧ ∀ c ∈ cs, c.2.size = 256)
    · exact .inl (.inl h1)
    · have h1 := Classical.not_not.1 h1
      by_cases h2 : c.1 ∈ cs.map (·.1)
      · exact .inl (.inr h2)
      · by_cases h3 : c.2.size = 256
        · exfalso
          refine h ⟨⟨h1.1, by simp, ?_⟩, ?_⟩
          · intro a ha b hb e
            rw [List.map_singleton, List.mem_singleton] at hb
            exact h2 (by rw [← hb, ← e]; exact ha)
          · intro x hx
            rcases List.mem_append.1 hx with hx | hx
            · exact h1.2 x hx
            · rw [List.mem_singleton.1 hx]; exact h3
        · exact .inr h3
  · rintro ((h | h) | h) ⟨⟨g1, _, g3⟩, g4⟩
    · exact h ⟨g1, fun x hx => g4 x (List.mem_append_left _ hx)⟩
    · exact g3 _ h _ (by simp) rfl
    · exact h (g4 c (by simp))
theorem pt49 : Tryz.prog.underlying 40 = some (.pointer (Tryz.prog.pointee 40)) := by kernel_rfl
section
variable {e : TypeId} {B C Bp : Nat} {W w w' : World} {p q b : Nat} {v u lv : Value} {D : Dv} {Q : Value → World → Prop}
theorem f78_s {L : List ByteArray} {st c : Value} {n : Int} (hq : w.heap[q]? = some (.cells #[pv p, u, st, c] 133 (0, 0))) (hu : ownV Bp 9 w u (L.map .string)) (kk : Q (.tuple #[.string (pgR L n).1, .int .i64 (pgR L n).2]) w) : f78 (pv q) (.int .i64 n) w Q := by
  unfold f78
  rw [pn_eq pt49]
  have c1 : w.cell? ⟨q, 1, none⟩ = some u := by rw [cell_of_blk hq]; rfl
  have lu := lnl_own hu
  rw [List.length_map] at lu
  unfold pgR at kk
  by_cases h0 : n < 0
  · rw [if_neg (by omega)] at kk
    try simp only [↓reduceIte, ↓LL, LM, Value.cells, Nat.reduceAdd, Option.some.injEq, exists_eq_left', decide_true, decide_false, if_true, if_false, reduceCtorEq, cond_true, cond_false, Option.isNone, h0]
    exact kk
  by_cases h1 : (L.length : Int) ≤ n
  · rw [if_neg (by omega)] at kk
    have h1' : n ≥ (L.length : Int) := h1
    try simp only [↓reduceIte, ↓LL, LM, Value.cells, Nat.reduceAdd, Option.some.injEq, exists_eq_left', decide_true, decide_false, if_true, if_false, reduceCtorEq, cond_true, cond_false, Option.isNone, h0, c1, lu, h1, h1']
    exact kk
  obtain ⟨n, rfl⟩ := Int.eq_ofNat_of_zero_le (show 0 ≤ n by omega)
  have hn : n < L.length := by omega
  have h1' : ¬ ((n : Nat) : Int) ≥ (L.length : Int) := h1
  rw [if_pos (by omega)] at kk
  obtain ⟨g, hia, hc, _⟩ := cell_V hu (i := n) (by rw [List.length_map]; exact hn)
  rw [List.getElem_map] at hc
  have eg : L.getD ((n : Nat) : Int).toNat ⟨#[]⟩ = L[n] := by rw [Int.toNat_natCast, List.getD_eq_getElem?_getD, List.getElem?_eq_getElem hn]; rfl
  rw [eg] at kk
  try simp only [↓reduceIte, ↓LL, LM, Value.cells, Nat.reduceAdd, Option.some.injEq, exists_eq_left', decide_true, decide_false, if_true, if_false, reduceCtorEq, cond_true, cond_false, Option.isNone, h0, c1, lu, h1, h1', hia, hc]
  exact kk
theorem f79_s {L : List ByteArray} {st c : Value} (hq : w.heap[q]? = some (.cells #[pv p, u, st, c] 133 (0, 0))) (hu : ownV Bp 9 w u (L.map .string)) (kk : Q (.int .i64 (L.length : Nat)) w) : f79 (pv q) w Q := by
  unfold f79
  rw [pn_eq pt49]
  have c1 : w.cell? ⟨q, 1, none⟩ = some u := by rw [cell_of_blk hq]; rfl
  have lu := lnl_own hu
  rw [List.length_map] at lu
  try simp only [↓reduceIte, ↓LL, LM, Value.cells, Nat.reduceAdd, Option.some.injEq, exists_eq_left', decide_true, decide_false, if_true, if_false, reduceCtorEq, cond_true, cond_false, Option.isNone, c1, lu]
  exact kk
theorem lnl_S {α : Type} {n : Nat} {R : RepT α} {l : List α} (h : rdS n R w v l) : ∀ (K : Value → M) (w1 : World) (Q : Value → World → Prop), lnl v K w1 Q = K (.int .i64 ((l.length : Nat) : Int)) w1 Q := by
  intro K w1 Q
  rcases h with ⟨rfl, rfl⟩ | ⟨a, c, rfl, _⟩ <;> rw [lnl_e] <;> rfl
theorem may_loop {L : List ByteArray} {st c : Value} {cs : List Ch} {mb : Nat} (hq : W.heap[q]? = some (.cells #[pv p, u, st, c] 133 (0, 0))) (hu : ownV Bp 9 W u (L.map .string)) (hcs : rdS 2 (eR encC) W v cs) (hl : cs.length ≤ 31) (hL : L.length ≤ 1000000) (hmb : W.heap.size ≤ mb) : ∀ (d m i : Nat) (w : World) (ML : List (Int × Value)), i + d = cs.length → d < m → Below W.heap.size W w → MapAt kI w mb ML →
    (∀ k, lk ML k = if k ∈ (cs.take i).map (·.1) then some (.int .i64 (((cs.take i).map (·.1)).count k : Nat)) else none) → (∀ x ∈ cs.take i, 0 ≤ x.1 ∧ x.1 < (L.length : Int)) →
    (∀ w', Below W.heap.size W w' → Q (.int .i64 (mayB false L.length cs)) w') →
    itr (fun _ _ _ _ _ _ => bot) (f89_b2 f89_j1) m (pv q) (.map (some mb)) (.bool (oddL (cs.take i))) v (.int .i64 ((cs.length : Nat) : Int)) (.int .i64 ((i : Nat) : Int)) w Q := by
  intro d
  induction d with
  | zero =>
    intro m i w ML hi hm hb hM hlk hall kk
    obtain ⟨m, rfl⟩ : ∃ x, m = x + 1 := ⟨m - 1, by omega⟩
    show f89_b2 f89_j1 _ _ _ _ _ _ _ w Q
    unfold f89_b2
    have cc : ¬ (i : Int) < (cs.length : Nat) := by omega
    try simp only [↓reduceIte, ↓LL, LM, Value.cells, Nat.reduceAdd, Option.some.injEq, exists_eq_left', decide_true, decide_false, if_true, if_false, reduceCtorEq, cond_true, cond_false, cc]
    unfold f89_j1
    rw [List.take_of_length_le (by omega)] at hall ⊢
    have e : mayB false L.length cs = if oddL cs = true then 1 else 0 := by
      unfold mayB
      rw [if_neg (by decide), if_neg (by omega), if_neg (fun ⟨x, hx, h⟩ => by have := hall x hx; omega)]
    rw [e] at kk
    cases ho : oddL cs with
    | true =>
      rw [ho, if_pos rfl] at kk
      try simp only [↓reduceIte, ↓LL, LM, Value.cells, Nat.reduceAdd, Option.some.injEq, exists_eq_left', decide_true, decide_false, if_true, if_false, reduceCtorEq, cond_true, cond_false]
      exact kk w hb
    | false =>
      rw [ho, if_neg (by decide)] at kk
      try simp only [↓reduceIte, ↓LL, LM, Value.cells, Nat.reduceAdd, Option.some.injEq, exists_eq_left', decide_true, decide_false, if_true, if_false, reduceCtorEq, cond_true, cond_false]
      exact kk w hb
  | succ d ih =>
    intro m i w ML hi hm hb hM hlk hall kk
    obtain ⟨m, rfl⟩ : ∃ x, m = x + 1 := ⟨m - 1, by omega⟩
    show f89_b2 f89_j1 _ _ _ _ _ _ _ w Q
    unfold f89_b2
    have cc : (i : Int) < (cs.length : Nat) := by omega
    have hil : i < cs.length := by omega
    have h3 : IntKind.i64.wrap ((i : Int) + 1) = ((i + 1 : Nat) : Int) := by rw [w64 (by omega) (by omega)]; rfl
    obtain ⟨ad, es, he1, he2, he3, hia⟩ := rdS_at (rdS_below eR_st hb hcs) hil
    have hts : cs.take (i + 1) = cs.take i ++ [cs[i]] := List.take_succ_eq_append_getElem hil
    have hmem := List.getElem_mem hil
    have hq' := stay hb hq
    have hu' := ownV_below hu hb
    try simp only [↓reduceIte, ↓LL, LM, Value.cells, Nat.reduceAdd, Option.some.injEq, exists_eq_left', decide_true, decide_false, if_true, if_false, reduceCtorEq, cond_true, cond_false, cc, hia]
    refine ldn_at he2 he1 ?_
    have he3 : es = encC cs[i] := he3
    rw [he3]
    generalize cs[i] = x at *
    obtain ⟨n, s⟩ := x
    have b1 := b_psh w (.cells #[.int .i64 0, .string ⟨#[]⟩] 48)
    have k1 := blk_psh_new (w := w) (o := .cells #[.int .i64 0, .string ⟨#[]⟩] 48)
    try simp only [↓reduceIte, ↓LL, LM, Value.cells, Nat.reduceAdd, Option.some.injEq, exists_eq_left', decide_true, decide_false, if_true, if_false, reduceCtorEq, cond_true, cond_false]
    refine stn_box k1 (by simp) (by simp [encC]) (by intro x hx; exact encC_one (n, s) x (by simpa using hx)) fun w2 k2 u2 => ?_
    have b2 : Below w.heap.size w w2 := b1.trans (u2.below (Nat.le_refl _))
    have hb2 := bt hb b2
    have c0 : w2.cell? ⟨w.heap.size, 0, none⟩ = some (.int .i64 n) := by rw [cell_of_blk k2]; rfl
    have c1 : w2.cell? ⟨w.heap.size, 1, none⟩ = some (.string s) := by rw [cell_of_blk k2]; rfl
    have hq2 := stay b2 hq'
    have cq : w2.cell? ⟨q, 1, none⟩ = some u := by rw [cell_of_blk hq2]; rfl
    have lu := lnl_own (ownV_below hu' b2)
    rw [List.length_map] at lu
    by_cases h7 : n < 0 ∨ (L.length : Int) ≤ n
    · have e : mayB false L.length cs = 7 := by
        unfold mayB
        rw [if_neg (by decide), if_neg (by omega), if_pos ⟨(n, s), hmem, h7⟩]
      rw [e] at kk
      have fin := kk (drw w2) ⟨hb2.os, hb2.tape, hb2.output, hb2.size, hb2.block⟩
      by_cases h0 : n < 0
      · try simp only [↓reduceIte, ↓LL, LM, Value.cells, Nat.reduceAdd, Option.some.injEq, exists_eq_left', decide_true, decide_false, if_true, if_false, reduceCtorEq, cond_true, cond_false, c0, h0]
        exact fin
      · have h1 : n ≥ (L.length : Int) := by omega
        have h1' : (L.length : Int) ≤ n := h1
        try simp only [↓reduceIte, ↓LL, LM, Value.cells, Nat.reduceAdd, Option.some.injEq, exists_eq_left', decide_true, decide_false, if_true, if_false, reduceCtorEq, cond_true, cond_false, c0, h0, cq, lu, h1, h1']
        exact fin
    · have h0 : ¬ n < 0 := by omega
      have h1 : ¬ n ≥ (L.length : Int) := by omega
      have h1' : ¬ (L.length : Int) ≤ n := h1
      try simp only [↓reduceIte, ↓LL, LM, Value.cells, Nat.reduceAdd, Option.some.injEq, exists_eq_left', decide_true, decide_false, if_true, if_false, reduceCtorEq, cond_true, cond_false, c0, h0, cq, lu, h1, h1']
      have hM2 : MapAt kI (drw w2) mb ML := hM.below (⟨b2.os, b2.tape, b2.output, b2.size, b2.block⟩ : Below w.heap.size w (drw w2))
      rw [show (Value.int .i64 n) = kI n from rfl, look_v KKi hM2 z3 n]
      have hln := hlk n
      have hcle : ((cs.take i).map (·.1)).count n ≤ 31 := Nat.le_trans (List.count_le_length) (by rw [List.length_map, List.length_take]; omega)
      have hget : (lk ML n).getD (.int .i64 0) = .int .i64 (((cs.take i).map (·.1)).count n : Nat) := by
        rw [hln]
        split
        · rfl
        · rename_i hn
          rw [List.count_eq_zero.2 hn]; rfl
      have hw : IntKind.i64.wrap ((((cs.take i).map (·.1)).count n : Nat) + 1) = (((cs.take i).map (·.1)).count n : Nat) + 1 := w64 (by omega) (by omega)
      rw [hget]
      try simp only [↓reduceIte, ↓LL, LM, Value.cells, Nat.reduceAdd, Option.some.injEq, exists_eq_left', decide_true, decide_false, if_true, if_false, reduceCtorEq, cond_true, cond_false, hw]
      refine upd_map KKi hM2 n _ fun w3 hM3 u3 => ?_
      have hb3 : Below W.heap.size W w3 := (show Below W.heap.size W (drw w2) from ⟨hb2.os, hb2.tape, hb2.output, hb2.size, hb2.block⟩).trans (u3.below hmb)
      have hne : w.heap.size ≠ mb := by have := hM.lt; omega
      have k3 : w3.heap[w.heap.size]? = _ := Upd_keep u3 (show (drw w2).heap[w.heap.size]? = _ from k2) hne
      have c0 : w3.cell? ⟨w.heap.size, 0, none⟩ = some (.int .i64 n) := by rw [cell_of_blk k3]; rfl
      have c1 : w3.cell? ⟨w.heap.size, 1, none⟩ = some (.string s) := by rw [cell_of_blk k3]; rfl
      have hl3 : lk (put ML n (.int .i64 ((((cs.take i).map (·.1)).count n : Nat) + 1))) n = some (.int .i64 ((((cs.take i).map (·.1)).count n : Nat) + 1)) := by rw [lk_put, if_pos rfl]
      have hlook : ∀ (K : Value → M), smr Tryz.prog (Instr.lookup 164 (.map (some mb)) (.int .i64 n) false) K w3 Q = K (.int .i64 ((((cs.take i).map (·.1)).count n : Nat) + 1)) w3 Q := fun K => by
        rw [show (Value.int .i64 n) = kI n from rfl, look_v KKi hM3 z3 n, hl3]; rfl
      have next : ∀ o, o = oddL (cs.take (i + 1)) → itr (fun _ _ _ _ _ _ => bot) (f89_b2 f89_j1) m (pv q) (.map (some mb)) (.bool o) v (.int .i64 ((cs.length : Nat) : Int)) (.int .i64 ((i + 1 : Nat) : Int)) w3 Q := by
        rintro o rfl
        refine ih m (i + 1) w3 _ (by omega) (by omega) hb3 hM3 (fun k => ?_) (fun x hx => ?_) kk
        · have em : (k ∈ (cs.take (i + 1)).map (·.1)) ↔ (k ∈ (cs.take i).map (·.1) ∨ k = n) := by rw [hts, List.map_append]; simp
          have ec : ((cs.take (i + 1)).map (·.1)).count k = ((cs.take i).map (·.1)).count k + ([n] : List Int).count k := by rw [hts, List.map_append, List.count_append]; rfl
          rw [lk_put]
          by_cases hk : k = n
          · subst hk
            rw [if_pos rfl, if_pos (em.2 (.inr rfl)), ec]
            simp
          · rw [if_neg hk, hlk k]
            have h0 : ([n] : List Int).count k = 0 := List.count_eq_zero.2 (by simpa using hk)
            rw [ec, h0]
            by_cases hin : k ∈ (cs.take i).map (·.1)
            · rw [if_pos hin, if_pos (em.2 (.inl hin))]; rfl
            · rw [if_neg hin, if_neg (fun h => (em.1 h).elim hin hk)]
        · rw [hts] at hx
          rcases List.mem_append.1 hx with hx | hx
          · exact hall x hx
          · rw [List.mem_singleton.1 hx]; exact ⟨by simpa using h0, by simpa using h1⟩
      have hod : oddL (cs.take (i + 1)) = (oddL (cs.take i) || decide (n ∈ (cs.take i).map (·.1)) || decide (s.size ≠ 256)) := by rw [hts, oddL_snoc]
      try unfold kI
      cases ho : oddL (cs.take i) with
      | true =>
        rw [ho] at hod
        try simp only [↓reduceIte, ↓LL, LM, Value.cells, Nat.reduceAdd, Option.some.injEq, exists_eq_left', decide_true, decide_false, if_true, if_false, reduceCtorEq, cond_true, cond_false, h3]
        exact next true (by rw [hod]; rfl)
      | false =>
        rw [ho] at hod
        by_cases hin : n ∈ (cs.take i).map (·.1)
        · have hpos : 0 < ((cs.take i).map (·.1)).count n := List.count_pos_iff.2 hin
          have g : ((((cs.take i).map (·.1)).count n : Nat) : Int) + 1 > 1 := by omega
          have g' : (1 : Int) < ((((cs.take i).map (·.1)).count n : Nat) : Int) + 1 := g
          try simp only [↓reduceIte, ↓LL, LM, Value.cells, Nat.reduceAdd, Option.some.injEq, exists_eq_left', decide_true, decide_false, if_true, if_false, reduceCtorEq, cond_true, cond_false, c0, hlook, g, g', h3]
          exact next true (by rw [hod, decide_eq_true hin]; rfl)
        · have hz : ((cs.take i).map (·.1)).count n = 0 := List.count_eq_zero.2 hin
          have g' : ¬ (1 : Int) < ((((cs.take i).map (·.1)).count n : Nat) : Int) + 1 := by omega
          have g : ¬ ((((cs.take i).map (·.1)).count n : Nat) : Int) + 1 > 1 := g'
          by_cases hs : s.size = 256
          · have hs' : ((s.size : Nat) : Int) = 256 := by omega
            try simp only [↓reduceIte, ↓LL, LM, Value.cells, Nat.reduceAdd, Option.some.injEq, exists_eq_left', decide_true, decide_false, if_true, if_false, reduceCtorEq, cond_true, cond_false, c0, c1, hlook, g, g', h3, ne_eq, hs']
            exact next false (by rw [hod, decide_eq_false hin, decide_eq_false (fun h => h hs)]; rfl)
          · have hs' : ¬ ((s.size : Nat) : Int) = 256 := by omega
            try simp only [↓reduceIte, ↓LL, LM, Value.cells, Nat.reduceAdd, Option.some.injEq, exists_eq_left', decide_true, decide_false, if_true, if_false, reduceCtorEq, cond_true, cond_false, c0, c1, hlook, g, g', h3, ne_eq, hs']
            exact next true (by rw [hod, decide_eq_false hin, decide_eq_true hs]; rfl)
theorem f89_s {L : List ByteArray} {st : Bool} {c : Value} {cs : List Ch} (hq : w.heap[q]? = some (.cells #[pv p, u, .bool st, c] 133 (0, 0))) (hu : ownV Bp 9 w u (L.map .string)) (hcs : rdS 2 (eR encC) w v cs) (hL : L.length ≤ 1000000)
    (kk : ∀ w', Below w.heap.size w w' → Q (.int .i64 (mayB st L.length cs)) w') : f89 (pv q) v w Q := by
  unfold f89
  have c2 : w.cell? ⟨q, 2, none⟩ = some (.bool st) := by rw [cell_of_blk hq]; rfl
  have lv := lnl_S hcs
  cases st with
  | true =>
    try simp only [↓reduceIte, ↓LL, LM, Value.cells, Nat.reduceAdd, Option.some.injEq, exists_eq_left', decide_true, decide_false, if_true, if_false, reduceCtorEq, cond_true, cond_false, c2]
    exact kk w (Below.refl _ _)
  | false =>
    by_cases h3 : 31 < cs.length
    · have e : mayB false L.length cs = 3 := by unfold mayB; rw [if_neg (by decide), if_pos h3]
      rw [e] at kk
      have h3' : (31 : Int) < ((cs.length : Nat) : Int) := by omega
      have h3'' : ((cs.length : Nat) : Int) > 31 := h3'
      try simp only [↓reduceIte, ↓LL, LM, Value.cells, Nat.reduceAdd, Option.some.injEq, exists_eq_left', decide_true, decide_false, if_true, if_false, reduceCtorEq, cond_true, cond_false, c2, lv, h3', h3'']
      exact kk w (Below.refl _ _)
    · have h3' : ¬ (31 : Int) < ((cs.length : Nat) : Int) := by omega
      have h3'' : ¬ ((cs.length : Nat) : Int) > 31 := h3'
      try simp only [↓reduceIte, ↓LL, LM, Value.cells, Nat.reduceAdd, Option.some.injEq, exists_eq_left', decide_true, decide_false, if_true, if_false, reduceCtorEq, cond_true, cond_false, c2, lv, h3', h3'']
      refine mm_map (kv := kI) fun w1 hM b1 => ?_
      try simp only [↓reduceIte, ↓LL, LM, Value.cells, Nat.reduceAdd, Option.some.injEq, exists_eq_left', decide_true, decide_false, if_true, if_false, reduceCtorEq, cond_true, cond_false, lv]
      refine ⟨_, may_loop (W := w) hq hu hcs (by omega) hL (Nat.le_refl _) cs.length (cs.length + 1) 0 w1 [] (by omega) (by omega) b1 hM (fun k => by simp [lk]) (by simp) kk⟩
end
end Go.Proofs.YtongpnolikkknaaGreatDoor

set_option maxRecDepth 20000
set_option maxHeartbeats 4000000
namespace Go.Proofs.YtongpnolikkknaaGreatDoor
open Sh RowKit Go.MapKept
def chG (cs : List Ch) (k : Nat) : Ch := cs.getD k (0, ⟨#[]⟩)
def imsD (L : List ByteArray) (cs : List Ch) (n : Nat) : List De := (List.range n).flatMap fun k => pageD (imG k) (L.getD (chG cs k).1.toNat ⟨#[]⟩)
def pgsD (cs : List Ch) (n : Nat) : List De := (List.range n).flatMap fun k => pageD (plG (chG cs k).1) (chG cs k).2
def stepsD (L : List ByteArray) (cs : List Ch) : List De :=
  [.wr 1 (dirW (cs.map (·.1))).1] ++ imsD L cs cs.length ++ [.sy] ++ markD true ++ pgsD cs cs.length ++ [.sy] ++ markD false
theorem imsD_succ (L : List ByteArray) (cs : List Ch) (n : Nat) : imsD L cs (n + 1) = imsD L cs n ++ pageD (imG n) (L.getD (chG cs n).1.toNat ⟨#[]⟩) := by
  unfold imsD; rw [List.range_succ, List.flatMap_append]; simp
theorem pgsD_succ (cs : List Ch) (n : Nat) : pgsD cs (n + 1) = pgsD cs n ++ pageD (plG (chG cs n).1) (chG cs n).2 := by
  unfold pgsD; rw [List.range_succ, List.flatMap_append]; simp
theorem imsD_len (L : List ByteArray) (cs : List Ch) : ∀ n, (imsD L cs n).length ≤ 4 * n
  | 0 => by simp [imsD]
  | n + 1 => by
    rw [imsD_succ, List.length_append]
    have := imsD_len L cs n
    have := pageD_len (imG n) (L.getD (chG cs n).1.toNat ⟨#[]⟩)
    omega
theorem pgsD_len (cs : List Ch) : ∀ n, (pgsD cs n).length ≤ 4 * n
  | 0 => by simp [pgsD]
  | n + 1 => by
    rw [pgsD_succ, List.length_append]
    have := pgsD_len cs n
    have := pageD_len (plG (chG cs n).1) (chG cs n).2
    omega
theorem stepsD_len (L : List ByteArray) (cs : List Ch) : (stepsD L cs).length ≤ 8 * cs.length + 7 := by
  have h1 := imsD_len L cs cs.length
  have h2 := pgsD_len cs cs.length
  unfold stepsD
  simp only [List.length_append, List.length_cons, List.length_nil, markD]
  omega
theorem slI : slT Tryz.prog 22 3 (.int .i64 0) 1 8 := sl29
section
variable {e : TypeId} {B C Bp : Nat} {W w w' : World} {p q b : Nat} {v u lv : Value} {D : Dv} {Q : Value → World → Prop}
theorem DsAt_ty {ds : List De} (h : DsAt B C w q p u ds) : ∀ g, u.ownBlock = some g → B ≤ g ∧ g < w.heap.size ∧ ∃ cur, w.heap[g]? = some (.cells cur 165 (0, 0)) := by
  obtain ⟨xs, h1, h2⟩ := h
  exact fun g hg => ownV_lt h1 g hg
/-- deeds behind deeds: with the functions told -/
theorem ap_dx {B2 : Nat} {v u : Value} {xs ys : List Value} {K : Value → M} (h1 : ownV B 165 w v xs) (k1 : ownV B2 165 w u ys) (hone : ∀ y ∈ ys, y.oneCell' = true) (hl : xs.length + ys.length ≤ 100000) (hB : B ≤ w.heap.size)
    (kk : ∀ w' v', Below B w w' → ownV B 165 w' v' (xs ++ ys) → (∀ C zs fs, dRs C w q p zs fs → dRs C w' q p zs fs) → ChgS (fun k => v.ownBlock = some k) w w' → (∀ g, v'.ownBlock = some g → v.ownBlock = some g ∨ w.heap.size ≤ g) → K v' w' Q) :
    sm Tryz.prog (Builtin.append_ #[138, 138] 138 #[v, u]) K w Q := by
  obtain ⟨i, g1, g2, g3, g4, g5⟩ := slT_info slD
  rcases ownV_cases k1 with ⟨rfl, rfl⟩ | ⟨g, cap, cur, rfl, hg, hbk, hn, hm, hs, ht⟩
  · refine ⟨v, w, run_append_owned_none w B 138 138 165 i 1 g1 g2 v xs.length xs h1, kk w v ⟨rfl, rfl, rfl, Nat.le_refl _, fun _ _ => rfl⟩ ?_ (fun _ _ _ h => h) (ChgS.refl _ w) (fun g hg => .inl hg)⟩
    rw [List.append_nil]
    exact h1
  · obtain ⟨v', w', hrun, ho', hg', _, hf⟩ := run_append_own_at (P := Tryz.prog) w B 138 138 165 i _ 1 8 g1 g2 g3 g4 g5 rfl (by decide) v xs.length xs h1 ⟨g, 0, none⟩ ys.length cap ys (by simp) (by
        intro j u hj
        rw [add_lit, Nat.zero_add, cell_of_blk hbk]
        have hlt : j < ys.length := by
          rcases Nat.lt_or_ge j ys.length with c | c
          · exact c
          · rw [List.getElem?_eq_none c] at hj; cases hj
        have e3 : (cur.toList.take ys.length)[j]? = ys[j]? := by rw [ht]
        rw [List.getElem?_take_of_lt hlt, hj] at e3
        simpa using e3) hone (by unfold maxLen; omega) (by omega) hB
    have hc : ChgS (fun k => v.ownBlock = some k) w w' := ChgS.grown hg' fun k hk => hk
    refine ⟨v', w', hrun, kk w' v' (hc.below (fun k hk => (ownV_lt h1 k hk).1) hB) ?_ (fun C zs fs hz => dRs_imp hz fun y d' hy => dR_chg hy hc fun g cur e _ hg he hn => ?_) hc (fun g hg => ?_)⟩
    · unfold ownV; rw [List.length_append]; exact ho'
    · obtain ⟨_, _, cur', hc'⟩ := ownV_lt h1 g hn
      rw [hc'] at hg
      cases hg
      rcases he with he | he | he <;> revert he <;> decide
    · rcases hf with hf | hf
      · left; rw [← hf]; exact hg
      · right; rw [hf] at hg; cases hg; omega
/-- no deed's number lies in that row -/
def NoB (v5 : Value) (xs : List Value) : Prop := ∀ f a b c, Value.func f #[] #[pv a, pv b, pv c] ∈ xs → v5.ownBlock ≠ some b
theorem NoB_app {v5 : Value} {xs ys : List Value} (h1 : NoB v5 xs) (h2 : NoB v5 ys) : NoB v5 (xs ++ ys) := fun f a b c h => (List.mem_append.1 h).elim (h1 f a b c) (h2 f a b c)
theorem dR_B {x : Value} {d : De} (h : dR C w q p x d) : ∀ f a b c, x = .func f #[] #[pv a, pv b, pv c] → C ≤ b ∧ b < w.heap.size := by
  intro f a b c e
  cases d with
  | wr i s =>
    obtain ⟨a', b', c', rfl, r1, r2, r3, m1, m2, m3⟩ := h
    injection e with _ _ e3
    injection e3 with e4
    injection e4 with _ e5
    injection e5 with e6 _
    injection e6 with e7
    injection e7 with e8
    injection e8 with e9
    subst e9
    exact ⟨r2, blk_lt m2⟩
  | sy =>
    obtain rfl : x = _ := h
    injection e with _ e2 _
    cases e2
theorem dRs_B : ∀ {xs : List Value} {ds : List De}, dRs C w q p xs ds → ∀ f a b c, Value.func f #[] #[pv a, pv b, pv c] ∈ xs → C ≤ b ∧ b < w.heap.size
  | [], [], _, f, a, b, c, hm => by simp at hm
  | x :: xs, d :: ds, h, f, a, b, c, hm => by
    rcases List.mem_cons.1 hm with rfl | hm
    · exact dR_B h.1 f a b c rfl
    · exact dRs_B h.2 f a b c hm
theorem own_ints {l : List Int} (h : ownV C 3 w v (l.map (.int .i64))) : ownI C 3 .i64 w v l := by
  unfold ownV at h
  unfold ownI
  rw [List.length_map] at h
  exact h
theorem steps_loop {L : List ByteArray} {cs : List Ch} {st c : Value} {j1 : Value → Value → Value → Value → M} (hq : W.heap[q]? = some (.cells #[pv p, u, st, c] 133 (0, 0))) (hu : ownV Bp 9 W u (L.map .string)) (hcs : rdS 2 (eR encC) W lv cs) (hl : cs.length ≤ 31) (hbd : ∀ x ∈ cs, 0 ≤ x.1 ∧ x.1 < (L.length : Int)) (hL : L.length ≤ 1000) :
    ∀ (d m i : Nat) (w : World) (v5 v6 v7 : Value) (xs6 xs7 : List Value), i + d = cs.length → d < m → Below W.heap.size W w → ownV W.heap.size 3 w v5 (((cs.take i).map (·.1)).map (.int .i64)) →
    ownV W.heap.size 165 w v6 xs6 → dRs W.heap.size w q p xs6 (imsD L cs i) → NoB v5 xs6 → ownV W.heap.size 165 w v7 xs7 → dRs W.heap.size w q p xs7 (pgsD cs i) → NoB v5 xs7 → (∀ g, v6.ownBlock = some g → v7.ownBlock ≠ some g) →
    (∀ w' v5 v6 v7, Below W.heap.size W w' → ownI W.heap.size 3 .i64 w' v5 (cs.map (·.1)) → DsAt W.heap.size W.heap.size w' q p v6 (imsD L cs cs.length) → DsAt W.heap.size W.heap.size w' q p v7 (pgsD cs cs.length) → (∀ g, v6.ownBlock = some g → v7.ownBlock ≠ some g) → j1 (pv q) v5 v6 v7 w' Q) →
    itr (fun _ _ _ _ _ _ _ => bot) (f91_b2 j1) m (pv q) v5 v6 v7 lv (.int .i64 ((cs.length : Nat) : Int)) (.int .i64 ((i : Nat) : Int)) w Q := by
  intro d
  induction d with
  | zero =>
    intro m i w v5 v6 v7 xs6 xs7 hi hm hb h5 h6 d6 n6 h7 d7 n7 hne kk
    obtain ⟨m, rfl⟩ : ∃ x, m = x + 1 := ⟨m - 1, by omega⟩
    show f91_b2 j1 _ _ _ _ _ _ _ _ w Q
    unfold f91_b2
    have cc : ¬ (i : Int) < (cs.length : Nat) := by omega
    try simp only [↓reduceIte, ↓LL, LM, Value.cells, Nat.reduceAdd, Option.some.injEq, exists_eq_left', decide_true, decide_false, if_true, if_false, reduceCtorEq, cond_true, cond_false, cc]
    have : i = cs.length := by omega
    subst this
    rw [List.take_length] at h5
    exact kk w v5 v6 v7 hb (own_ints h5) ⟨xs6, h6, d6⟩ ⟨xs7, h7, d7⟩ hne
  | succ d ih =>
    intro m i w v5 v6 v7 xs6 xs7 hi hm hb h5 h6 d6 n6 h7 d7 n7 hne kk
    obtain ⟨m, rfl⟩ : ∃ x, m = x + 1 := ⟨m - 1, by omega⟩
    show f91_b2 j1 _ _ _ _ _ _ _ _ w Q
    unfold f91_b2
    have cc : (i : Int) < (cs.length : Nat) := by omega
    have hil : i < cs.length := by omega
    have h3 : IntKind.i64.wrap ((i : Int) + 1) = ((i + 1 : Nat) : Int) := by rw [w64 (by omega) (by omega)]; rfl
    obtain ⟨ad, es, he1, he2, he3, hia⟩ := rdS_at (rdS_below eR_st hb hcs) hil
    have hts : cs.take (i + 1) = cs.take i ++ [cs[i]] := List.take_succ_eq_append_getElem hil
    have hmem := List.getElem_mem hil
    have hch : chG cs i = cs[i] := by unfold chG; rw [List.getD_eq_getElem?_getD, List.getElem?_eq_getElem hil]; rfl
    have e6 := imsD_succ L cs i
    have e7 := pgsD_succ cs i
    have l6 := imsD_len L cs i
    have l7 := pgsD_len cs i
    have x6 := dRs_len d6
    have x7 := dRs_len d7
    rw [hch] at e6 e7
    try simp only [↓reduceIte, ↓LL, LM, Value.cells, Nat.reduceAdd, Option.some.injEq, exists_eq_left', decide_true, decide_false, if_true, if_false, reduceCtorEq, cond_true, cond_false, cc, hia]
    refine ldn_at he2 he1 ?_
    have he3 : es = encC cs[i] := he3
    rw [he3]
    generalize cs[i] = x at *
    obtain ⟨n, s⟩ := x
    obtain ⟨n0, n1'⟩ := hbd _ hmem
    have n0 : 0 ≤ n := n0
    have n1' : n < (L.length : Int) := n1'
    obtain ⟨n, rfl⟩ := Int.eq_ofNat_of_zero_le n0
    have b1 := b_psh w (.cells #[.int .i64 0] 3)
    have k1 := blk_psh_new (w := w) (o := .cells #[.int .i64 0] 3)
    have z1 : (psh w (.cells #[.int .i64 0] 3)).heap.size = w.heap.size + 1 := size_psh
    try simp only [↓reduceIte, ↓LL, LM, Value.cells, Nat.reduceAdd, Option.some.injEq, exists_eq_left', decide_true, decide_false, if_true, if_false, reduceCtorEq, cond_true, cond_false]
    generalize psh w (.cells #[.int .i64 0] 3) = w1 at *
    have b2 := b_psh w1 (.cells #[.int .i64 0, .string ⟨#[]⟩] 48)
    have k2 := blk_psh_new (w := w1) (o := .cells #[.int .i64 0, .string ⟨#[]⟩] 48)
    have k1 := stay b2 k1
    have z2 : (psh w1 (.cells #[.int .i64 0, .string ⟨#[]⟩] 48)).heap.size = w1.heap.size + 1 := size_psh
    generalize psh w1 (.cells #[.int .i64 0, .string ⟨#[]⟩] 48) = w2 at *
    refine st_box (o := 0) (v := .int .i64 ((i : Nat) : Int)) k1 (by decide) rfl fun w3 k1 u3 => ?_
    have k2 := Upd_keep u3 k2 (by omega)
    refine stn_box k2 (by simp) (by simp [encC]) (by intro x hx; exact encC_one (((n : Nat) : Int), s) x (by simpa using hx)) fun w4 k2 u4 => ?_
    have k1 : w4.heap[w.heap.size]? = some (.cells #[.int .i64 ((i : Nat) : Int)] 3 (0, 0)) := Upd_keep u4 k1 (by omega)
    have k2 : w4.heap[w1.heap.size]? = some (.cells #[.int .i64 ((n : Nat) : Int), .string s] 48 (0, 0)) := k2
    have b4 : Below w.heap.size w w4 := ((bt b1 b2).trans (u3.below (Nat.le_refl _))).trans (u4.below (by omega))
    have hb4 := bt hb b4
    have c0 : w4.cell? ⟨w1.heap.size, 0, none⟩ = some (.int .i64 ((n : Nat) : Int)) := by rw [cell_of_blk k2]; rfl
    try simp only [↓reduceIte, ↓LL, LM, Value.cells, Nat.reduceAdd, Option.some.injEq, exists_eq_left', decide_true, decide_false, if_true, if_false, reduceCtorEq, cond_true, cond_false, c0]
    have h5w := ownV_below h5 b4
    have h5T := ownV_lt h5w
    have lt5 : ∀ g, v5.ownBlock = some g → g < w.heap.size := fun g hg => (ownV_lt h5 g hg).2.1
    have len5 : (((cs.take i).map (·.1)).map (Value.int .i64)).length ≤ 31 := by rw [List.length_map, List.length_map, List.length_take]; omega
    refine ap_V slI rfl rfl rfl h5w (by unfold maxLen; omega) (by omega) hb4.size fun v5' w5 o5 hf5 sz5 os5 fr5 => ?_
    have hc5 : ChgS (fun k => v5.ownBlock = some k) w4 w5 := ⟨os5.1, os5.2.1, os5.2.2, sz5, fun k hk hn => hf5 k hk hn⟩
    have no5 : ∀ g cur e', w4.heap[g]? = some (.cells cur e' (0, 0)) → e' ≠ 3 → ¬ v5.ownBlock = some g := fun g cur e' hg he hn => by
      obtain ⟨_, _, cur', hcur⟩ := h5T g hn
      rw [hg] at hcur; cases hcur; exact he rfl
    have o5 : ownV W.heap.size 3 w5 v5' (((cs.take (i + 1)).map (·.1)).map (.int .i64)) := by rw [hts, List.map_append, List.map_append]; exact o5
    have hb5 : Below W.heap.size W w5 := hb4.trans (hc5.below (fun k hk => (h5T k hk).1) hb4.size)
    have s4 : w.heap.size ≤ w4.heap.size := b4.size
    have k1 := hc5.keep k1 (fun hn => by have := lt5 _ hn; omega)
    have k2 := hc5.keep k2 (no5 _ _ _ k2 (by decide))
    have hq5 := stay hb5 hq
    have hu5 := ownV_below hu hb5
    have keepO : ∀ {v8 : Value} {xs : List Value}, ownV W.heap.size 165 w v8 xs → ownV W.heap.size 165 w5 v8 xs := fun h => by
      have h := ownV_below h b4
      refine ownV_chg h hc5 fun g hg hn => ?_
      obtain ⟨_, _, cur, hcur⟩ := ownV_lt h g hg
      exact no5 g cur _ hcur (by decide) hn
    have keepD : ∀ {xs : List Value} {ds : List De}, dRs W.heap.size w q p xs ds → NoB v5 xs → dRs W.heap.size w5 q p xs ds := by
      intro xs
      induction xs with
      | nil => intro ds h _; cases ds with
        | nil => trivial
        | cons d ds => exact h.elim
      | cons x xs ihx =>
        intro ds h hn
        cases ds with
        | nil => exact h.elim
        | cons d ds =>
          refine ⟨?_, ihx h.2 fun f a b c hm => hn f a b c (List.mem_cons_of_mem _ hm)⟩
          have hx := h.1
          cases d with
          | wr i' s' =>
            obtain ⟨a, b', c', rfl, r1, r2, r3, m1, m2, m3⟩ := hx
            have m1 := stay b4 m1
            have m2 := stay b4 m2
            have m3 := stay b4 m3
            exact ⟨a, b', c', rfl, r1, r2, r3, hc5.keep m1 (no5 _ _ _ m1 (by decide)), hc5.keep m2 (hn _ a b' c' List.mem_cons_self), hc5.keep m3 (no5 _ _ _ m3 (by decide))⟩
          | sy => exact hx
    have newB : ∀ {xs : List Value} {ds : List De}, dRs W.heap.size w q p xs ds → NoB v5 xs → NoB v5' xs := fun {xs ds} h hn f a b c hm hv => by
      rcases fr5 b hv with h' | h'
      · exact hn f a b c hm h'
      · have := (dRs_B h f a b c hm).2; omega
    have n6 := newB d6 n6
    have n7 := newB d7 n7
    have h6T : ∀ g, v6.ownBlock = some g → g < w.heap.size := fun g hg => (ownV_lt h6 g hg).2.1
    have h7T : ∀ g, v7.ownBlock = some g → g < w.heap.size := fun g hg => (ownV_lt h7 g hg).2.1
    have h6 := keepO h6
    have h7 := keepO h7
    have d6 := keepD d6 ‹NoB v5 xs6›
    have d7 := keepD d7 ‹NoB v5 xs7›
    have lt5' : ∀ g, v5'.ownBlock = some g → g < w5.heap.size := fun g hg => (ownV_lt o5 g hg).2.1
    have cq1 : w5.cell? ⟨q, 1, none⟩ = some u := by rw [cell_of_blk hq5]; rfl
    have c0 : w5.cell? ⟨w1.heap.size, 0, none⟩ = some (.int .i64 ((n : Nat) : Int)) := by rw [cell_of_blk k2]; rfl
    have hnL : n < L.length := by omega
    obtain ⟨gu, hiau, hcu, _⟩ := cell_V hu5 (i := n) (by rw [List.length_map]; exact hnL)
    rw [List.getElem_map] at hcu
    have eLn : L.getD ((n : Nat) : Int).toNat ⟨#[]⟩ = L[n] := by rw [Int.toNat_natCast, List.getD_eq_getElem?_getD, List.getElem?_eq_getElem hnL]; rfl
    have e6 : imsD L cs (i + 1) = imsD L cs i ++ pageD (imG i) (L.getD ((n : Nat) : Int).toNat ⟨#[]⟩) := e6
    rw [eLn] at e6
    have e7 : pgsD cs (i + 1) = pgsD cs i ++ pageD (plG ((n : Nat) : Int)) s := e7
    try simp only [↓reduceIte, ↓LL, LM, Value.cells, Nat.reduceAdd, Option.some.injEq, exists_eq_left', decide_true, decide_false, if_true, if_false, reduceCtorEq, cond_true, cond_false, cq1, c0, hiau, hcu]
    refine f112_s (p := p) (plc_S1 (show (drw w5).heap[w.heap.size]? = _ from k1) (by omega)) fun w6 va ba da => ?_
    have ba := of_drw' ba
    have da : DsAt w5.heap.size w5.heap.size w6 q p va _ := da
    obtain ⟨ys, oa, dya⟩ := da
    have pl := pageD_len (imG i) L[n]
    have xa := dRs_len dya
    have sW5 : W.heap.size ≤ w5.heap.size := hb5.size
    try simp only [↓reduceIte, ↓LL, LM, Value.cells, Nat.reduceAdd, Option.some.injEq, exists_eq_left', decide_true, decide_false, if_true, if_false, reduceCtorEq, cond_true, cond_false]
    refine ap_dx (p := p) (q := q) (ownV_below h6 ba) oa (dRs_one dya) (by omega) (Nat.le_trans sW5 ba.size) fun w7 v6' b7 o7 kD hc7 fr7 => ?_
    have hb6 := bt hb5 ba
    have hb7 : Below W.heap.size W w7 := hb6.trans b7
    have d6' : dRs W.heap.size w7 q p (xs6 ++ ys) (imsD L cs (i + 1)) := by
      rw [e6]
      exact dRs_app (kD _ _ _ (dRs_below d6 ba)) (kD _ _ _ (dRs_imp dya fun x d hx => dR_weak hx sW5))
    have n6' : NoB v5' (xs6 ++ ys) := NoB_app n6 fun f a b c hm hv => by
      have := (dRs_B dya f a b c hm).1
      have := lt5' b hv
      omega
    have no6 : ∀ g cur e', w6.heap[g]? = some (.cells cur e' (0, 0)) → e' ≠ 165 → ¬ v6.ownBlock = some g := fun g cur e' hg he hn => by
      obtain ⟨_, _, cur', hcur⟩ := ownV_lt (ownV_below h6 ba) g hn
      rw [hg] at hcur; cases hcur; exact he rfl
    have k2 := hc7.keep (stay ba k2) (no6 _ _ _ (stay ba k2) (by decide))
    have c1 : w7.cell? ⟨w1.heap.size, 1, none⟩ = some (.string s) := by rw [cell_of_blk k2]; rfl
    have o5' := ownV_chg (ownV_below o5 ba) hc7 fun g hg hn => by
      obtain ⟨_, _, cur, hcur⟩ := ownV_lt (ownV_below o5 ba) g hg
      exact no6 g cur _ hcur (by decide) hn
    have h7' := ownV_chg (ownV_below h7 ba) hc7 fun g hg hn => hne g hn hg
    have d7' := kD _ _ _ (dRs_below d7 ba)
    try simp only [↓reduceIte, ↓LL, LM, Value.cells, Nat.reduceAdd, Option.some.injEq, exists_eq_left', decide_true, decide_false, if_true, if_false, reduceCtorEq, cond_true, cond_false, c1]
    refine f112_s (p := p) (plc_S2 k2 (by omega) (by omega)) fun w8 vb bb db => ?_
    obtain ⟨zs, ob, dyb⟩ := db
    have pl2 := pageD_len (plG ((n : Nat) : Int)) s
    have xb := dRs_len dyb
    have sW7 : W.heap.size ≤ w7.heap.size := hb7.size
    try simp only [↓reduceIte, ↓LL, LM, Value.cells, Nat.reduceAdd, Option.some.injEq, exists_eq_left', decide_true, decide_false, if_true, if_false, reduceCtorEq, cond_true, cond_false]
    refine ap_dx (p := p) (q := q) (ownV_below h7' bb) ob (dRs_one dyb) (by omega) (Nat.le_trans sW7 bb.size) fun w9 v7' b9 o9 kD9 hc9 fr9 => ?_
    have hb9 : Below W.heap.size W w9 := (bt hb7 bb).trans b9
    try simp only [↓reduceIte, ↓LL, LM, Value.cells, Nat.reduceAdd, Option.some.injEq, exists_eq_left', decide_true, decide_false, if_true, if_false, reduceCtorEq, cond_true, cond_false, h3]
    have s56 : w5.heap.size ≤ w6.heap.size := ba.size
    have s67 : w6.heap.size ≤ w7.heap.size := hc7.size
    have s78 : w7.heap.size ≤ w8.heap.size := bb.size
    have no7 : ∀ g cur e', w8.heap[g]? = some (.cells cur e' (0, 0)) → e' ≠ 165 → ¬ v7.ownBlock = some g := fun g cur e' hg he hn => by
      obtain ⟨_, _, cur', hcur⟩ := ownV_lt (ownV_below h7' bb) g hn
      rw [hg] at hcur; cases hcur; exact he rfl
    refine ih m (i + 1) w9 v5' v6' v7' (xs6 ++ ys) (xs7 ++ zs) (by omega) (by omega) hb9 ?_ ?_ (kD9 _ _ _ (dRs_below d6' bb)) n6' o9 ?_ ?_ ?_ kk
    · exact ownV_chg (ownV_below o5' bb) hc9 fun g hg hn => by
        obtain ⟨_, _, cur, hcur⟩ := ownV_lt (ownV_below o5' bb) g hg
        exact no7 g cur _ hcur (by decide) hn
    · exact ownV_chg (ownV_below o7 bb) hc9 fun g hg hn => by
        rcases fr7 g hg with h' | h'
        · exact hne g h' hn
        · have := h7T g hn; omega
    · rw [e7]
      exact dRs_app (kD9 _ _ _ (dRs_below d7' bb)) (kD9 _ _ _ (dRs_imp dyb fun x d hx => dR_weak hx sW7))
    · exact NoB_app n7 fun f a b c hm hv => by
        have := (dRs_B dyb f a b c hm).1
        have := lt5' b hv
        omega
    · intro g hg hn
      have l6' : g < w7.heap.size := (ownV_lt o7 g hg).2.1
      rcases fr9 g hn with h' | h'
      · rcases fr7 g hg with h'' | h''
        · exact hne g h'' h'
        · have := h7T g h'; omega
      · omega
end
end Go.Proofs.YtongpnolikkknaaGreatDoor

set_option maxRecDepth 20000
set_option maxHeartbeats 4000000
namespace Go.Proofs.YtongpnolikkknaaGreatDoor
open Sh RowKit Go.MapKept
section
variable {e : TypeId} {B C Bp : Nat} {W w w' : World} {p q b : Nat} {v u lv : Value} {D : Dv} {Q : Value → World → Prop}
/-- deeds behind a change of another row -/
theorem DsAt_row {ds : List De} {u v2 : Value} (h : DsAt B C w q p u ds) (hc : ChgS (fun k => v2.ownBlock = some k) w w') (ht : ∀ g, v2.ownBlock = some g → ∃ cur, w.heap[g]? = some (.cells cur 165 (0, 0))) (hne : ∀ g, u.ownBlock = some g → v2.ownBlock ≠ some g) : DsAt B C w' q p u ds := by
  obtain ⟨xs, h1, h2⟩ := h
  refine ⟨xs, ownV_chg h1 hc fun g hg => hne g hg, dRs_imp h2 fun x d hx => dR_chg hx hc fun g cur e _ hg he hn => ?_⟩
  obtain ⟨cur', hcur⟩ := ht g hn
  rw [hg] at hcur
  cases hcur
  rcases he with he | he | he <;> revert he <;> decide
/-- a row of one deed -/
theorem lit1_s {x : Value} {d : De} {K : Value → M} (hx : dR C w q p x d) (kk : ∀ w' v', Below w.heap.size w w' → DsAt w.heap.size C w' q p v' [d] → (∀ g, v'.ownBlock = some g → g = w.heap.size) → K v' w' Q) :
    sm Tryz.prog (Instr.buildSlice 138 1 #[(0, x)]) K w Q := by
  obtain ⟨o1, o2⟩ := dR_one hx
  refine bsl1 slD rfl o2 ?_
  have b1 := b_psh w (.cells #[x] 165)
  refine kk _ _ b1 ⟨[x], ownV_mk (xs := [x]) (Nat.le_refl _) blk_psh_new (Nat.le_refl 1) (by unfold maxLen; decide) rfl rfl, dR_chg hx (ChgS.of_below b1 (S := fun _ => False)) (fun _ _ _ _ _ _ h => h), trivial⟩ (fun g hg => by cases hg; rfl)
theorem steps_j3 {st c v5 : Value} {ds : List De} (hq : W.heap[q]? = some (.cells #[pv p, u, st, c] 133 (0, 0))) (hb : Below W.heap.size W w) (h : DsAt W.heap.size W.heap.size w q p v5 ds) (hl : ds.length ≤ 1000)
    (kk : ∀ w' v', Below W.heap.size W w' → DsAt W.heap.size W.heap.size w' q p v' (ds ++ markD false) → Q v' w') : f91_j3 (pv q) v5 w Q := by
  unfold f91_j3
  have hq1 := stay hb hq
  try simp only [↓reduceIte, ↓LL, LM, Value.cells, Nat.reduceAdd, Option.some.injEq, exists_eq_left', decide_true, decide_false, if_true, if_false, reduceCtorEq, cond_true, cond_false]
  refine f115_s (p := p) (by rw [cell_of_blk hq1]; rfl) fun w2 v2 b2 d2 => ?_
  have hb2 := bt hb b2
  try simp only [↓reduceIte, ↓LL, LM, Value.cells, Nat.reduceAdd, Option.some.injEq, exists_eq_left', decide_true, decide_false, if_true, if_false, reduceCtorEq, cond_true, cond_false]
  refine ap_ds (h.below b2) (d2.weak (Nat.le_refl _) hb.size) (by simp [markD]; omega) hb2.size fun w3 v3 b3 d3 _ _ => ?_
  try simp only [↓reduceIte, ↓LL, LM, Value.cells, Nat.reduceAdd, Option.some.injEq, exists_eq_left', decide_true, decide_false, if_true, if_false, reduceCtorEq, cond_true, cond_false]
  exact kk w3 v3 (hb2.trans b3) d3
theorem f91_s {L : List ByteArray} {cs : List Ch} {st c : Value} (hq : w.heap[q]? = some (.cells #[pv p, u, st, c] 133 (0, 0))) (hu : ownV Bp 9 w u (L.map .string)) (hcs : rdS 2 (eR encC) w lv cs) (hl : cs.length ≤ 31) (hbd : ∀ x ∈ cs, 0 ≤ x.1 ∧ x.1 < (L.length : Int)) (hL : L.length ≤ 1000)
    (kk : ∀ w' v', Below w.heap.size w w' → DsAt w.heap.size w.heap.size w' q p v' (stepsD L cs) → Q v' w') : f91 (pv q) lv w Q := by
  unfold f91
  have ll := lnl_S hcs
  have lI := imsD_len L cs cs.length
  have lP := pgsD_len cs cs.length
  try simp only [↓reduceIte, ↓LL, LM, Value.cells, Nat.reduceAdd, Option.some.injEq, exists_eq_left', decide_true, decide_false, if_true, if_false, reduceCtorEq, cond_true, cond_false, ll]
  refine ⟨_, steps_loop (W := w) (q := q) (p := p) hq hu hcs hl hbd hL cs.length (cs.length + 1) 0 w _ _ _ [] [] (by omega) (by omega) (Below.refl _ _) ownV_nil ownV_nil trivial (fun f a b c h => by simp at h) ownV_nil trivial (fun f a b c h => by simp at h) (fun g hg => by cases hg) fun w1 v5 v6 v7 b1 o5 d6 d7 hne => ?_⟩
  unfold f91_j1
  have hmem : ∀ x ∈ cs.map (·.1), x ≤ 9223372036854775807 := fun x hx => by
    obtain ⟨y, hy, rfl⟩ := List.mem_map.1 hx
    have := hbd y hy; omega
  try simp only [↓reduceIte, ↓LL, LM, Value.cells, Nat.reduceAdd, Option.some.injEq, exists_eq_left', decide_true, decide_false, if_true, if_false, reduceCtorEq, cond_true, cond_false]
  refine f118_s (ownI_rd o5) (by rw [List.length_map]; omega) hmem fun w2 b2 => ?_
  have hb2 := bt b1 b2
  try simp only [↓reduceIte, ↓LL, LM, Value.cells, Nat.reduceAdd, Option.some.injEq, exists_eq_left', decide_true, decide_false, if_true, if_false, reduceCtorEq, cond_true, cond_false, get0, get1]
  refine f119_s (p := p) fun w3 x b3 hx => ?_
  have hb3 := bt hb2 b3
  have hx := dR_weak hx hb2.size
  try simp only [↓reduceIte, ↓LL, LM, Value.cells, Nat.reduceAdd, Option.some.injEq, exists_eq_left', decide_true, decide_false, if_true, if_false, reduceCtorEq, cond_true, cond_false]
  refine lit1_s hx fun w4 v4 b4 d4 fr4 => ?_
  have hb4 := bt hb3 b4
  have d4 := d4.weak hb3.size (Nat.le_refl _)
  have b24 := bt b2 (bt b3 b4)
  have d6 := d6.below b24
  have d7 := d7.below b24
  have lt7 : ∀ g, v7.ownBlock = some g → g < w3.heap.size := fun g hg => by
    have := (DsAt_lt (ds := pgsD cs cs.length) ‹DsAt w.heap.size w.heap.size w1 q p v7 _› g hg).2
    have := (bt b2 b3).size
    omega
  have ne4 : ∀ g, v7.ownBlock = some g → v4.ownBlock ≠ some g := fun g hg h => by have := lt7 g hg; have := fr4 g h; omega
  try simp only [↓reduceIte, ↓LL, LM, Value.cells, Nat.reduceAdd, Option.some.injEq, exists_eq_left', decide_true, decide_false, if_true, if_false, reduceCtorEq, cond_true, cond_false]
  refine ap_ds d4 d6 (by simp only [List.length_cons, List.length_nil]; omega) hb4.size fun w5 v5' b5 d5 hc5 fr5 => ?_
  have hb5 := hb4.trans b5
  have d7 := DsAt_row d7 hc5 (fun g hg => (DsAt_ty d4 g hg).2.2) ne4
  have ne5 : ∀ g, v7.ownBlock = some g → v5'.ownBlock ≠ some g := fun g hg h => by
    rcases fr5 g h with h' | h'
    · exact ne4 g hg h'
    · have := lt7 g hg; have := b4.size; omega
  have hq5 := stay hb5 hq
  have cq0 : w5.cell? ⟨q, 0, none⟩ = some (pv p) := by rw [cell_of_blk hq5]; rfl
  try simp only [↓reduceIte, ↓LL, LM, Value.cells, Nat.reduceAdd, Option.some.injEq, exists_eq_left', decide_true, decide_false, if_true, if_false, reduceCtorEq, cond_true, cond_false, cq0]
  refine ap_d d5 (show dR w.heap.size w5 q p _ .sy from rfl) (by simp only [List.length_append, List.length_cons, List.length_nil]; omega) hb5.size fun w6 v6' b6 d6' hc6 fr6 => ?_
  have hb6 := hb5.trans b6
  have d7 := DsAt_row d7 hc6 (fun g hg => (DsAt_ty d5 g hg).2.2) ne5
  have ne6 : ∀ g, v7.ownBlock = some g → v6'.ownBlock ≠ some g := fun g hg h => by
    rcases fr6 g h with h' | h'
    · exact ne5 g hg h'
    · have := lt7 g hg; have := b4.size; have := hc5.size; omega
  have hq6 := stay hb6 hq
  try simp only [↓reduceIte, ↓LL, LM, Value.cells, Nat.reduceAdd, Option.some.injEq, exists_eq_left', decide_true, decide_false, if_true, if_false, reduceCtorEq, cond_true, cond_false]
  refine f115_s (p := p) (by rw [cell_of_blk hq6]; rfl) fun w7 v7m b7 dm => ?_
  have hb7 := bt hb6 b7
  have d7 := d7.below b7
  try simp only [↓reduceIte, ↓LL, LM, Value.cells, Nat.reduceAdd, Option.some.injEq, exists_eq_left', decide_true, decide_false, if_true, if_false, reduceCtorEq, cond_true, cond_false]
  refine ap_ds (d6'.below b7) (dm.weak (Nat.le_refl _) hb6.size) (by simp only [List.length_append, List.length_cons, List.length_nil, markD]; omega) hb7.size fun w8 v8 b8 d8 hc8 fr8 => ?_
  have hb8 := hb7.trans b8
  have d7 := DsAt_row d7 hc8 (fun g hg => (DsAt_ty (d6'.below b7) g hg).2.2) ne6
  have hq8 := stay hb8 hq
  have cq8 : w8.cell? ⟨q, 0, none⟩ = some (pv p) := by rw [cell_of_blk hq8]; rfl
  have ne8 : ∀ g, v7.ownBlock = some g → v8.ownBlock ≠ some g := fun g hg h => by
    rcases fr8 g h with h' | h'
    · exact ne6 g hg h'
    · have := lt7 g hg; have := b4.size; have := hc5.size; have := hc6.size; have := b7.size; omega
  have eS : stepsD L cs = [De.wr 1 (dirW (cs.map (fun x : Ch => x.1))).1] ++ imsD L cs cs.length ++ [De.sy] ++ markD true ++ pgsD cs cs.length ++ [.sy] ++ markD false := rfl
  rw [eS] at kk
  have lA : ([De.wr 1 (dirW (cs.map (fun x : Ch => x.1))).1] ++ imsD L cs cs.length ++ [De.sy] ++ markD true).length ≤ 300 := by simp only [List.length_append, List.length_cons, List.length_nil, markD]; omega
  generalize [De.wr 1 (dirW (cs.map (fun x : Ch => x.1))).1] ++ imsD L cs cs.length ++ [De.sy] ++ markD true = dA at *
  try simp only [↓reduceIte, ↓LL, LM, Value.cells, Nat.reduceAdd, Option.some.injEq, exists_eq_left', decide_true, decide_false, if_true, if_false, reduceCtorEq, cond_true, cond_false, cq8]
  have fin : ∀ w9 v9, Below w.heap.size w w9 → DsAt w.heap.size w.heap.size w9 q p v9 (dA ++ pgsD cs cs.length ++ [.sy]) → f91_j3 (pv q) v9 w9 Q := fun w9 v9 hb9 h9 =>
    steps_j3 hq hb9 h9 (by simp only [List.length_append, List.length_cons, List.length_nil]; omega) kk
  have d8d : DsAt w.heap.size w.heap.size (drw w8) q p v8 dA := d8.below ⟨rfl, rfl, rfl, Nat.le_refl _, fun _ _ => rfl⟩
  have d7d : DsAt w.heap.size w.heap.size (drw w8) q p v7 (pgsD cs cs.length) := d7.below ⟨rfl, rfl, rfl, Nat.le_refl _, fun _ _ => rfl⟩
  refine ⟨?_, ?_⟩
  · refine ap_ds d8d d7d (by omega) (show _ ≤ (drw w8).heap.size from hb8.size) fun w9 v9 b9 d9 hc9 _ => ?_
    have hb8' : Below w.heap.size w (drw w8) := ⟨hb8.os, hb8.tape, hb8.output, hb8.size, hb8.block⟩
    have hb9 := hb8'.trans b9
    have hq9 := stay hb9 hq
    have cq9 : w9.cell? ⟨q, 0, none⟩ = some (pv p) := by rw [cell_of_blk hq9]; rfl
    refine ⟨by rw [Kld_e]; exact cq9, ?_⟩
    refine ap_d d9 (show dR w.heap.size w9 q p _ .sy from rfl) (by simp only [List.length_append]; omega) hb9.size fun w10 v10 b10 d10 _ _ => ?_
    try simp only [↓reduceIte, ↓LL, LM, Value.cells, Nat.reduceAdd, Option.some.injEq, exists_eq_left', decide_true, decide_false, if_true, if_false, reduceCtorEq, cond_true, cond_false]
    exact fin w10 v10 (hb9.trans b10) d10
  · have hb8' : Below w.heap.size w (drw w8) := ⟨hb8.os, hb8.tape, hb8.output, hb8.size, hb8.block⟩
    refine lit1_s (show dR w.heap.size (drw w8) q p _ .sy from rfl) fun w9 v9 b9 d9 fr9 => ?_
    have hb9 := bt hb8' b9
    have d9 := d9.weak hb8.size (Nat.le_refl _)
    refine ap_ds (d8d.below b9) (d7d.below b9) (by omega) hb9.size fun w10 v10 b10 d10 hc10 _ => ?_
    have hb10 := hb9.trans b10
    have hq10 := stay hb10 hq
    have cq10 : w10.cell? ⟨q, 0, none⟩ = some (pv p) := by rw [cell_of_blk hq10]; rfl
    have d9 := DsAt_row d9 hc10 (fun g hg => (DsAt_ty (d8d.below b9) g hg).2.2) fun g hg h => by
      have := fr9 g hg
      have := (DsAt_lt d8d g h).2
      omega
    refine ⟨by rw [Kld_e]; exact cq10, ?_⟩
    refine ap_ds d10 d9 (by simp only [List.length_append, List.length_cons, List.length_nil]; omega) hb10.size fun w11 v11 b11 d11 _ _ => ?_
    try simp only [↓reduceIte, ↓LL, LM, Value.cells, Nat.reduceAdd, Option.some.injEq, exists_eq_left', decide_true, decide_false, if_true, if_false, reduceCtorEq, cond_true, cond_false]
    exact fin w11 v11 (hb10.trans b11) d11
end
end Go.Proofs.YtongpnolikkknaaGreatDoor

set_option maxRecDepth 20000
set_option maxHeartbeats 4000000
namespace Go.Proofs.YtongpnolikkknaaGreatDoor
open Sh RowKit Go.MapKept
structure Pg where
  L : List ByteArray
  st : Bool
  c : Int
def setL (L : List ByteArray) (cs : List Ch) : List ByteArray := cs.foldl (fun L c => L.set c.1.toNat c.2) L
theorem setL_len (cs : List Ch) : ∀ L : List ByteArray, (setL L cs).length = L.length := by
  induction cs with
  | nil => intro L; rfl
  | cons c cs ih => intro L; show (setL (L.set c.1.toNat c.2) cs).length = _; rw [ih, List.length_set]
theorem setL_snoc (L : List ByteArray) (cs : List Ch) (c : Ch) : setL L (cs ++ [c]) = (setL L cs).set c.1.toNat c.2 := by
  unfold setL; rw [List.foldl_append]; rfl
/-- a commit: the error, the device and the pager behind it -/
def commitB (G : Pg) (D : Dv) (cs : List Ch) : Int × Dv × Pg :=
  if mayB G.st G.L.length cs ≠ 0 ∨ cs = [] then (mayB G.st G.L.length cs, D, G)
  else if (runs (stepsD G.L cs) D).1 ≠ 0 then ((runs (stepsD G.L cs) D).1, (runs (stepsD G.L cs) D).2, { G with st := true })
  else (0, (runs (stepsD G.L cs) D).2, ⟨setL G.L cs, G.st, G.c + 1⟩)
theorem mayB_ok {st : Bool} {N : Nat} {cs : List Ch} (h : mayB st N cs = 0) : st = false ∧ cs.length ≤ 31 ∧ (∀ x ∈ cs, 0 ≤ x.1 ∧ x.1 < (N : Int)) ∧ (cs.map (·.1)).Nodup ∧ ∀ c ∈ cs, c.2.size = 256 := by
  unfold mayB at h
  split at h
  · cases h
  · rename_i h1
    split at h
    · cases h
    · rename_i h2
      split at h
      · cases h
      · rename_i h3
        split at h
        · cases h
        · rename_i h4
          unfold oddL at h4
          have h4 := Classical.not_not.1 (fun h => h4 (decide_eq_true h))
          refine ⟨by simpa using h1, by omega, fun x hx => ?_, h4.1, h4.2⟩
          have h5 : ¬ (x.1 < 0 ∨ (N : Int) ≤ x.1) := fun h => h3 ⟨x, hx, h⟩
          omega
section
variable {e : TypeId} {B C Bp Bc : Nat} {W w w' : World} {p q b : Nat} {v u lv : Value} {D : Dv} {Q : Value → World → Prop}
theorem ownE_chg {α : Type} {enc : α → List Value} {n : Nat} {l : List α} {S : Nat → Prop} (h : ownE C e n enc w u l) (hc : ChgS S w w') (hS : ∀ g, u.ownBlock = some g → ¬ S g) : ownE C e n enc w' u l :=
  ownE_stay h fun g hg => by
    obtain ⟨_, hl, cur, hcur⟩ := ownE_blk h g hg
    rw [hcur]; exact hc.keep hcur (hS g hg)
theorem commit_loop {L : List ByteArray} {cs : List Ch} {st c : Value} {j1 : Value → M} (hq : W.heap[q]? = some (.cells #[pv p, u, st, c] 133 (0, 0))) (hu : ownV Bp 9 W u (L.map .string)) (hcs : ownE Bc 48 2 encC W lv cs) (hl : cs.length ≤ 31) (hbd : ∀ x ∈ cs, 0 ≤ x.1 ∧ x.1 < (L.length : Int)) :
    ∀ (d m i : Nat) (w : World), i + d = cs.length → d < m → ChgS (fun k => u.ownBlock = some k) W w → ownV Bp 9 w u ((setL L (cs.take i)).map .string) →
    (∀ w', ChgS (fun k => u.ownBlock = some k) W w' → ownV Bp 9 w' u ((setL L cs).map .string) → j1 (pv q) w' Q) →
    itr (fun _ _ _ _ => bot) (f44_b2 j1) m (pv q) lv (.int .i64 ((cs.length : Nat) : Int)) (.int .i64 ((i : Nat) : Int)) w Q := by
  have uT : ∀ g, u.ownBlock = some g → g < W.heap.size ∧ ∃ cur, W.heap[g]? = some (.cells cur 9 (0, 0)) := fun g hg => ⟨(ownV_lt hu g hg).2.1, (ownV_lt hu g hg).2.2⟩
  have no : ∀ g cur e', W.heap[g]? = some (.cells cur e' (0, 0)) → e' ≠ 9 → ¬ u.ownBlock = some g := fun g cur e' hg he hn => by
    obtain ⟨_, cur', hcur⟩ := uT g hn
    rw [hg] at hcur; cases hcur; exact he rfl
  intro d
  induction d with
  | zero =>
    intro m i w hi hm hc ho kk
    obtain ⟨m, rfl⟩ : ∃ x, m = x + 1 := ⟨m - 1, by omega⟩
    show f44_b2 j1 _ _ _ _ _ w Q
    unfold f44_b2
    have cc : ¬ (i : Int) < (cs.length : Nat) := by omega
    try simp only [↓reduceIte, ↓LL, LM, Value.cells, Nat.reduceAdd, Option.some.injEq, exists_eq_left', decide_true, decide_false, if_true, if_false, reduceCtorEq, cond_true, cond_false, cc]
    rw [List.take_of_length_le (by omega)] at ho
    exact kk w hc ho
  | succ d ih =>
    intro m i w hi hm hc ho kk
    obtain ⟨m, rfl⟩ : ∃ x, m = x + 1 := ⟨m - 1, by omega⟩
    show f44_b2 j1 _ _ _ _ _ w Q
    unfold f44_b2
    have cc : (i : Int) < (cs.length : Nat) := by omega
    have hil : i < cs.length := by omega
    have h3 : IntKind.i64.wrap ((i : Int) + 1) = ((i + 1 : Nat) : Int) := by rw [w64 (by omega) (by omega)]; rfl
    have hcsw : ownE Bc 48 2 encC w lv cs := ownE_chg hcs hc fun g hg hn => by
      obtain ⟨_, _, cur, hcur⟩ := ownE_blk hcs g hg
      exact no g cur _ hcur (by decide) hn
    obtain ⟨ad, es, he1, he2, he3, hia⟩ := rdS_at (ownE_rd encC_len (by decide) hcsw) hil
    have hts : cs.take (i + 1) = cs.take i ++ [cs[i]] := List.take_succ_eq_append_getElem hil
    have hmem := List.getElem_mem hil
    try simp only [↓reduceIte, ↓LL, LM, Value.cells, Nat.reduceAdd, Option.some.injEq, exists_eq_left', decide_true, decide_false, if_true, if_false, reduceCtorEq, cond_true, cond_false, cc, hia]
    refine ldn_at he2 he1 ?_
    have he3 : es = encC cs[i] := he3
    rw [he3]
    generalize cs[i] = x at *
    obtain ⟨n, s⟩ := x
    obtain ⟨n0, n1'⟩ := hbd _ hmem
    have n0 : 0 ≤ n := n0
    have n1' : n < (L.length : Int) := n1'
    obtain ⟨n, rfl⟩ := Int.eq_ofNat_of_zero_le n0
    have b1 := b_psh w (.cells #[.int .i64 0, .string ⟨#[]⟩] 48)
    have k1 := blk_psh_new (w := w) (o := .cells #[.int .i64 0, .string ⟨#[]⟩] 48)
    try simp only [↓reduceIte, ↓LL, LM, Value.cells, Nat.reduceAdd, Option.some.injEq, exists_eq_left', decide_true, decide_false, if_true, if_false, reduceCtorEq, cond_true, cond_false]
    refine stn_box k1 (by simp) (by simp [encC]) (by intro x hx; exact encC_one (((n : Nat) : Int), s) x (by simpa using hx)) fun w2 k2 u2 => ?_
    have b2 : Below w.heap.size w w2 := b1.trans (u2.below (Nat.le_refl _))
    have hc2 : ChgS (fun k => u.ownBlock = some k) W w2 := hc.trans (ChgS.of_below b2) fun _ _ h => h
    have c0 : w2.cell? ⟨w.heap.size, 0, none⟩ = some (.int .i64 ((n : Nat) : Int)) := by rw [cell_of_blk k2]; rfl
    have c1 : w2.cell? ⟨w.heap.size, 1, none⟩ = some (.string s) := by rw [cell_of_blk k2]; rfl
    have hq2 := hc2.keep hq (no q _ _ hq (by decide))
    have cq : w2.cell? ⟨q, 1, none⟩ = some u := by rw [cell_of_blk hq2]; rfl
    have ho2 := ownV_below ho b2
    try simp only [↓reduceIte, ↓LL, LM, Value.cells, Nat.reduceAdd, Option.some.injEq, exists_eq_left', decide_true, decide_false, if_true, if_false, reduceCtorEq, cond_true, cond_false, c0, c1, cq]
    refine ia_stV (w := drw w2) (show ownV Bp 9 (drw w2) u _ from ho2) (i := n) (by rw [List.length_map, setL_len]; omega) rfl fun w3 g3 hg3 o3 up3 => ?_
    have es3 : ((setL L (cs.take i)).map Value.string).set n (.string s) = (setL L (cs.take (i + 1))).map .string := by rw [hts, setL_snoc, List.map_set]; rfl
    rw [es3] at o3
    try simp only [↓reduceIte, ↓LL, LM, Value.cells, Nat.reduceAdd, Option.some.injEq, exists_eq_left', decide_true, decide_false, if_true, if_false, reduceCtorEq, cond_true, cond_false, h3]
    exact ih m (i + 1) w3 (by omega) (by omega) (hc2.drw.trans (ChgS.of_upd up3 hg3) fun _ _ h => h) o3 kk
theorem f44_s {G : Pg} {cs : List Ch} (hd : DevAt B w p v b D) (hq : w.heap[q]? = some (.cells #[pv p, u, .bool G.st, .int .i64 G.c] 133 (0, 0))) (hu : ownV Bp 9 w u (G.L.map .string)) (hcs : ownE Bc 48 2 encC w lv cs)
    (h0 : 0 ≤ D.c) (h1 : D.c + 300 ≤ 1000000) (hG0 : 0 ≤ G.c) (hG1 : G.c ≤ 1000000) (hL : G.L.length ≤ 1000)
    (kk : ∀ w', DevAt B w' p v b (commitB G D cs).2.1 → w'.heap[q]? = some (.cells #[pv p, u, .bool (commitB G D cs).2.2.st, .int .i64 (commitB G D cs).2.2.c] 133 (0, 0)) → ownV Bp 9 w' u ((commitB G D cs).2.2.L.map .string) →
      ChgS (fun k => k = q ∨ u.ownBlock = some k ∨ fpD p v b k) w w' → Q (.int .i64 (commitB G D cs).1) w') : f44 (pv q) lv w Q := by
  unfold f44
  rw [pn_eq pt49]
  have hrd := ownE_rd encC_len (by decide) hcs
  have ll := lnl_S hrd
  have uq : ¬ u.ownBlock = some q := fun hn => by
    obtain ⟨_, _, cur, hcur⟩ := ownV_lt hu q hn
    rw [hcur] at hq; cases hq
  try simp only [↓reduceIte, ↓LL, LM, Value.cells, Nat.reduceAdd, Option.some.injEq, exists_eq_left', decide_true, decide_false, if_true, if_false, reduceCtorEq, cond_true, cond_false, Option.isNone]
  refine f89_s hq hu hrd (by omega) fun w1 b1 => ?_
  by_cases cm : mayB G.st G.L.length cs ≠ 0 ∨ cs = []
  · have e : commitB G D cs = (mayB G.st G.L.length cs, D, G) := by unfold commitB; rw [if_pos cm]
    rw [e] at kk
    have fin := kk w1 (hd.below b1) (stay b1 hq) (ownV_below hu b1) (ChgS.of_below b1)
    by_cases c1 : mayB G.st G.L.length cs = 0
    · have c2 : cs = [] := cm.resolve_left fun h => h c1
      have c3 : ((cs.length : Nat) : Int) = 0 := by rw [c2]; rfl
      try simp only [↓reduceIte, ↓LL, LM, Value.cells, Nat.reduceAdd, Option.some.injEq, exists_eq_left', decide_true, decide_false, if_true, if_false, reduceCtorEq, cond_true, cond_false, ne_eq, c1, ll, c3]
      rw [c1] at fin
      exact fin
    · try simp only [↓reduceIte, ↓LL, LM, Value.cells, Nat.reduceAdd, Option.some.injEq, exists_eq_left', decide_true, decide_false, if_true, if_false, reduceCtorEq, cond_true, cond_false, ne_eq, c1, ll]
      exact fin
  · have c1 : mayB G.st G.L.length cs = 0 := Classical.not_not.1 fun h => cm (.inl h)
    have c2 : cs ≠ [] := fun h => cm (.inr h)
    have c3 : ¬ ((cs.length : Nat) : Int) = 0 := by
      intro h
      exact c2 (List.length_eq_zero_iff.1 (by omega))
    obtain ⟨e1, e2, e3, e4, e5⟩ := mayB_ok c1
    have hq1 := stay b1 hq
    have hu1 := ownV_below hu b1
    have hcs1 := ownE_below hcs b1
    have hd1 := hd.below b1
    have lS := stepsD_len G.L cs
    try simp only [↓reduceIte, ↓LL, LM, Value.cells, Nat.reduceAdd, Option.some.injEq, exists_eq_left', decide_true, decide_false, if_true, if_false, reduceCtorEq, cond_true, cond_false, ne_eq, c1, ll, c3]
    refine f91_s (p := p) hq1 hu1 (ownE_rd encC_len (by decide) hcs1) e2 e3 hL fun w2 v2 b2 d2 => ?_
    have b02 := bt b1 b2
    have hq2 := stay b02 hq
    have hd2 := hd.below b02
    try simp only [↓reduceIte, ↓LL, LM, Value.cells, Nat.reduceAdd, Option.some.injEq, exists_eq_left', decide_true, decide_false, if_true, if_false, reduceCtorEq, cond_true, cond_false]
    refine f90_s (B2 := 0) hd2 hq2 rfl d2 (by omega) h0 (by omega) fun w3 d3 hc3 => ?_
    have hc03 : ChgS (fpD p v b) w w3 := (ChgS.of_below b02).trans hc3 fun _ _ h => h
    have hq3 := pg_dev hd2 hq2 hc3
    have hu3 := own_dev hd2 (ownV_below hu b02) (by decide) (by decide) hc3
    by_cases cz : (runs (stepsD G.L cs) D).1 = 0
    · have e : commitB G D cs = (0, (runs (stepsD G.L cs) D).2, ⟨setL G.L cs, G.st, G.c + 1⟩) := by unfold commitB; rw [if_neg cm, if_neg (fun h => h cz)]
      rw [e] at kk
      have hcs3 : ownE Bc 48 2 encC w3 lv cs := ownE_chg (ownE_below hcs b02) hc3 fun g hg => by
        obtain ⟨_, _, cur, hcur⟩ := ownE_blk (ownE_below hcs b02) g hg
        exact dev_ne hd2 hcur (by decide) (by decide)
      have ll3 := lnl_S hrd
      try simp only [↓reduceIte, ↓LL, LM, Value.cells, Nat.reduceAdd, Option.some.injEq, exists_eq_left', decide_true, decide_false, if_true, if_false, reduceCtorEq, cond_true, cond_false, ne_eq, cz, ll]
      refine ⟨_, commit_loop (W := w3) hq3 hu3 hcs3 e2 e3 cs.length (cs.length + 1) 0 w3 (by omega) (by omega) (ChgS.refl _ _) hu3 fun w4 hc4 hu4 => ?_⟩
      have hq4 := hc4.keep hq3 uq
      have c3 : w4.cell? ⟨q, 3, none⟩ = some (.int .i64 G.c) := by rw [cell_of_blk hq4]; rfl
      have ew : IntKind.i64.wrap (G.c + 1) = G.c + 1 := w64 (by omega) (by omega)
      have hd4 := d3.chgV hu3 (by decide) (by decide) hc4
      unfold f44_j1
      try simp only [↓reduceIte, ↓LL, LM, Value.cells, Nat.reduceAdd, Option.some.injEq, exists_eq_left', decide_true, decide_false, if_true, if_false, reduceCtorEq, cond_true, cond_false, c3, ew]
      refine st_box (o := 3) (v := .int .i64 (G.c + 1)) hq4 (show 3 < 4 by decide) rfl fun w5 hq5 u5 => ?_
      try simp only [↓reduceIte, ↓LL, LM, Value.cells, Nat.reduceAdd, Option.some.injEq, exists_eq_left', decide_true, decide_false, if_true, if_false, reduceCtorEq, cond_true, cond_false]
      refine kk w5 (hd4.chg (ChgS.of_upd u5 rfl (S := fun k => k = q)) fun k hk e => dev_ne hd4 hq4 (by decide) (by decide) (e ▸ hk)) hq5 ?_ ?_
      · exact ownV_stay hu4 fun g hg => u5.block g fun e => by rw [e] at hg; exact uq hg
      · refine (hc03.mono (T := fun k => k = q ∨ u.ownBlock = some k ∨ fpD p v b k) fun k h => .inr (.inr h)).trans (T := fun k => k = q ∨ u.ownBlock = some k ∨ fpD p v b k) ?_ fun _ _ h => h
        exact (hc4.mono fun k h => .inr (.inl h)).trans (ChgS.of_upd u5 (S := fun k => k = q ∨ u.ownBlock = some k ∨ fpD p v b k) (.inl rfl)) fun _ _ h => h
    · have e : commitB G D cs = ((runs (stepsD G.L cs) D).1, (runs (stepsD G.L cs) D).2, { G with st := true }) := by unfold commitB; rw [if_neg cm, if_pos cz]
      rw [e] at kk
      try simp only [↓reduceIte, ↓LL, LM, Value.cells, Nat.reduceAdd, Option.some.injEq, exists_eq_left', decide_true, decide_false, if_true, if_false, reduceCtorEq, cond_true, cond_false, ne_eq, cz]
      refine st_box (o := 2) (v := .bool true) hq3 (show 2 < 4 by decide) rfl fun w5 hq5 u5 => ?_
      try simp only [↓reduceIte, ↓LL, LM, Value.cells, Nat.reduceAdd, Option.some.injEq, exists_eq_left', decide_true, decide_false, if_true, if_false, reduceCtorEq, cond_true, cond_false]
      refine kk w5 (d3.chg (ChgS.of_upd u5 rfl (S := fun k => k = q)) fun k hk e => dev_ne d3 hq3 (by decide) (by decide) (e ▸ hk)) hq5 ?_ ?_
      · exact ownV_stay hu3 fun g hg => u5.block g fun e => by rw [e] at hg; exact uq hg
      · exact (hc03.mono fun k h => .inr (.inr h)).trans (ChgS.of_upd u5 (S := fun k => k = q ∨ u.ownBlock = some k ∨ fpD p v b k) (.inl rfl)) fun _ _ h => h
end
end Go.Proofs.YtongpnolikkknaaGreatDoor

set_option maxRecDepth 20000
namespace Go.Proofs.YtongpnolikkknaaGreatDoor
open Sh RowKit Go.MapKept
def De.ex : De → List Sec → List Sec
  | .wr i s, A => match A[i.toNat]? with
    | some x => A.set i.toNat ⟨x.s, some (pad s)⟩
    | none => A
  | .sy, A => A.map fun x => ⟨x.now, none⟩
def exs (ds : List De) (A : List Sec) : List Sec := ds.foldl (fun A d => d.ex A) A
/-- deeds that write, none of them to sector i -/
def Off (i : Nat) (ds : List De) : Prop := ∀ d ∈ ds, ∃ (a : Nat) (s : ByteArray), d = .wr (a : Int) s ∧ i ≠ a
theorem Off.take {i : Nat} {ds : List De} (h : Off i ds) (k : Nat) : Off i (ds.take k) := fun d hd => h d (List.mem_of_mem_take hd)
/-- a crash: what is sure stays; a mark says what one of both says -/
def Cr (A A' : List Sec) : Prop := A'.length = A.length ∧ ∀ (i : Nat) (x : Sec), A[i]? = some x → ∃ z, A'[i]? = some ⟨z, none⟩ ∧ (x.u = none → z = x.s) ∧ (mkd z.1 = mkd x.s.1 ∨ mkd z.1 = mkd x.now.1)
theorem Cr.sure {A A' : List Sec} (h : Cr A A') {i : Nat} {z : Sct} (hz : A[i]? = some ⟨z, none⟩) : A'[i]? = some ⟨z, none⟩ := by
  obtain ⟨y, h1, h2, _⟩ := h.2 i _ hz
  have e : y = z := h2 rfl
  rw [h1, e]
theorem Cr.all {A A' : List Sec} (h : Cr A A') : ∀ x ∈ A', x.u = none := by
  intro x hx
  obtain ⟨i, hi, rfl⟩ := List.mem_iff_getElem.1 hx
  have hi2 : i < A.length := by rw [← h.1]; exact hi
  obtain ⟨z, h1, _⟩ := h.2 i A[i] (List.getElem?_eq_getElem hi2)
  rw [List.getElem?_eq_getElem hi] at h1
  rw [Option.some.inj h1]
end Go.Proofs.YtongpnolikkknaaGreatDoor

set_option maxRecDepth 20000
namespace Go.Proofs.YtongpnolikkknaaGreatDoor
open Sh RowKit Go.MapKept
theorem pad_64 {s : ByteArray} (h : s.size = 64) : (pad s).1 = s := by
  show strOfNums (padL s) = s
  unfold padL
  rw [h, List.take_of_length_le (by rw [byL_len]; omega)]
  show strOfNums (byL s ++ []) = s
  rw [List.append_nil, son_byL]
theorem pad_chunk {s : ByteArray} {j : Nat} (h : s.size = 256) (hj : j < 4) : (pad (chunk s j)).1 = chunk s j := pad_64 (chunk_size h hj)
def PgS (A : List Sec) (L : List ByteArray) : Prop := ∀ (n : Nat) (s : ByteArray), L[n]? = some s → ∀ j, j < 4 → A[126 + 4 * n + j]? = some ⟨pad (chunk s j), none⟩
def Ing (A : List Sec) (L : List ByteArray) (l : List Int) : Prop := ∃ d : Sct, A[1]? = some ⟨d, none⟩ ∧ dirB d.1 = true ∧ lst d.1 = l ∧ (∀ n ∈ l, n < (L.length : Int)) ∧
  (∀ (k : Nat) (n : Int) (s : ByteArray), l[k]? = some n → L[n.toNat]? = some s → ∀ j, j < 4 → A[2 + 4 * k + j]? = some ⟨pad (chunk s j), none⟩) ∧
  (∀ (n : Nat) (s : ByteArray), ((n : Nat) : Int) ∉ l → L[n]? = some s → ∀ j, j < 4 → A[126 + 4 * n + j]? = some ⟨pad (chunk s j), none⟩)
def Mk (A : List Sec) (b : Bool) : Prop := ∃ z : Sct, A[0]? = some ⟨z, none⟩ ∧ mkd z.1 = b
structure Fit (A : List Sec) (L : List ByteArray) : Prop where
  len : 126 + 4 * L.length ≤ A.length
  sz : ∀ s ∈ L, s.size = 256
  n1 : 1 ≤ L.length
  n2 : L.length ≤ 160
def AllS (A : List Sec) : Prop := ∀ x ∈ A, x.u = none
theorem PgS.sub {A A' : List Sec} {L : List ByteArray} (h : PgS A L) (hs : ∀ i z, 126 ≤ i → A[i]? = some ⟨z, none⟩ → A'[i]? = some ⟨z, none⟩) : PgS A' L := fun n s hn j hj => hs _ _ (by omega) (h n s hn j hj)
theorem Ing.ok {A : List Sec} {L : List ByteArray} {l : List Int} (h : Ing A L l) : l.length ≤ 31 ∧ l.Nodup ∧ ∀ n ∈ l, 0 ≤ n ∧ n < (L.length : Int) := by
  obtain ⟨d, _, hd, rfl, hl, _⟩ := h
  obtain ⟨_, h2, h3, h4⟩ := dirB_lst hd
  exact ⟨h2, h3, fun n hn => ⟨(h4 n hn).1, hl n hn⟩⟩
theorem Ing.sub {A A' : List Sec} {L : List ByteArray} {l : List Int} (h : Ing A L l) (hs : ∀ i z, i ≠ 0 → (∀ n ∈ l, ∀ j, j < 4 → i ≠ 126 + 4 * n.toNat + j) → A[i]? = some ⟨z, none⟩ → A'[i]? = some ⟨z, none⟩) : Ing A' L l := by
  obtain ⟨h31, hnd, hbd⟩ := h.ok
  obtain ⟨d, h1, hd, hl, hb, him, hpg⟩ := h
  refine ⟨d, hs _ _ (by omega) (fun n _ j _ => by omega) h1, hd, hl, hb, fun k n s hk hn j hj => hs _ _ (by omega) (fun n' _ j' _ => ?_) (him k n s hk hn j hj), fun n s hn hs' j hj => hs _ _ (by omega) (fun n' hn' j' hj' e => ?_) (hpg n s hn hs' j hj)⟩
  · have := (List.getElem?_eq_some_iff.1 hk).1
    omega
  · have := hbd n' hn'
    have e2 : ((n : Nat) : Int) = n' := by omega
    exact hn (e2 ▸ hn')
theorem Mk.sub {A A' : List Sec} {b : Bool} (h : Mk A b) (hs : ∀ z, A[0]? = some ⟨z, none⟩ → A'[0]? = some ⟨z, none⟩) : Mk A' b := by
  obtain ⟨z, h1, h2⟩ := h
  exact ⟨z, hs z h1, h2⟩
/-- at each deed, not behind the last -/
def Pre (C : List Sec → Prop) (ds : List De) (A : List Sec) : Prop := ∀ k, k < ds.length → C (exs (ds.take k) A)
theorem Pre.mono {C C' : List Sec → Prop} {ds : List De} {A : List Sec} (h : Pre C ds A) (hc : ∀ A, C A → C' A) : Pre C' ds A := fun k hk => hc _ (h k hk)
/-- pages read -/
theorem rd_nat {D : Dv} {i : Nat} {y : Sec} (h : D.A[i]? = some y) : D.rd ((i : Nat) : Int) = y.now.1 := by
  unfold Dv.rd Dv.at
  rw [if_pos (by omega), Int.toNat_natCast, h]; rfl
theorem join_at {D : Dv} {b : Nat} {g : Nat → Int} {s : ByteArray} (hg : ∀ j, g j = ((b + j : Nat) : Int)) (hs : s.size = 256) (h : ∀ j, j < 4 → D.A[b + j]? = some ⟨pad (chunk s j), none⟩) : (joinB (rdL D g 4)).1 = s := by
  have e : rdL D g 4 = cutL s 4 := by
    unfold rdL cutL
    refine List.map_congr_left fun j hj => ?_
    have hj := List.mem_range.1 hj
    rw [hg j, rd_nat (h j hj)]
    exact pad_chunk hs hj
  rw [e, joinB_ok (by rw [cutL_len]) (fun x hx => by
    obtain ⟨j, hj, rfl⟩ := List.mem_map.1 hx
    exact chunk_size hs (List.mem_range.1 hj))]
  exact (cut_back hs).2
theorem plG_nat (n : Nat) (j : Nat) : plG ((n : Nat) : Int) j = ((126 + 4 * n + j : Nat) : Int) := by unfold plG; omega
theorem pgL_eq {D : Dv} {L : List ByteArray} (hz : ∀ s ∈ L, s.size = 256) (hp : PgS D.A L) : pgL D L.length = L := by
  apply List.ext_getElem?
  intro n
  unfold pgL
  rw [List.getElem?_map]
  by_cases c : n < L.length
  · rw [List.getElem?_range c, List.getElem?_eq_getElem c]
    have := hz L[n] (List.getElem_mem c)
    show some (pgP D n) = _
    unfold pgP
    rw [join_at (plG_nat n) this (hp n _ (List.getElem?_eq_getElem c))]
  · rw [List.getElem?_eq_none (by rw [List.length_range]; omega), List.getElem?_eq_none (by omega)]; rfl
theorem openB_un {D : Dv} {L : List ByteArray} (h : Fit D.A L) : openB D (L.length : Nat) = if mkd (D.rd 0) = true then recB D (pgL D L.length) else (0, D, pgL D L.length) := by
  have := h.len
  have := h.n1
  have := h.n2
  unfold openB
  rw [if_neg (by omega), Int.toNat_natCast]
theorem mk_rd {D : Dv} {b : Bool} (h : Mk D.A b) : mkd (D.rd 0) = b := by
  obtain ⟨z, h1, h2⟩ := h
  rw [show (0 : Int) = ((0 : Nat) : Int) from rfl, rd_nat h1]
  exact h2
theorem open_no {D : Dv} {L : List ByteArray} (h : Fit D.A L) (hm : Mk D.A false) (hp : PgS D.A L) : openB D (L.length : Nat) = (0, D, L) := by
  rw [openB_un h, mk_rd hm, if_neg (by decide), pgL_eq h.sz hp]
theorem getD_some {L : List ByteArray} {n : Nat} (h : n < L.length) : L[n]? = some (L.getD n ⟨#[]⟩) := by rw [List.getD_eq_getElem?_getD, List.getElem?_eq_getElem h]; rfl
theorem nodup_map_inj {α β : Type} {f : α → β} {l : List α} (h : l.Nodup) (hf : ∀ a ∈ l, ∀ b ∈ l, f a = f b → a = b) : (l.map f).Nodup := by
  induction l with
  | nil => exact List.nodup_nil
  | cons a l ih =>
    obtain ⟨h1, h2⟩ := List.nodup_cons.1 h
    rw [List.map_cons, List.nodup_cons]
    refine ⟨fun hc => ?_, ih h2 fun a ha b hb => hf a (List.mem_cons_of_mem _ ha) b (List.mem_cons_of_mem _ hb)⟩
    obtain ⟨b, hb, e⟩ := List.mem_map.1 hc
    exact h1 (hf b (List.mem_cons_of_mem _ hb) a (List.mem_cons_self ..) e ▸ hb)
end Go.Proofs.YtongpnolikkknaaGreatDoor

set_option maxRecDepth 20000
namespace Go.Proofs.YtongpnolikkknaaGreatDoor
open Sh RowKit Go.MapKept
/-- a new device's pages -/
theorem new_mk (n : Nat) (h : 0 < n) : Mk (newD n).A false := ⟨pad ⟨#[]⟩, by unfold newD; rw [List.getElem?_replicate, if_pos h], by show mkd (markB false).1 = false; exact mkd_mark false⟩
theorem zs_chunk {j : Nat} (hj : j < 4) : chunk (zs 256) j = zs 64 := by
  apply byL_inj
  unfold chunk
  rw [byL_take, byL_zs, byL_zs]
  rcases (by omega : j = 0 ∨ j = 1 ∨ j = 2 ∨ j = 3) with rfl | rfl | rfl | rfl <;> decide
theorem pad_zs : pad (zs 64) = pad ⟨#[]⟩ := by
  apply Subtype.ext
  rw [pad_64 (zs_size 64)]
  apply byL_inj
  rw [byL_zs, byL_pad]
  rfl
theorem new_pgs (m n : Nat) (h : 126 + 4 * m ≤ n) : PgS (newD n).A (List.replicate m (zs 256)) := by
  intro k s hs j hj
  rw [List.getElem?_replicate] at hs
  split at hs
  · rename_i hk
    obtain rfl : zs 256 = s := Option.some.inj hs
    unfold newD
    rw [List.getElem?_replicate, if_pos (by omega), zs_chunk hj, pad_zs]
  · cases hs
theorem new_fit (m n : Nat) (h1 : 1 ≤ m) (h2 : m ≤ 160) (h : 126 + 4 * m ≤ n) : Fit (newD n).A (List.replicate m (zs 256)) :=
  ⟨by unfold newD; simp; exact h, fun s hs => by rw [List.eq_of_mem_replicate hs]; exact zs_size 256, by simpa using h1, by simpa using h2⟩
end Go.Proofs.YtongpnolikkknaaGreatDoor

set_option maxRecDepth 20000
set_option maxHeartbeats 4000000
namespace Go.Proofs.YtongpnolikkknaaGreatDoor
open Sh RowKit Go.MapKept
section
variable {B : Nat} {W w : World} {Q : Value → World → Prop}
end
end Go.Proofs.YtongpnolikkknaaGreatDoor

set_option maxRecDepth 20000
set_option maxHeartbeats 4000000
namespace Go.Proofs.YtongpnolikkknaaGreatDoor
open Sh RowKit Go.MapKept
theorem w8 {i : Int} : IntKind.u8.wrap i = i % 256 := by
  unfold IntKind.wrap
  simp [IntKind.signed, IntKind.bits]
section
variable {B : Nat} {W w : World} {Q : Value → World → Prop}
theorem rdI_b {k : IntKind} {v : Value} {l : List Int} {w' : World} (h : rdI k w v l) (hb : Below w.heap.size w w') : rdI k w' v l := rdI_below hb h
theorem rdI_lnl {k : IntKind} {v : Value} {l : List Int} (h : rdI k w v l) : ∀ (K : Value → M) (w1 : World) (Q : Value → World → Prop), lnl v K w1 Q = K (.int .i64 ((l.length : Nat) : Int)) w1 Q := by
  intro K w1 Q
  obtain ⟨p, c, rfl, _⟩ := h
  rw [lnl_e]
end
end Go.Proofs.YtongpnolikkknaaGreatDoor

namespace Go.Proofs.YtongpnolikkknaaGreatDoor
open Sh RowKit Go.MapKept
theorem ints_rdk {k : IntKind} {w : World} {v : Value} {l : List Int} (h : rdS 1 (iR k) w v l) : rdI k w v l ∧ ∀ x ∈ l, (Lit.int k x).wf = true := by
  rcases h with ⟨rfl, rfl⟩ | ⟨a, c, rfl, hc, h⟩
  · exact ⟨⟨none, 0, rfl, fun i hi => by simp at hi⟩, fun x hx => by simp at hx⟩
  · refine ⟨⟨_, c, rfl, fun i hi => ⟨a, rfl, ?_⟩⟩, fun x hx => ?_⟩
    · obtain ⟨es, _, h2, h3, _⟩ := h i hi
      subst h3
      have := h2 0 _ rfl
      rw [Nat.mul_one] at this
      exact this
    · obtain ⟨i, hi, rfl⟩ := List.mem_iff_getElem.1 hx
      obtain ⟨es, _, _, _, h4⟩ := h i hi
      exact h4
structure Bat where
  ps : List Int
  bs : List Int
  vp : Value
  vb : Value
end Go.Proofs.YtongpnolikkknaaGreatDoor

set_option maxRecDepth 20000
set_option maxHeartbeats 4000000
namespace Go.Proofs.YtongpnolikkknaaGreatDoor
open Sh RowKit Go.MapKept
/-- a device that is sure, its mark says no -/
structure Rdy (D : Dv) (L : List ByteArray) : Prop where
  fit : Fit D.A L
  mark : Mk D.A false
  pg : PgS D.A L
theorem open_rdy {D : Dv} {L : List ByteArray} (h : Rdy D L) : openB D (L.length : Nat) = (0, D, L) := open_no h.fit h.mark h.pg
theorem rdy_new {m N : Nat} (h1 : 1 ≤ m) (h2 : m ≤ 160) (h : 126 + 4 * m ≤ N) : Rdy (newD N) (List.replicate m (zs 256)) := ⟨new_fit m N h1 h2 h, new_mk N (by omega), new_pgs m N h⟩
theorem open_new {m N : Nat} (h1 : 1 ≤ m) (h2 : m ≤ 160) (h : 126 + 4 * m ≤ N) : openB (newD N) (m : Nat) = (0, newD N, List.replicate m (zs 256)) := by
  have := open_rdy (rdy_new h1 h2 h)
  rwa [List.length_replicate] at this
structure PgAt (B : Nat) (w : World) (q p b : Nat) (v u : Value) (G : Pg) (D : Dv) : Prop where
  dev : DevAt B w p v b D
  qB : B ≤ q
  hq : w.heap[q]? = some (.cells #[pv p, u, .bool G.st, .int .i64 G.c] 133 (0, 0))
  hu : ownV B 9 w u (G.L.map .string)
def fpP (q p b : Nat) (v u : Value) : Nat → Prop := fun k => k = q ∨ u.ownBlock = some k ∨ fpD p v b k
section
variable {B : Nat} {W w w' : World} {q p b : Nat} {v u : Value} {G : Pg} {D : Dv} {Q : Value → World → Prop}
theorem PgAt.below (h : PgAt B w q p b v u G D) (hb : Below w.heap.size w w') : PgAt B w' q p b v u G D := ⟨h.dev.below hb, h.qB, stay hb h.hq, ownV_below h.hu hb⟩
theorem PgAt.fpB (h : PgAt B w q p b v u G D) : ∀ k, fpP q p b v u k → B ≤ k := by
  rintro k (rfl | hk | hk)
  · exact h.qB
  · exact (ownV_lt h.hu k hk).1
  · exact fpD_B h.dev k hk
theorem PgAt.lt (h : PgAt B w q p b v u G D) : ∀ k, fpP q p b v u k → k < w.heap.size := by
  rintro k (rfl | hk | hk)
  · exact blk_lt h.hq
  · exact (ownV_lt h.hu k hk).2.1
  · exact h.dev.lt k hk
theorem PgAt.chg {S : Nat → Prop} (h : PgAt B w q p b v u G D) (hc : ChgS S w w') (hS : ∀ k, fpP q p b v u k → ¬ S k) : PgAt B w' q p b v u G D :=
  ⟨h.dev.chg hc fun k hk => hS k (.inr (.inr hk)), h.qB, hc.keep h.hq (hS q (.inl rfl)), ownV_chg h.hu hc fun g hg => hS g (.inr (.inl hg))⟩
theorem PgAt.bs {B0 : Nat} (h : PgAt B w q p b v u G D) (hc : ChgS (fpP q p b v u) w w') (h0 : B0 ≤ B) (hB : B0 ≤ w.heap.size) : Below B0 w w' := hc.below (fun k hk => Nat.le_trans h0 (h.fpB k hk)) hB
theorem commit_at {Bc : Nat} {lv : Value} {cs : List Ch} (h : PgAt B w q p b v u G D) (hcs : ownE Bc 48 2 encC w lv cs) (h0 : 0 ≤ D.c) (h1 : D.c + 300 ≤ 1000000) (hG0 : 0 ≤ G.c) (hG1 : G.c ≤ 1000000) (hL : G.L.length ≤ 1000)
    (kk : ∀ w', PgAt B w' q p b v u (commitB G D cs).2.2 (commitB G D cs).2.1 → ChgS (fpP q p b v u) w w' → Q (.int .i64 (commitB G D cs).1) w') : f44 (pv q) lv w Q :=
  f44_s h.dev h.hq h.hu hcs h0 h1 hG0 hG1 hL fun w' hd hq hu hc => kk w' ⟨hd, h.qB, hq, hu⟩ hc
/-- opened, without an error -/
theorem open_at {B0 : Nat} {n : Int} {D' : Dv} {L : List ByteArray} (hd : DevAt B w p v b D) (h0 : 0 ≤ D.c) (h1 : D.c + 200 ≤ 1000000) (hB0 : B0 ≤ B) (hBw : B0 ≤ w.heap.size) (e : openB D n = (0, D', L))
    (kk : ∀ w' q u, w.heap.size ≤ q → PgAt B0 w' q p b v u ⟨L, false, 0⟩ D' → DevAt B w' p v b D' → ownV w.heap.size 9 w' u (L.map .string) → ChgS (fpD p v b) w w' → Q (.tuple #[pv q, .int .i64 0]) w') : f40 (pv p) (.int .i64 n) w Q := by
  have e1 : (openB D n).1 = 0 := by rw [e]
  have e2 : (openB D n).2.1 = D' := by rw [e]
  have e3 : (openB D n).2.2 = L := by rw [e]
  refine f40_s hd h0 h1 (fun h => absurd e1 h) (fun _ w' q u hqw hq hu hd' hc => ?_)
  rw [e2] at hd'
  rw [e3] at hu
  refine kk w' q u hqw ⟨?_, Nat.le_trans hBw hqw, hq, ownV_weak hu hBw⟩ hd' hu hc
  obtain ⟨L', hm, hl⟩ := hd'.mp
  exact ⟨Nat.le_trans hB0 hd'.pB, Nat.le_trans hB0 hd'.bB, hd'.n, hd'.hp, ownE_weak hd'.own hB0, L', hm, hl⟩
end
end Go.Proofs.YtongpnolikkknaaGreatDoor

set_option maxRecDepth 20000
namespace Go.Proofs.YtongpnolikkknaaGreatDoor
open Sh RowKit Go.MapKept
structure Ca where
  sz : Nat
  K : List Ch
  h : Int
  m : Int
/-- one used -/
def useK (sz : Nat) (x : Ch) (K : List Ch) : List Ch := (x :: K).take sz
def rdC (C : Ca) (L : List ByteArray) (n : Int) : (ByteArray × Int) × Ca :=
  match C.K.find? (fun x => decide (x.1 = n)) with
  | some x => ((x.2, 0), { C with K := useK C.sz x (C.K.filter fun y => decide (y.1 ≠ n)), h := C.h + 1 })
  | none => if (pgR L n).2 = 0 then (((pgR L n).1, 0), { C with K := useK C.sz (n, (pgR L n).1) C.K, m := C.m + 1 }) else ((⟨#[]⟩, (pgR L n).2), C)
def nums (K : List Ch) : List Int := K.map (·.1)
theorem find_mem {K : List Ch} {n : Int} {x : Ch} (h : K.find? (fun x => decide (x.1 = n)) = some x) : x ∈ K ∧ x.1 = n := by
  have h1 := List.find?_some h
  exact ⟨List.mem_of_find?_eq_some h, by simpa using h1⟩
end Go.Proofs.YtongpnolikkknaaGreatDoor

set_option maxRecDepth 20000
namespace Go.Proofs.YtongpnolikkknaaGreatDoor
open Sh RowKit Go.MapKept
/-- a link; none: the head -/
abbrev Nd := Option Nat
def setP (f : Nd → Nd × Nd) (y v : Nd) : Nd → Nd × Nd := fun n => if n = y then (v, (f n).2) else f n
def setN (f : Nd → Nd × Nd) (y v : Nd) : Nd → Nd × Nd := fun n => if n = y then ((f n).1, v) else f n
/-- neighbours -/
def sg (a : Nd) : List Nd → List (Nd × Nd)
  | [] => []
  | b :: l => (a, b) :: sg b l
def lastD (a : Nd) : List Nd → Nd
  | [] => a
  | b :: l => lastD b l
def Ring (f : Nd → Nd × Nd) (l : List Nd) : Prop := ∀ p ∈ sg none (l ++ [none]), (f p.1).2 = p.2 ∧ (f p.2).1 = p.1
theorem sg_app : ∀ (l1 l2 : List Nd) (a : Nd), sg a (l1 ++ l2) = sg a l1 ++ sg (lastD a l1) l2
  | [], _, _ => rfl
  | b :: l1, l2, a => by
    show (a, b) :: sg b (l1 ++ l2) = (a, b) :: (sg b l1 ++ sg (lastD b l1) l2)
    rw [sg_app l1 l2 b]
theorem sg_snd : ∀ (l : List Nd) (a : Nd), (sg a l).map (·.2) = l
  | [], _ => rfl
  | b :: l, a => by
    show b :: (sg b l).map (·.2) = _
    rw [sg_snd l b]
theorem sg_fst : ∀ (l : List Nd) (a b : Nd), (sg a (l ++ [b])).map (·.1) = a :: l
  | [], _, _ => rfl
  | c :: l, a, b => by
    show a :: (sg c (l ++ [b])).map (·.1) = _
    rw [sg_fst l c b]
theorem lastD_mem : ∀ (l : List Nd) (a : Nd), lastD a l ∈ a :: l
  | [], a => List.mem_cons_self ..
  | b :: l, a => List.mem_cons_of_mem _ (lastD_mem l b)
theorem lastD_snoc : ∀ (l : List Nd) (a b : Nd), lastD a (l ++ [b]) = b
  | [], _, _ => rfl
  | c :: l, a, b => lastD_snoc l c b
theorem tail_split (l : List Nd) : ∃ n c, l ++ [none] = n :: c ∧ n ∈ none :: l := by
  cases l with
  | nil => exact ⟨none, [], rfl, List.mem_cons_self ..⟩
  | cons a l => exact ⟨a, l ++ [none], rfl, by simp⟩
section
variable {f : Nd → Nd × Nd} {l l1 l2 : List Nd} {x : Nd}
/-- a link's neighbours -/
theorem ring_at (h : Ring f (l1 ++ x :: l2)) : (f x).1 = lastD none l1 ∧ ∀ n c, l2 ++ [none] = n :: c → (f x).2 = n := by
  have e : ∀ n c, l2 ++ [none] = n :: c → sg none ((l1 ++ x :: l2) ++ [none]) = sg none l1 ++ (lastD none l1, x) :: (x, n) :: sg n c := by
    intro n c hc
    rw [List.append_assoc, List.cons_append, hc, sg_app]
    rfl
  refine ⟨?_, fun n c hc => ?_⟩
  · obtain ⟨n, c, hc, _⟩ := tail_split l2
    exact (h (lastD none l1, x) (by rw [e n c hc]; simp)).2
  · exact (h (x, n) (by rw [e n c hc]; simp)).1
theorem ring_head (h : Ring f l) : ∀ n c, l ++ [none] = n :: c → (f none).2 = n := by
  intro n c hc
  exact (h (none, n) (by rw [hc]; exact List.mem_cons_self ..)).1
theorem ring_last (h : Ring f l) : (f none).1 = lastD none l := by
  refine (h (lastD none l, none) ?_).2
  rw [sg_app]
  exact List.mem_append_right _ (List.mem_cons_self ..)
/-- one taken out -/
theorem ring_out (h : Ring f (l1 ++ x :: l2)) (hn : (none :: (l1 ++ x :: l2)).Nodup) :
    (f x).1 ∈ none :: (l1 ++ l2) ∧ (f x).2 ∈ none :: (l1 ++ l2) ∧ Ring (setP (setN f (f x).1 (f x).2) (f x).2 (f x).1) (l1 ++ l2) := by
  obtain ⟨n, c, hc, hm⟩ := tail_split l2
  obtain ⟨ep, en⟩ := ring_at h
  have en := en n c hc
  have e1 : sg none ((l1 ++ x :: l2) ++ [none]) = sg none l1 ++ (lastD none l1, x) :: (x, n) :: sg n c := by
    rw [List.append_assoc, List.cons_append, hc, sg_app]
    rfl
  have e2 : sg none ((l1 ++ l2) ++ [none]) = sg none l1 ++ (lastD none l1, n) :: sg n c := by
    rw [List.append_assoc, hc, sg_app]
    rfl
  have hF : ((sg none l1 ++ (lastD none l1, x) :: (x, n) :: sg n c).map (·.1)).Nodup := by rw [← e1, sg_fst]; exact hn
  have hS : ((sg none l1 ++ (lastD none l1, x) :: (x, n) :: sg n c).map (·.2)).Nodup := by
    rw [← e1, sg_snd]
    have hp : ((l1 ++ x :: l2) ++ [none]).Perm (none :: (l1 ++ x :: l2)) := List.perm_append_comm.trans (List.Perm.refl _)
    exact hp.nodup_iff.2 hn
  rw [ep, en]
  refine ⟨?_, ?_, ?_⟩
  · have := lastD_mem l1 none
    rcases List.mem_cons.1 this with h | h
    · rw [h]; exact List.mem_cons_self ..
    · exact List.mem_cons_of_mem _ (List.mem_append_left _ h)
  · rcases List.mem_cons.1 hm with h | h
    · rw [h]; exact List.mem_cons_self ..
    · exact List.mem_cons_of_mem _ (List.mem_append_right _ h)
  · generalize lastD none l1 = p at *
    rw [List.map_append, List.nodup_append] at hF hS
    have hh := h
    unfold Ring at h ⊢
    rw [e1] at h
    rw [e2]
    have keyF : ∀ a ∈ sg none l1 ++ sg n c, a.1 ≠ p := by
      intro a ha e
      rcases List.mem_append.1 ha with ha | ha
      · exact hF.2.2 a.1 (List.mem_map.2 ⟨a, ha, rfl⟩) p (by simp) e
      · have := hF.2.1
        simp only [List.map_cons, List.nodup_cons] at this
        exact this.1 (List.mem_cons_of_mem _ (List.mem_map.2 ⟨a, ha, e⟩))
    have keyS : ∀ a ∈ sg none l1 ++ sg n c, a.2 ≠ n := by
      intro a ha e
      rcases List.mem_append.1 ha with ha | ha
      · exact hS.2.2 a.2 (List.mem_map.2 ⟨a, ha, rfl⟩) n (by simp) e
      · have := hS.2.1
        simp only [List.map_cons, List.nodup_cons] at this
        exact this.2.1 (List.mem_map.2 ⟨a, ha, e⟩)
    have same : ∀ a ∈ sg none l1 ++ sg n c, ((setP (setN f p n) n p) a.1).2 = a.2 ∧ ((setP (setN f p n) n p) a.2).1 = a.1 := by
      intro a ha
      have hfa := h a (by
        rcases List.mem_append.1 ha with ha | ha
        · exact List.mem_append_left _ ha
        · exact List.mem_append_right _ (List.mem_cons_of_mem _ (List.mem_cons_of_mem _ ha)))
      have k1 := keyF a ha
      have k2 := keyS a ha
      constructor
      · have : ((setP (setN f p n) n p) a.1).2 = (f a.1).2 := by
          unfold setP setN
          by_cases c1 : a.1 = n
          · rw [if_pos c1]; simp only; rw [if_neg k1]
          · rw [if_neg c1, if_neg k1]
        rw [this]; exact hfa.1
      · have : ((setP (setN f p n) n p) a.2).1 = (f a.2).1 := by
          unfold setP setN
          rw [if_neg k2]
          by_cases c1 : a.2 = p
          · rw [if_pos c1]
          · rw [if_neg c1]
        rw [this]; exact hfa.2
    intro a ha
    rcases List.mem_append.1 ha with ha | ha
    · exact same a (List.mem_append_left _ ha)
    · rcases List.mem_cons.1 ha with rfl | ha
      · constructor
        · show ((setP (setN f p n) n p) p).2 = n
          unfold setP setN
          by_cases c1 : p = n
          · simp [c1]
          · simp [c1]
        · show ((setP (setN f p n) n p) n).1 = p
          unfold setP
          simp
      · exact same a (List.mem_append_right _ ha)
/-- one put first -/
theorem ring_first (h : Ring f l) (hn : (none :: x :: l).Nodup) :
    (f none).2 ∈ none :: l ∧ Ring (setP (setN (setN (setP f x none) x (f none).2) none x) (f none).2 x) (x :: l) := by
  obtain ⟨n, c, hc, hm⟩ := tail_split l
  have en := ring_head h n c hc
  rw [en]
  refine ⟨hm, ?_⟩
  obtain ⟨hn1, hn2⟩ := List.nodup_cons.1 hn
  obtain ⟨hn3, hn4⟩ := List.nodup_cons.1 hn2
  have x0 : x ≠ none := fun e => hn1 (by rw [← e]; exact List.mem_cons_self ..)
  have e1 : sg none (l ++ [none]) = (none, n) :: sg n c := by rw [hc]; rfl
  have e2 : sg none ((x :: l) ++ [none]) = (none, x) :: (x, n) :: sg n c := by
    show (none, x) :: sg x (l ++ [none]) = _
    rw [hc]; rfl
  have hF : (((none, n) :: sg n c).map (·.1)).Nodup := by
    rw [← e1, sg_fst]
    exact List.nodup_cons.2 ⟨fun hm => hn1 (List.mem_cons_of_mem _ hm), hn4⟩
  have hS : (((none, n) :: sg n c).map (·.2)).Nodup := by
    rw [← e1, sg_snd]
    have hp : (l ++ [none]).Perm (none :: l) := List.perm_append_comm.trans (List.Perm.refl _)
    exact hp.nodup_iff.2 (List.nodup_cons.2 ⟨fun hm => hn1 (List.mem_cons_of_mem _ hm), hn4⟩)
  have hxn : x ≠ n := fun e => by
    rcases List.mem_cons.1 hm with h | h
    · exact x0 (e.trans h)
    · exact hn3 (by rw [e]; exact h)
  unfold Ring at h ⊢
  rw [e1] at h
  rw [e2]
  simp only [List.map_cons, List.nodup_cons] at hF hS
  intro a ha
  rcases List.mem_cons.1 ha with rfl | ha
  · constructor
    · show ((setP (setN (setN (setP f x none) x n) none x) n x) none).2 = x
      unfold setP setN
      by_cases c1 : none = n
      · simp [← c1]
      · simp [c1]
    · show ((setP (setN (setN (setP f x none) x n) none x) n x) x).1 = none
      unfold setP setN
      simp [hxn, x0]
  · rcases List.mem_cons.1 ha with rfl | ha
    · constructor
      · show ((setP (setN (setN (setP f x none) x n) none x) n x) x).2 = n
        unfold setP setN
        simp [hxn, x0]
      · show ((setP (setN (setN (setP f x none) x n) none x) n x) n).1 = x
        unfold setP
        simp
    · have hfa := h a (List.mem_cons_of_mem _ ha)
      have a1 : a.1 ≠ none := fun e => hF.1 (List.mem_map.2 ⟨a, ha, e⟩)
      have a2 : a.2 ≠ n := fun e => hS.1 (List.mem_map.2 ⟨a, ha, e⟩)
      have hsub1 : a.1 ∈ none :: l := by
        have : a.1 ∈ (sg none (l ++ [none])).map (·.1) := List.mem_map.2 ⟨a, by rw [e1]; exact List.mem_cons_of_mem _ ha, rfl⟩
        rwa [sg_fst] at this
      have hsub2 : a.2 ∈ l ++ [none] := by
        have : a.2 ∈ (sg none (l ++ [none])).map (·.2) := List.mem_map.2 ⟨a, by rw [e1]; exact List.mem_cons_of_mem _ ha, rfl⟩
        rwa [sg_snd] at this
      have a3 : a.1 ≠ x := fun e => by
        rcases List.mem_cons.1 hsub1 with h | h
        · exact a1 h
        · exact hn3 (by rw [← e]; exact h)
      have a4 : a.2 ≠ x := fun e => by
        rcases List.mem_append.1 hsub2 with h | h
        · exact hn3 (by rw [← e]; exact h)
        · exact x0 (by rw [← e]; exact List.mem_singleton.1 h)
      constructor
      · have : ((setP (setN (setN (setP f x none) x n) none x) n x) a.1).2 = (f a.1).2 := by
          unfold setP setN
          by_cases c1 : a.1 = n
          · simp only [c1, if_pos rfl]
            rw [c1] at a1 a3
            simp [a1, a3]
          · simp [c1, a1, a3]
        rw [this]; exact hfa.1
      · have : ((setP (setN (setN (setP f x none) x n) none x) n x) a.2).1 = (f a.2).1 := by
          unfold setP setN
          by_cases c1 : a.2 = none
          · simp [a2, a4, c1]
            rw [c1] at a2 a4
            simp [a2, a4]
          · simp [a2, a4, c1]
        rw [this]; exact hfa.2
end
end Go.Proofs.YtongpnolikkknaaGreatDoor

set_option maxRecDepth 20000
set_option maxHeartbeats 4000000
namespace Go.Proofs.YtongpnolikkknaaGreatDoor
open Sh RowKit Go.MapKept
def ptc (c : Nat) : Nd → Addr
  | none => ⟨c, 2, none⟩
  | some a => ⟨a, 0, none⟩
def ptn (c : Nat) : Nd → Addr
  | none => ⟨c, 3, none⟩
  | some a => ⟨a, 1, none⟩
theorem pta0 (c : Nat) (y : Nd) : (ptc c y).add 0 = ptc c y := by cases y <;> rfl
theorem pta1 (c : Nat) (y : Nd) : (ptc c y).add 1 = ptn c y := by cases y <;> rfl
abbrev Pp (c : Nat) (y : Nd) : Value := .pointer (some (ptc c y))
def cCell (c q : Nat) (sz n : Int) (mb : Nat) (h m : Int) (f : Nd → Nd × Nd) : Array Value :=
  #[pv q, .int .i64 sz, Pp c (f none).1, Pp c (f none).2, .int .i64 0, .string ⟨#[]⟩, .int .i64 n, .map (some mb), .int .i64 h, .int .i64 m]
def lCell (c : Nat) (f : Nd → Nd × Nd) (e : Nat × Ch) : Array Value := #[Pp c (f (some e.1)).1, Pp c (f (some e.1)).2, .int .i64 e.2.1, .string e.2.2]
structure Mm (B : Nat) (w : World) (c q : Nat) (sz n : Int) (mb : Nat) (h m : Int) (f : Nd → Nd × Nd) (E : List (Nat × Ch)) : Prop where
  cB : B ≤ c
  eB : ∀ e ∈ E, B ≤ e.1
  cb : w.heap[c]? = some (.cells (cCell c q sz n mb h m f) 124 (0, 0))
  lk : ∀ e ∈ E, w.heap[e.1]? = some (.cells (lCell c f e) 120 (0, 0))
  nd : (E.map (·.1)).Nodup
def InE (E : List (Nat × Ch)) (y : Nd) : Prop := y = none ∨ ∃ e ∈ E, y = some e.1
/-- the blocks of it -/
def fpM (c : Nat) (E : List (Nat × Ch)) : Nat → Prop := fun k => k = c ∨ ∃ e ∈ E, k = e.1
theorem setP_eq {f : Nd → Nd × Nd} {y v : Nd} : setP f y v y = (v, (f y).2) := by unfold setP; rw [if_pos rfl]
theorem setP_ne {f : Nd → Nd × Nd} {y v n : Nd} (h : n ≠ y) : setP f y v n = f n := by unfold setP; rw [if_neg h]
theorem setN_eq {f : Nd → Nd × Nd} {y v : Nd} : setN f y v y = ((f y).1, v) := by unfold setN; rw [if_pos rfl]
theorem setN_ne {f : Nd → Nd × Nd} {y v n : Nd} (h : n ≠ y) : setN f y v n = f n := by unfold setN; rw [if_neg h]
theorem nd_inj {E : List (Nat × Ch)} (hn : (E.map (·.1)).Nodup) {e e' : Nat × Ch} (h : e ∈ E) (h' : e' ∈ E) (he : e.1 = e'.1) : e = e' := by
  induction E with
  | nil => cases h
  | cons x E ih =>
    rw [List.map_cons] at hn
    obtain ⟨h1, h2⟩ := List.nodup_cons.1 hn
    rcases List.mem_cons.1 h with k | k
    · rcases List.mem_cons.1 h' with k' | k'
      · rw [k, k']
      · exact absurd (List.mem_map.2 ⟨e', k', by rw [← he, k]⟩) h1
    · rcases List.mem_cons.1 h' with k' | k'
      · exact absurd (List.mem_map.2 ⟨e, k, by rw [he, k']⟩) h1
      · exact ih h2 k k'
section
variable {B : Nat} {w w' : World} {c q mb : Nat} {sz n h m : Int} {f : Nd → Nd × Nd} {E : List (Nat × Ch)} {y v : Nd} {K0 : M} {Q : Value → World → Prop}
theorem Mm.ne (hm : Mm B w c q sz n mb h m f E) : ∀ e ∈ E, e.1 ≠ c := fun e he hc => by
  have h1 := hm.lk e he
  rw [hc, hm.cb] at h1
  have h2 := Option.some.inj h1
  injection h2 with _ h3 _
  exact absurd h3 (by decide)
theorem Mm.below (hm : Mm B w c q sz n mb h m f E) (hb : Below w.heap.size w w') : Mm B w' c q sz n mb h m f E := ⟨hm.cB, hm.eB, stay hb hm.cb, fun e he => stay hb (hm.lk e he), hm.nd⟩
theorem Mm.chg {S : Nat → Prop} (hm : Mm B w c q sz n mb h m f E) (hc : ChgS S w w') (hS : ∀ k, fpM c E k → ¬ S k) : Mm B w' c q sz n mb h m f E := ⟨hm.cB, hm.eB, hc.keep hm.cb (hS c (.inl rfl)), fun e he => hc.keep (hm.lk e he) (hS e.1 (.inr ⟨e, he, rfl⟩)), hm.nd⟩
theorem Mm.sub {E' : List (Nat × Ch)} (hm : Mm B w c q sz n mb h m f E) (hs : E'.Sublist E) : Mm B w c q sz n mb h m f E' := ⟨hm.cB, fun e he => hm.eB e (hs.subset he), hm.cb, fun e he => hm.lk e (hs.subset he), hm.nd.sublist (hs.map _)⟩
theorem Mm.fpB (hm : Mm B w c q sz n mb h m f E) : ∀ k, fpM c E k → B ≤ k := by
  rintro k (rfl | ⟨e, he, rfl⟩)
  · exact hm.cB
  · exact hm.eB e he
theorem Mm.lt (hm : Mm B w c q sz n mb h m f E) : ∀ k, fpM c E k → k < w.heap.size := by
  rintro k (rfl | ⟨e, he, rfl⟩)
  · exact blk_lt hm.cb
  · exact blk_lt (hm.lk e he)
theorem Mm.gP (hm : Mm B w c q sz n mb h m f E) (hy : InE E y) : w.cell? (ptc c y) = some (Pp c (f y).1) := by
  rcases hy with rfl | ⟨e, he, rfl⟩
  · show w.cell? ⟨c, 2, none⟩ = _
    rw [cell_of_blk hm.cb]; rfl
  · show w.cell? ⟨e.1, 0, none⟩ = _
    rw [cell_of_blk (hm.lk e he)]; rfl
theorem Mm.gN (hm : Mm B w c q sz n mb h m f E) (hy : InE E y) : w.cell? (ptn c y) = some (Pp c (f y).2) := by
  rcases hy with rfl | ⟨e, he, rfl⟩
  · show w.cell? ⟨c, 3, none⟩ = _
    rw [cell_of_blk hm.cb]; rfl
  · show w.cell? ⟨e.1, 1, none⟩ = _
    rw [cell_of_blk (hm.lk e he)]; rfl
theorem Mm.c6 (hm : Mm B w c q sz n mb h m f E) : w.cell? ⟨c, 6, none⟩ = some (.int .i64 n) := by rw [cell_of_blk hm.cb]; rfl
theorem Mm.sP (hm : Mm B w c q sz n mb h m f E) (hy : InE E y) (kk : ∀ w', Mm B w' c q sz n mb h m (setP f y v) E → (∀ S : Nat → Prop, (∀ k, fpM c E k → S k) → ChgS S w w') → K0 w' Q) : st (.pointer (some (ptc c y))) (Pp c v) K0 w Q := by
  rcases hy with rfl | ⟨e, he, rfl⟩
  · refine st_box (o := 2) (v := Pp c v) hm.cb (by show 2 < 10; decide) rfl fun w1 h1 u1 => kk w1 ⟨hm.cB, hm.eB, ?_, fun e he => ?_, hm.nd⟩ fun S hS => ChgS.of_upd u1 (hS _ (.inl rfl))
    · rw [h1]
      unfold cCell
      rw [setP_eq]
      rfl
    · rw [u1.block e.1 (hm.ne e he), hm.lk e he]
      unfold lCell
      rw [setP_ne (by simp)]
  · refine st_box (o := 0) (v := Pp c v) (hm.lk e he) (by show 0 < 4; decide) rfl fun w1 h1 u1 => kk w1 ⟨hm.cB, hm.eB, ?_, fun e' he' => ?_, hm.nd⟩ fun S hS => ChgS.of_upd u1 (hS _ (.inr ⟨e, he, rfl⟩))
    · rw [u1.block c (hm.ne e he).symm, hm.cb]
      unfold cCell
      rw [setP_ne (by simp)]
    · by_cases hee : e'.1 = e.1
      · obtain rfl := nd_inj hm.nd he' he hee
        rw [h1]
        unfold lCell
        rw [setP_eq]
        rfl
      · rw [u1.block e'.1 hee, hm.lk e' he']
        unfold lCell
        rw [setP_ne (by simpa using hee)]
theorem Mm.sN (hm : Mm B w c q sz n mb h m f E) (hy : InE E y) (kk : ∀ w', Mm B w' c q sz n mb h m (setN f y v) E → (∀ S : Nat → Prop, (∀ k, fpM c E k → S k) → ChgS S w w') → K0 w' Q) : st (.pointer (some (ptn c y))) (Pp c v) K0 w Q := by
  rcases hy with rfl | ⟨e, he, rfl⟩
  · refine st_box (o := 3) (v := Pp c v) hm.cb (by show 3 < 10; decide) rfl fun w1 h1 u1 => kk w1 ⟨hm.cB, hm.eB, ?_, fun e he => ?_, hm.nd⟩ fun S hS => ChgS.of_upd u1 (hS _ (.inl rfl))
    · rw [h1]
      unfold cCell
      rw [setN_eq]
      rfl
    · rw [u1.block e.1 (hm.ne e he), hm.lk e he]
      unfold lCell
      rw [setN_ne (by simp)]
  · refine st_box (o := 1) (v := Pp c v) (hm.lk e he) (by show 1 < 4; decide) rfl fun w1 h1 u1 => kk w1 ⟨hm.cB, hm.eB, ?_, fun e' he' => ?_, hm.nd⟩ fun S hS => ChgS.of_upd u1 (hS _ (.inr ⟨e, he, rfl⟩))
    · rw [u1.block c (hm.ne e he).symm, hm.cb]
      unfold cCell
      rw [setN_ne (by simp)]
    · by_cases hee : e'.1 = e.1
      · obtain rfl := nd_inj hm.nd he' he hee
        rw [h1]
        unfold lCell
        rw [setN_eq]
        rfl
      · rw [u1.block e'.1 hee, hm.lk e' he']
        unfold lCell
        rw [setN_ne (by simpa using hee)]
/-- one of the cache's own numbers stored -/
theorem Mm.sI {o : Nat} {x : Int} {n' h' m' : Int} (hm : Mm B w c q sz n mb h m f E) (ho : o < 10) (he : (cCell c q sz n mb h m f).setIfInBounds o (.int .i64 x) = cCell c q sz n' mb h' m' f) (kk : ∀ w', Mm B w' c q sz n' mb h' m' f E → (∀ S : Nat → Prop, (∀ k, fpM c E k → S k) → ChgS S w w') → K0 w' Q) : st (.pointer (some ⟨c, o, none⟩)) (.int .i64 x) K0 w Q := by
  refine st_box (o := o) (v := .int .i64 x) hm.cb (by show o < 10; exact ho) rfl fun w1 h1 u1 => kk w1 ⟨hm.cB, hm.eB, by rw [h1, he], fun e he => by rw [u1.block e.1 (hm.ne e he), hm.lk e he], hm.nd⟩ fun S hS => ChgS.of_upd u1 (hS _ (.inl rfl))
theorem f76_s {e : Nat × Ch} (hm : Mm B w c q sz n mb h m f E) (he : e ∈ E) (hp : InE E (f (some e.1)).1) (hx : InE E (f (some e.1)).2) (hn : 0 ≤ n) (hn2 : n ≤ 1000)
    (kk : ∀ w', Mm B w' c q sz (n - 1) mb h m (setP (setN f (f (some e.1)).1 (f (some e.1)).2) (f (some e.1)).2 (f (some e.1)).1) E → ChgS (fpM c E) w w' → Q (.tuple #[]) w') :
    f76 (.pointer (some ⟨c, 2, none⟩)) (pv e.1) w Q := by
  unfold f76
  have hmd : Mm B (drw w) c q sz n mb h m f E := ⟨hm.cB, hm.eB, hm.cb, hm.lk, hm.nd⟩
  have c0 : (drw w).cell? ⟨e.1, 0, none⟩ = some (Pp c (f (some e.1)).1) := hmd.gP (y := some e.1) (.inr ⟨e, he, rfl⟩)
  have c1 : (drw w).cell? ⟨e.1, 1, none⟩ = some (Pp c (f (some e.1)).2) := hmd.gN (y := some e.1) (.inr ⟨e, he, rfl⟩)
  have c0' : w.cell? ⟨e.1, 0, none⟩ = some (Pp c (f (some e.1)).1) := c0
  have c1' : w.cell? ⟨e.1, 1, none⟩ = some (Pp c (f (some e.1)).2) := c1
  have ew : IntKind.i64.wrap (n - 1) = n - 1 := w64 (by omega) (by omega)
  try simp only [↓reduceIte, ↓LL, LM, Value.cells, Nat.reduceAdd, Option.some.injEq, exists_eq_left', decide_true, decide_false, if_true, if_false, reduceCtorEq, cond_true, cond_false, c0, c1, c0', c1', pta0, pta1]
  generalize (f (some e.1)).1 = p at *
  generalize (f (some e.1)).2 = x at *
  refine hmd.sN hp fun w1 m1 g1 => ?_
  try simp only [↓reduceIte, ↓LL, LM, Value.cells, Nat.reduceAdd, Option.some.injEq, exists_eq_left', decide_true, decide_false, if_true, if_false, reduceCtorEq, cond_true, cond_false, pta0, pta1]
  refine m1.sP hx fun w2 m2 g2 => ?_
  have c6 := m2.c6
  try simp only [↓reduceIte, ↓LL, LM, Value.cells, Nat.reduceAdd, Option.some.injEq, exists_eq_left', decide_true, decide_false, if_true, if_false, reduceCtorEq, cond_true, cond_false, c6, ew]
  refine m2.sI (by decide) rfl fun w3 m3 g3 => ?_
  try simp only [↓reduceIte, ↓LL, LM, Value.cells, Nat.reduceAdd, Option.some.injEq, exists_eq_left', decide_true, decide_false, if_true, if_false, reduceCtorEq, cond_true, cond_false]
  refine kk w3 m3 ?_
  have s1 : ChgS (fpM c E) (drw w) w1 := g1 _ fun _ h => h
  exact ((s1.trans (g2 _ fun _ h => h) fun _ _ h => h).trans (g3 _ fun _ h => h) fun _ _ h => h).of_drw
theorem f107_s {e : Nat × Ch} {va vb : Value} (hm : Mm B w c q sz n mb h m f E) (hne : e.1 ∉ E.map (·.1)) (heB : B ≤ e.1) (hblk : w.heap[e.1]? = some (.cells #[va, vb, .int .i64 e.2.1, .string e.2.2] 120 (0, 0))) (hx : InE E (f none).2) (hn : 0 ≤ n) (hn2 : n ≤ 1000)
    (kk : ∀ w', Mm B w' c q sz (n + 1) mb h m (setP (setN (setN (setP f (some e.1) none) (some e.1) (f none).2) none (some e.1)) (f none).2 (some e.1)) (e :: E) → ChgS (fpM c (e :: E)) w w' → Q (.tuple #[]) w') :
    f107 (.pointer (some ⟨c, 2, none⟩)) (pv e.1) w Q := by
  unfold f107
  have hmd : Mm B (drw w) c q sz n mb h m f E := ⟨hm.cB, hm.eB, hm.cb, hm.lk, hm.nd⟩
  have hie : InE (e :: E) (some e.1) := .inr ⟨e, List.mem_cons_self .., rfl⟩
  have hec : e.1 ≠ c := fun hc => by
    rw [hc, hm.cb] at hblk
    have h2 := Option.some.inj hblk
    injection h2 with _ h3 _
    exact absurd h3 (by decide)
  have c3 : (drw w).cell? ⟨c, 3, none⟩ = some (Pp c (f none).2) := hmd.gN (y := none) (.inl rfl)
  have c3' : w.cell? ⟨c, 3, none⟩ = some (Pp c (f none).2) := c3
  have ew : IntKind.i64.wrap (n + 1) = n + 1 := w64 (by omega) (by omega)
  try simp only [↓reduceIte, ↓LL, LM, Value.cells, Nat.reduceAdd, Option.some.injEq, exists_eq_left', decide_true, decide_false, if_true, if_false, reduceCtorEq, cond_true, cond_false, c3, c3', pta0, pta1]
  generalize hxx : (f none).2 = x at *
  refine st_box (w := drw w) (o := 0) (v := Pp c none) (show (drw w).heap[e.1]? = _ from hblk) (by show 0 < 4; decide) rfl fun w1 h1 u1 => ?_
  try simp only [↓reduceIte, ↓LL, LM, Value.cells, Nat.reduceAdd, Option.some.injEq, exists_eq_left', decide_true, decide_false, if_true, if_false, reduceCtorEq, cond_true, cond_false]
  refine st_box (o := 1) (v := Pp c x) h1 (by show 1 < 4; decide) rfl fun w2 h2 u2 => ?_
  have hk : ∀ k, k ≠ e.1 → w2.heap[k]? = (drw w).heap[k]? := fun k hk => by rw [u2.block k hk, u1.block k hk]
  have m2 : Mm B w2 c q sz n mb h m (setN (setP f (some e.1) none) (some e.1) x) (e :: E) := by
    refine ⟨hm.cB, fun a ha => ?_, ?_, fun a ha => ?_, ?_⟩
    · rcases List.mem_cons.1 ha with rfl | ha
      · exact heB
      · exact hm.eB a ha
    · rw [hk c hec.symm]
      show w.heap[c]? = _
      rw [hm.cb]
      unfold cCell
      rw [setN_ne (by simp), setP_ne (by simp)]
    · rcases List.mem_cons.1 ha with rfl | ha
      · rw [h2]
        unfold lCell
        rw [setN_eq, setP_eq]
        rfl
      · have hae : a.1 ≠ e.1 := fun hc => hne (List.mem_map.2 ⟨a, ha, hc⟩)
        rw [hk a.1 hae]
        show w.heap[a.1]? = _
        rw [hm.lk a ha]
        unfold lCell
        rw [setN_ne (by simpa using hae), setP_ne (by simpa using hae)]
    · rw [List.map_cons]
      exact List.nodup_cons.2 ⟨hne, hm.nd⟩
  have m2d : Mm B (drw w2) c q sz n mb h m _ (e :: E) := ⟨m2.cB, m2.eB, m2.cb, m2.lk, m2.nd⟩
  have hx' : InE (e :: E) x := by
    rcases hx with h | ⟨a, ha, h⟩
    · exact .inl h
    · exact .inr ⟨a, List.mem_cons_of_mem _ ha, h⟩
  have d0 : (drw w2).cell? ⟨e.1, 0, none⟩ = some (Pp c none) := by
    have := m2d.gP (y := some e.1) hie
    rw [setN_eq, setP_eq] at this
    exact this
  have d1 : (drw w2).cell? ⟨e.1, 1, none⟩ = some (Pp c x) := by
    have := m2d.gN (y := some e.1) hie
    rw [setN_eq] at this
    exact this
  have d0' : w2.cell? ⟨e.1, 0, none⟩ = some (Pp c none) := d0
  have d1' : w2.cell? ⟨e.1, 1, none⟩ = some (Pp c x) := d1
  try simp only [↓reduceIte, ↓LL, LM, Value.cells, Nat.reduceAdd, Option.some.injEq, exists_eq_left', decide_true, decide_false, if_true, if_false, reduceCtorEq, cond_true, cond_false, d0, d1, d0', d1', pta0, pta1]
  refine m2d.sN (y := none) (v := some e.1) (.inl rfl) fun w3 m3 g3 => ?_
  try simp only [↓reduceIte, ↓LL, LM, Value.cells, Nat.reduceAdd, Option.some.injEq, exists_eq_left', decide_true, decide_false, if_true, if_false, reduceCtorEq, cond_true, cond_false, pta0, pta1]
  refine m3.sP (v := some e.1) hx' fun w4 m4 g4 => ?_
  have c6 := m4.c6
  try simp only [↓reduceIte, ↓LL, LM, Value.cells, Nat.reduceAdd, Option.some.injEq, exists_eq_left', decide_true, decide_false, if_true, if_false, reduceCtorEq, cond_true, cond_false, c6, ew]
  refine m4.sI (by decide) rfl fun w5 m5 g5 => ?_
  try simp only [↓reduceIte, ↓LL, LM, Value.cells, Nat.reduceAdd, Option.some.injEq, exists_eq_left', decide_true, decide_false, if_true, if_false, reduceCtorEq, cond_true, cond_false]
  refine kk w5 m5 ?_
  have s1 : ChgS (fpM c (e :: E)) (drw w) w1 := ChgS.of_upd u1 (.inr ⟨e, List.mem_cons_self .., rfl⟩)
  have s2 : ChgS (fpM c (e :: E)) (drw w) w2 := s1.trans (ChgS.of_upd u2 (S := fpM c (e :: E)) (.inr ⟨e, List.mem_cons_self .., rfl⟩)) fun _ _ h => h
  have s3 : ChgS (fpM c (e :: E)) w2 w3 := (g3 (fpM c (e :: E)) fun _ h => h).of_drw
  exact ((((s2.trans s3 fun _ _ h => h).trans (g4 _ fun _ h => h) fun _ _ h => h).trans (g5 _ fun _ h => h) fun _ _ h => h)).of_drw
end
end Go.Proofs.YtongpnolikkknaaGreatDoor

set_option maxRecDepth 20000
set_option maxHeartbeats 4000000
namespace Go.Proofs.YtongpnolikkknaaGreatDoor
open Sh RowKit Go.MapKept
section
variable {P : Program} {w : World} {Q : Value → World → Prop} {K : Value → M}
end
section
variable {α : Type} [DecidableEq α]
theorem lk_del {L : List (α × Value)} {k k' : α} : lk (del L k) k' = if k' = k then none else lk L k' := by
  induction L with
  | nil => simp [del, lk]
  | cons p L ih =>
    obtain ⟨a, u⟩ := p
    by_cases ha : a = k
    · have e : del ((a, u) :: L) k = del L k := by unfold del; rw [List.filter_cons_of_neg (by simp [ha])]
      rw [e, ih, lk_cons]
      by_cases hk : k' = k
      · rw [if_pos hk, if_pos hk]
      · rw [if_neg hk, if_neg hk, if_neg (fun e => hk (by rw [← e, ha]))]
    · have e : del ((a, u) :: L) k = (a, u) :: del L k := by unfold del; rw [List.filter_cons_of_pos (by simpa using ha)]
      rw [e, lk_cons, lk_cons, ih]
      by_cases hk : k' = k
      · rw [if_pos hk, if_neg (fun e => ha (by rw [e, hk])), if_pos hk]
      · rw [if_neg hk, if_neg hk]
end
theorem KKc : KeyK Tryz.prog 115 3 116 (.int .i64) kI := ⟨by kernel_rfl, by kernel_rfl, fun a => by simp [kI, IsKey], fun a b h => by simpa [kI] using h⟩
theorem zC : zeroIs Tryz.prog 116 (.pointer none) := by unfold zeroIs; kernel_rfl
theorem ptK : Tryz.prog.underlying 29 = some (.pointer (Tryz.prog.pointee 29)) := by kernel_rfl
end Go.Proofs.YtongpnolikkknaaGreatDoor

set_option maxRecDepth 20000
set_option maxHeartbeats 4000000
namespace Go.Proofs.YtongpnolikkknaaGreatDoor
open Sh RowKit Go.MapKept
def fnd (E : List (Nat × Ch)) (n : Int) : Option (Nat × Ch) := E.find? fun e => decide (e.2.1 = n)
def nds (E : List (Nat × Ch)) : List Nd := E.map fun e => some e.1
structure CaAt (B : Nat) (w : World) (c q mb : Nat) (C : Ca) (E : List (Nat × Ch)) : Prop where
  K : C.K = E.map (·.2)
  rg : ∃ f, Mm B w c q C.sz E.length mb C.h C.m f E ∧ Ring f (nds E)
  mB : B ≤ mb
  mp : ∃ ML, MapAt kI w mb ML ∧ ∀ n, lk ML n = (fnd E n).map fun e => pv e.1
  nk : (nums C.K).Nodup
  le : E.length ≤ C.sz
  l64 : C.sz ≤ 64
def fpA (c mb : Nat) (E : List (Nat × Ch)) : Nat → Prop := fun k => fpM c E k ∨ k = mb
theorem fnd_cons {e : Nat × Ch} {E : List (Nat × Ch)} {n : Int} : fnd (e :: E) n = if e.2.1 = n then some e else fnd E n := by
  unfold fnd
  by_cases h : e.2.1 = n
  · rw [List.find?_cons_of_pos (by simpa using h), if_pos h]
  · rw [List.find?_cons_of_neg (by simpa using h), if_neg h]
theorem fnd_app {E1 E2 : List (Nat × Ch)} {n : Int} : fnd (E1 ++ E2) n = (fnd E1 n).or (fnd E2 n) := by unfold fnd; rw [List.find?_append]
theorem fnd_none {E : List (Nat × Ch)} {n : Int} (h : n ∉ E.map (·.2.1)) : fnd E n = none := by
  unfold fnd
  refine List.find?_eq_none.2 fun e he hn => h (List.mem_map.2 ⟨e, he, by simpa using hn⟩)
theorem nds_none {E : List (Nat × Ch)} (h : (E.map (·.1)).Nodup) : (none :: nds E).Nodup := by
  refine List.nodup_cons.2 ⟨fun hc => ?_, ?_⟩
  · obtain ⟨e, _, h⟩ := List.mem_map.1 hc
    cases h
  · have e : nds E = (E.map (·.1)).map some := by unfold nds; rw [List.map_map]; rfl
    rw [e]
    exact nodup_map_inj h fun a _ b _ hab => Option.some.inj hab
theorem inE_of {E : List (Nat × Ch)} {y : Nd} (h : y ∈ none :: nds E) : InE E y := by
  rcases List.mem_cons.1 h with h | h
  · exact .inl h
  · obtain ⟨e, he, hx⟩ := List.mem_map.1 h
    exact .inr ⟨e, he, hx.symm⟩
theorem find_fnd {E : List (Nat × Ch)} {n : Int} : (E.map (·.2)).find? (fun x => decide (x.1 = n)) = (fnd E n).map (·.2) := by
  unfold fnd
  rw [List.find?_map]; rfl
theorem fnd_mem {E : List (Nat × Ch)} {n : Int} {e : Nat × Ch} (h : fnd E n = some e) : e ∈ E ∧ e.2.1 = n := by
  unfold fnd at h
  have h1 := List.find?_some h
  exact ⟨List.mem_of_find?_eq_some h, by simpa using h1⟩
theorem nums_map (E : List (Nat × Ch)) : nums (E.map (·.2)) = E.map (·.2.1) := by unfold nums; rw [List.map_map]; rfl
section
variable {B : Nat} {w w' : World} {c q mb : Nat} {sz : Nat} {h m n : Int} {f : Nd → Nd × Nd} {E : List (Nat × Ch)} {C : Ca} {L : List ByteArray} {p : Nat} {u st cc : Value} {Bp : Nat} {Q : Value → World → Prop}
theorem CaAt.below (hc : CaAt B w c q mb C E) (hb : Below w.heap.size w w') : CaAt B w' c q mb C E := by
  obtain ⟨f, hm, hr⟩ := hc.rg
  obtain ⟨ML, h1, h2⟩ := hc.mp
  exact ⟨hc.K, ⟨f, hm.below hb, hr⟩, hc.mB, ⟨ML, h1.below hb, h2⟩, hc.nk, hc.le, hc.l64⟩
theorem CaAt.chg {S : Nat → Prop} (hc : CaAt B w c q mb C E) (hg : ChgS S w w') (hS : ∀ k, fpA c mb E k → ¬ S k) : CaAt B w' c q mb C E := by
  obtain ⟨f, hm, hr⟩ := hc.rg
  obtain ⟨ML, h1, h2⟩ := hc.mp
  exact ⟨hc.K, ⟨f, hm.chg hg fun k hk => hS k (.inl hk), hr⟩, hc.mB, ⟨ML, h1.stay (hg.block mb h1.lt (hS mb (.inr rfl))), h2⟩, hc.nk, hc.le, hc.l64⟩
theorem CaAt.fpB (hc : CaAt B w c q mb C E) : ∀ k, fpA c mb E k → B ≤ k := by
  obtain ⟨f, hm, hr⟩ := hc.rg
  rintro k (hk | rfl)
  · exact hm.fpB k hk
  · exact hc.mB
theorem CaAt.lt (hc : CaAt B w c q mb C E) : ∀ k, fpA c mb E k → k < w.heap.size := by
  obtain ⟨f, hm, hr⟩ := hc.rg
  obtain ⟨ML, h1, h2⟩ := hc.mp
  rintro k (hk | rfl)
  · exact hm.lt k hk
  · exact h1.lt
theorem map_ne {ML : List (Int × Value)} {g : Nat} {cur : Array Value} {e : TypeId} (h : MapAt kI w mb ML) (hg : w.heap[g]? = some (.cells cur e (0, 0))) : g ≠ mb := by
  rintro rfl
  obtain ⟨es, clock, h1, _⟩ := h
  rw [h1] at hg; cases hg
theorem Mm.mne {ML : List (Int × Value)} (hm : Mm B w c q sz n mb h m f E) (hp : MapAt kI w mb ML) : ∀ k, fpM c E k → k ≠ mb := by
  rintro k (rfl | ⟨e, he, rfl⟩)
  · exact map_ne hp hm.cb
  · exact map_ne hp (hm.lk e he)
theorem Mm.of_drw (hm : Mm B w c q sz n mb h m f E) : Mm B (drw w) c q sz n mb h m f E := ⟨hm.cB, hm.eB, hm.cb, hm.lk, hm.nd⟩
/-- a link used: put first, the last one away if they are too many -/
theorem f77_s {e : Nat × Ch} {va vb : Value} {ML : List (Int × Value)} (hm : Mm B w c q sz E.length mb h m f E) (hr : Ring f (nds E)) (hne : e.1 ∉ E.map (·.1)) (heB : B ≤ e.1)
    (hblk : w.heap[e.1]? = some (.cells #[va, vb, .int .i64 e.2.1, .string e.2.2] 120 (0, 0))) (hmB : B ≤ mb) (hmp : MapAt kI w mb ML) (hlk : ∀ n, n ≠ e.2.1 → lk ML n = (fnd E n).map fun e => pv e.1)
    (hle : E.length ≤ sz) (h64 : sz ≤ 64) (hnk : ((e :: E).map (·.2.1)).Nodup)
    (kk : ∀ w', CaAt B w' c q mb ⟨sz, useK sz e.2 (E.map (·.2)), h, m⟩ ((e :: E).take sz) → ChgS (fpA c mb (e :: E)) w w' → Q (.tuple #[]) w') : f77 (pv c) (pv e.1) w Q := by
  unfold f77
  have hndn : (none :: some e.1 :: nds E).Nodup := nds_none (E := e :: E) (by rw [List.map_cons]; exact List.nodup_cons.2 ⟨hne, hm.nd⟩)
  obtain ⟨g1, g2⟩ := ring_first hr hndn
  try simp only [↓reduceIte, ↓LL, LM, Value.cells, Nat.reduceAdd, Option.some.injEq, exists_eq_left', decide_true, decide_false, if_true, if_false, reduceCtorEq, cond_true, cond_false]
  refine f107_s hm hne heB hblk (inE_of g1) (by omega) (by omega) fun w1 m1 hc1 => ?_
  generalize setP (setN (setN (setP f (some e.1) none) (some e.1) (f none).2) none (some e.1)) (f none).2 (some e.1) = f1 at *
  have emb : ∀ k, fpM c (e :: E) k → k ≠ mb := by
    rintro k (rfl | ⟨a, ha, rfl⟩)
    · exact map_ne hmp hm.cb
    · rcases List.mem_cons.1 ha with rfl | ha
      · exact map_ne hmp hblk
      · exact map_ne hmp (hm.lk a ha)
  have hmp1 : MapAt kI w1 mb ML := hmp.stay (hc1.block mb hmp.lt fun hk => emb mb hk rfl)
  have hcA : ChgS (fpA c mb (e :: E)) w w1 := hc1.mono fun k hk => .inl hk
  have c7 : (drw w1).cell? ⟨c, 7, none⟩ = some (.map (some mb)) := by show w1.cell? _ = _; rw [cell_of_blk m1.cb]; rfl
  have ce2 : (drw w1).cell? ⟨e.1, 2, none⟩ = some (.int .i64 e.2.1) := by show w1.cell? _ = _; rw [cell_of_blk (m1.lk e (List.mem_cons_self ..))]; rfl
  have c7' : w1.cell? ⟨c, 7, none⟩ = some (.map (some mb)) := c7
  have ce2' : w1.cell? ⟨e.1, 2, none⟩ = some (.int .i64 e.2.1) := ce2
  try simp only [↓reduceIte, ↓LL, LM, Value.cells, Nat.reduceAdd, Option.some.injEq, exists_eq_left', decide_true, decide_false, if_true, if_false, reduceCtorEq, cond_true, cond_false, c7, ce2, c7', ce2']
  refine upd_map (kv := kI) KKc (show MapAt kI (drw w1) mb ML from hmp1) e.2.1 (pv e.1) fun w2 hmp2 u2 => ?_
  have hc2 : ChgS (fpA c mb (e :: E)) w w2 := hcA.trans (T := fpA c mb (e :: E)) ((ChgS.of_upd u2 (S := fpA c mb (e :: E)) (.inr rfl)).of_drw) fun _ _ h => h
  have m2 : Mm B w2 c q sz (E.length + 1) mb h m f1 (e :: E) := m1.of_drw.chg (ChgS.of_upd u2 (S := fun k => k = mb) rfl) fun k hk hn => emb k hk hn
  have lk2 : ∀ n, lk (put ML e.2.1 (pv e.1)) n = (fnd (e :: E) n).map fun e => pv e.1 := by
    intro n
    rw [lk_put, fnd_cons]
    by_cases hn : n = e.2.1
    · rw [if_pos hn, if_pos hn.symm]; rfl
    · rw [if_neg hn, if_neg (fun h => hn h.symm), hlk n hn]
  generalize put ML e.2.1 (pv e.1) = ML2 at *
  have c6 : (drw w2).cell? ⟨c, 6, none⟩ = some (.int .i64 ((E.length : Int) + 1)) := m2.c6
  have c1 : (drw w2).cell? ⟨c, 1, none⟩ = some (.int .i64 (sz : Int)) := by show w2.cell? _ = _; rw [cell_of_blk m2.cb]; rfl
  have c6' : w2.cell? ⟨c, 6, none⟩ = some (.int .i64 ((E.length : Int) + 1)) := c6
  have c1' : w2.cell? ⟨c, 1, none⟩ = some (.int .i64 (sz : Int)) := c1
  have m2d := m2.of_drw
  by_cases cg : sz < E.length + 1
  · have cg1 : (E.length : Int) + 1 > (sz : Int) := by omega
    have cg2 : (sz : Int) < (E.length : Int) + 1 := by omega
    obtain ⟨E2, z, hz⟩ : ∃ E2 z, e :: E = E2 ++ [z] := ⟨(e :: E).dropLast, (e :: E).getLast (by simp), (List.dropLast_concat_getLast (by simp)).symm⟩
    have hzl : E2.length = sz := by
      have := congrArg List.length hz
      rw [List.length_append, List.length_cons] at this
      simp only [List.length_cons, List.length_nil] at this
      omega
    have htk : (e :: E).take sz = E2 := by rw [hz, ← hzl, List.take_left']; rfl
    rw [htk] at kk
    have g2' : Ring f1 (nds E2 ++ [some z.1]) := by
      have : (some e.1 :: nds E : List Nd) = nds E2 ++ [some z.1] := by
        show nds (e :: E) = _
        rw [hz]; unfold nds; rw [List.map_append]; rfl
      rw [← this]; exact g2
    have hlast : (f1 none).1 = some z.1 := by rw [ring_last g2', lastD_snoc]
    have hnd3 : (none :: (nds E2 ++ some z.1 :: [])).Nodup := by
      have : (nds E2 ++ some z.1 :: [] : List Nd) = nds (e :: E) := by rw [hz]; unfold nds; rw [List.map_append]; rfl
      rw [this]
      exact nds_none m2.nd
    have zmem : z ∈ e :: E := by rw [hz]; simp
    have c2 : (drw w2).cell? ⟨c, 2, none⟩ = some (pv z.1) := by
      have := m2d.gP (y := none) (.inl rfl)
      rw [hlast] at this
      exact this
    have c2' : w2.cell? ⟨c, 2, none⟩ = some (pv z.1) := c2
    try simp only [↓reduceIte, ↓LL, LM, Value.cells, Nat.reduceAdd, Option.some.injEq, exists_eq_left', decide_true, decide_false, if_true, if_false, reduceCtorEq, cond_true, cond_false, c6, c1, c6', c1', cg1, cg2, c2, c2']
    obtain ⟨o1, o2, o3⟩ := ring_out (l1 := nds E2) (l2 := []) (x := some z.1) g2' hnd3
    have sub : ∀ y : Nd, y ∈ none :: (nds E2 ++ []) → InE (e :: E) y := fun y hy => by
      rw [List.append_nil] at hy
      rcases inE_of hy with h | ⟨a, ha, h⟩
      · exact .inl h
      · exact .inr ⟨a, by rw [hz]; exact List.mem_append_left _ ha, h⟩
    refine f76_s (e := z) m2d zmem (sub _ o1) (sub _ o2) (by omega) (by omega) fun w3 m3 hc3 => ?_
    rw [List.append_nil] at o3
    generalize setP (setN f1 (f1 (some z.1)).1 (f1 (some z.1)).2) (f1 (some z.1)).2 (f1 (some z.1)).1 = f3 at *
    have hmp3 : MapAt kI w3 mb ML2 := MapAt.stay (w := drw w2) hmp2 (hc3.block mb hmp2.lt fun hk => emb mb hk rfl)
    have hc3' : ChgS (fpA c mb (e :: E)) w w3 := hc2.trans ((hc3.mono fun k hk => .inl hk : ChgS (fpA c mb (e :: E)) (drw w2) w3).of_drw) fun _ _ h => h
    have d7 : (drw w3).cell? ⟨c, 7, none⟩ = some (.map (some mb)) := by show w3.cell? _ = _; rw [cell_of_blk m3.cb]; rfl
    have dz2 : (drw w3).cell? ⟨z.1, 2, none⟩ = some (.int .i64 z.2.1) := by show w3.cell? _ = _; rw [cell_of_blk (m3.lk z zmem)]; rfl
    have d7' : w3.cell? ⟨c, 7, none⟩ = some (.map (some mb)) := d7
    have dz2' : w3.cell? ⟨z.1, 2, none⟩ = some (.int .i64 z.2.1) := dz2
    try simp only [↓reduceIte, ↓LL, LM, Value.cells, Nat.reduceAdd, Option.some.injEq, exists_eq_left', decide_true, decide_false, if_true, if_false, reduceCtorEq, cond_true, cond_false, d7, dz2, d7', dz2']
    refine del_map (kv := kI) KKc (show MapAt kI (drw w3) mb ML2 from hmp3) z.2.1 fun w4 hmp4 u4 => ?_
    try simp only [↓reduceIte, ↓LL, LM, Value.cells, Nat.reduceAdd, Option.some.injEq, exists_eq_left', decide_true, decide_false, if_true, if_false, reduceCtorEq, cond_true, cond_false]
    have hnum : ((E2 ++ [z]).map (·.2.1)).Nodup := by rw [← hz]; exact hnk
    have m4 : Mm B w4 c q sz (E.length + 1 - 1) mb h m f3 (e :: E) := m3.of_drw.chg (ChgS.of_upd u4 (S := fun k => k = mb) rfl) fun k hk hn => emb k hk hn
    refine kk w4 ⟨?_, ⟨f3, ?_, o3⟩, hmB, ⟨_, hmp4, fun n => ?_⟩, ?_, by show E2.length ≤ sz; omega, h64⟩ (hc3'.trans ((ChgS.of_upd u4 (S := fpA c mb (e :: E)) (.inr rfl)).of_drw) fun _ _ h => h)
    · show useK sz e.2 (E.map (·.2)) = _
      unfold useK
      rw [show (e.2 :: E.map (·.2) : List Ch) = (e :: E).map (·.2) from rfl, ← List.map_take, htk]
    · have el : (E.length : Int) + 1 - 1 = ((E2.length : Nat) : Int) := by omega
      rw [el] at m4
      refine m4.sub ?_
      rw [hz]
      exact List.sublist_append_left _ _
    · rw [lk_del, lk2, hz, fnd_app]
      rw [List.map_append, List.nodup_append] at hnum
      by_cases hn : n = z.2.1
      · rw [if_pos hn, fnd_none (E := E2) (n := n) (fun hc => hnum.2.2 _ hc z.2.1 (by simp) hn)]; rfl
      · rw [if_neg hn]
        have : fnd [z] n = none := fnd_none (by simpa using hn)
        rw [this, Option.or_none]
    · show (nums (useK sz e.2 (E.map (·.2)))).Nodup
      unfold useK
      rw [show (e.2 :: E.map (·.2) : List Ch) = (e :: E).map (·.2) from rfl, ← List.map_take, nums_map]
      rw [List.map_take]
      exact hnk.sublist (List.take_sublist _ _)
  · have cg1 : ¬ (E.length : Int) + 1 > (sz : Int) := by omega
    have cg2 : ¬ (sz : Int) < (E.length : Int) + 1 := by omega
    have htk : (e :: E).take sz = e :: E := List.take_of_length_le (by rw [List.length_cons]; omega)
    rw [htk] at kk
    try simp only [↓reduceIte, ↓LL, LM, Value.cells, Nat.reduceAdd, Option.some.injEq, exists_eq_left', decide_true, decide_false, if_true, if_false, reduceCtorEq, cond_true, cond_false, c6, c1, c6', c1', cg1, cg2]
    have el : (E.length : Int) + 1 = (((e :: E).length : Nat) : Int) := by rw [List.length_cons]; omega
    rw [el] at m2d
    refine kk (drw w2) ⟨?_, ⟨f1, m2d, g2⟩, hmB, ⟨ML2, hmp2, lk2⟩, ?_, by rw [List.length_cons]; show E.length + 1 ≤ sz; omega, h64⟩ hc2.drw
    · show useK sz e.2 (E.map (·.2)) = _
      unfold useK
      rw [show (e.2 :: E.map (·.2) : List Ch) = (e :: E).map (·.2) from rfl, ← List.map_take, htk]
    · show (nums (useK sz e.2 (E.map (·.2)))).Nodup
      unfold useK
      rw [show (e.2 :: E.map (·.2) : List Ch) = (e :: E).map (·.2) from rfl, ← List.map_take, nums_map, htk]
      exact hnk
end
end Go.Proofs.YtongpnolikkknaaGreatDoor

set_option maxRecDepth 20000
set_option maxHeartbeats 4000000
namespace Go.Proofs.YtongpnolikkknaaGreatDoor
open Sh RowKit Go.MapKept
theorem buildP1 (n : Int) (s : ByteArray) (w : World) : (Instr.build 118 #[(0, .int .i64 n), (1, .string s)]).run Tryz.prog w = .ok (.agg #[.int .i64 n, .string s]) w := by
  kernel_rfl
theorem buildL1 (n : Int) (s : ByteArray) (w : World) : (Instr.build 120 #[(2, .agg #[.int .i64 n, .string s])]).run Tryz.prog w = .ok (.agg #[.pointer none, .pointer none, .int .i64 n, .string s]) w := by
  kernel_rfl
theorem buildCa (q mb : Nat) (n : Int) (w : World) : (Instr.build 124 #[(0, pv q), (1, .int .i64 n), (3, .map (some mb))]).run Tryz.prog w = .ok (.agg #[pv q, .int .i64 n, .pointer none, .pointer none, .int .i64 0, .string ⟨#[]⟩, .int .i64 0, .map (some mb), .int .i64 0, .int .i64 0]) w := by
  kernel_rfl
theorem filter_out {l1 l2 : List (Nat × Ch)} {e : Nat × Ch} (h : ((l1 ++ e :: l2).map (·.2.1)).Nodup) : (((l1 ++ e :: l2).map (·.2)).filter fun y => decide (y.1 ≠ e.2.1)) = (l1 ++ l2).map (·.2) := by
  rw [List.map_append, List.map_cons, List.filter_append, List.filter_cons_of_neg (by simp), List.map_append]
  rw [List.map_append, List.map_cons, List.nodup_append, List.nodup_cons] at h
  obtain ⟨_, ⟨h2, _⟩, h3⟩ := h
  congr 1
  · refine List.filter_eq_self.2 fun a ha => ?_
    obtain ⟨x, hx, rfl⟩ := List.mem_map.1 ha
    simp only [decide_eq_true_eq]
    exact fun hc => h3 x.2.1 (List.mem_map.2 ⟨x, hx, rfl⟩) e.2.1 (List.mem_cons_self ..) hc
  · refine List.filter_eq_self.2 fun a ha => ?_
    obtain ⟨x, hx, rfl⟩ := List.mem_map.1 ha
    simp only [decide_eq_true_eq]
    exact fun hc => h2 (List.mem_map.2 ⟨x, hx, hc⟩)
theorem fnd_skip {l1 l2 : List (Nat × Ch)} {e : Nat × Ch} {n : Int} (hn : n ≠ e.2.1) : fnd (l1 ++ e :: l2) n = fnd (l1 ++ l2) n := by
  rw [fnd_app, fnd_app, fnd_cons, if_neg (fun h => hn h.symm)]
section
variable {B : Nat} {W w w' : World} {c q mb : Nat} {sz : Nat} {h m n : Int} {f : Nd → Nd × Nd} {E : List (Nat × Ch)} {C : Ca} {L : List ByteArray} {p : Nat} {u st cc : Value} {Bp : Nat} {Q : Value → World → Prop}
theorem CaAt.cb (hc : CaAt B w c q mb C E) : ∃ f, w.heap[c]? = some (.cells (cCell c q C.sz E.length mb C.h C.m f) 124 (0, 0)) := by
  obtain ⟨f, hm, _⟩ := hc.rg
  exact ⟨f, hm.cb⟩
theorem f28_s (hc : CaAt B w c q mb C E) (hq : w.heap[q]? = some (.cells #[pv p, u, st, cc] 133 (0, 0))) (hu : ownV Bp 9 w u (L.map .string)) (kk : Q (.int .i64 (L.length : Nat)) w) : f28 (pv c) w Q := by
  obtain ⟨f, hb⟩ := hc.cb
  unfold f28
  rw [pn_eq ptK]
  have c0 : w.cell? ⟨c, 0, none⟩ = some (pv q) := by rw [cell_of_blk hb]; rfl
  try simp only [↓reduceIte, ↓LL, LM, Value.cells, Nat.reduceAdd, Option.some.injEq, exists_eq_left', decide_true, decide_false, if_true, if_false, reduceCtorEq, cond_true, cond_false, Option.isNone, c0]
  refine f79_s hq hu ?_
  try simp only [↓reduceIte, ↓LL, LM, Value.cells, Nat.reduceAdd, Option.some.injEq, exists_eq_left', decide_true, decide_false, if_true, if_false, reduceCtorEq, cond_true, cond_false]
  exact kk
theorem f27_s (hc : CaAt B w c q mb C E) (hq : w.heap[q]? = some (.cells #[pv p, u, st, cc] 133 (0, 0))) (hu : ownV Bp 9 w u (L.map .string)) (h0 : 0 ≤ C.h) (h1 : C.h ≤ 1000000) (m0 : 0 ≤ C.m) (m1 : C.m ≤ 1000000)
    (kk : ∀ w' E', CaAt B w' c q mb (rdC C L n).2 E' → ChgS (fpA c mb E) w w' → (∀ k, fpA c mb E' k → fpA c mb E k ∨ w.heap.size ≤ k) → Q (.tuple #[.string (rdC C L n).1.1, .int .i64 (rdC C L n).1.2]) w') : f27 (pv c) (.int .i64 n) w Q := by
  unfold f27
  rw [pn_eq ptK]
  obtain ⟨f, hm, hr⟩ := hc.rg
  obtain ⟨ML, hmp, hlk⟩ := hc.mp
  have hmne := hm.mne hmp
  have c7 : w.cell? ⟨c, 7, none⟩ = some (.map (some mb)) := by rw [cell_of_blk hm.cb]; rfl
  have hlook : ∀ (K : Value → M), smr Tryz.prog (Instr.lookup 115 (.map (some mb)) (.int .i64 n) true) K w Q = K (.tuple #[((fnd E n).map fun e => pv e.1).getD (.pointer none), .bool ((fnd E n).map fun e => pv e.1).isSome]) w Q := fun K => by
    rw [show (Value.int .i64 n) = kI n from rfl, look_ok (kv := kI) KKc hmp zC n, hlk n]
  have hKf : C.K.find? (fun x => decide (x.1 = n)) = (fnd E n).map (·.2) := by rw [hc.K, find_fnd]
  have hnn : (E.map (·.2.1)).Nodup := by have := hc.nk; rwa [hc.K, nums_map] at this
  have hl64 := hc.l64
  have hle := hc.le
  cases hf : fnd E n with
  | some e =>
    rw [hf] at hlook hKf
    obtain ⟨hemem, hen⟩ := fnd_mem hf
    obtain ⟨l1, l2, hE⟩ := List.append_of_mem hemem
    have eR : rdC C L n = ((e.2.2, 0), { C with K := useK C.sz e.2 (C.K.filter fun y => decide (y.1 ≠ n)), h := C.h + 1 }) := by unfold rdC; rw [hKf]; rfl
    rw [eR] at kk
    have hfil : (C.K.filter fun y => decide (y.1 ≠ n)) = (l1 ++ l2).map (·.2) := by
      rw [hc.K, hE, ← hen]
      rw [hE] at hnn
      exact filter_out hnn
    rw [hfil] at kk
    have c8 : w.cell? ⟨c, 8, none⟩ = some (.int .i64 C.h) := by rw [cell_of_blk hm.cb]; rfl
    have ew : IntKind.i64.wrap (C.h + 1) = C.h + 1 := w64 (by omega) (by omega)
    have g0 : (((some e).map fun e : Nat × Ch => pv e.1).getD (.pointer none)) = pv e.1 := rfl
    have g1 : ((some e).map fun e : Nat × Ch => pv e.1).isSome = true := rfl
    try simp only [↓reduceIte, ↓LL, LM, Value.cells, Nat.reduceAdd, Option.some.injEq, exists_eq_left', decide_true, decide_false, if_true, if_false, reduceCtorEq, cond_true, cond_false, Option.isNone, c7, hlook, g0, g1, get0, get1, c8, ew]
    refine hm.sI (h' := C.h + 1) (n' := E.length) (m' := C.m) (by decide) rfl fun w1 mm1 gg1 => ?_
    have s1 : ChgS (fpA c mb E) w w1 := gg1 _ fun k hk => .inl hk
    have nds3 : (none :: (nds l1 ++ some e.1 :: nds l2)).Nodup := by
      have : (nds l1 ++ some e.1 :: nds l2 : List Nd) = nds E := by rw [hE]; unfold nds; rw [List.map_append]; rfl
      rw [this]; exact nds_none hm.nd
    have hr' : Ring f (nds l1 ++ some e.1 :: nds l2) := by
      have : (nds l1 ++ some e.1 :: nds l2 : List Nd) = nds E := by rw [hE]; unfold nds; rw [List.map_append]; rfl
      rw [this]; exact hr
    obtain ⟨o1, o2, o3⟩ := ring_out hr' nds3
    have enl : (nds l1 ++ nds l2 : List Nd) = nds (l1 ++ l2) := by unfold nds; rw [List.map_append]
    rw [enl] at o1 o2 o3
    have hsub : (l1 ++ l2).Sublist E := by rw [hE]; exact List.Sublist.append_left (List.sublist_cons_self ..) _
    have sub : ∀ y : Nd, y ∈ none :: nds (l1 ++ l2) → InE E y := fun y hy => by
      rcases inE_of hy with h | ⟨a, ha, h⟩
      · exact .inl h
      · exact .inr ⟨a, hsub.subset ha, h⟩
    try simp only [↓reduceIte, ↓LL, LM, Value.cells, Nat.reduceAdd, Option.some.injEq, exists_eq_left', decide_true, decide_false, if_true, if_false, reduceCtorEq, cond_true, cond_false]
    refine f76_s (e := e) mm1 hemem (sub _ o1) (sub _ o2) (by omega) (by omega) fun w2 mm2 hc2 => ?_
    generalize setP (setN f (f (some e.1)).1 (f (some e.1)).2) (f (some e.1)).2 (f (some e.1)).1 = f2 at *
    have s2 : ChgS (fpA c mb E) w w2 := s1.trans (hc2.mono fun k hk => .inl hk) fun _ _ h => h
    have ss2 : ChgS (fpM c E) w w2 := (gg1 _ fun _ h => h).trans hc2 fun _ _ h => h
    have hmp2 : MapAt kI w2 mb ML := hmp.stay (ss2.block mb hmp.lt fun hk => hmne mb hk rfl)
    have hblk := mm2.lk e hemem
    have el : (E.length : Int) - 1 = (((l1 ++ l2).length : Nat) : Int) := by rw [hE]; simp only [List.length_append, List.length_cons]; omega
    rw [el] at mm2
    have hndE : ((l1 ++ e :: l2).map (·.1)).Nodup := by rw [← hE]; exact hm.nd
    have hne : e.1 ∉ (l1 ++ l2).map (·.1) := by
      rw [List.map_append, List.map_cons, List.nodup_append, List.nodup_cons] at hndE
      obtain ⟨_, ⟨h2, _⟩, h3⟩ := hndE
      rw [List.map_append, List.mem_append]
      rintro (hx | hx)
      · exact h3 _ hx _ (List.mem_cons_self ..) rfl
      · exact h2 hx
    have hperm : (e :: (l1 ++ l2)).Perm E := by rw [hE]; exact List.perm_middle.symm
    try simp only [↓reduceIte, ↓LL, LM, Value.cells, Nat.reduceAdd, Option.some.injEq, exists_eq_left', decide_true, decide_false, if_true, if_false, reduceCtorEq, cond_true, cond_false]
    refine f77_s (e := e) (mm2.sub hsub) o3 hne (hm.eB e hemem) hblk hc.mB hmp2 (fun n' hn' => by rw [hlk n', hE, fnd_skip hn']) (by have := hperm.length_eq; rw [List.length_cons] at this; omega) hl64 (((hperm.map _).nodup_iff).2 hnn) fun w3 ca3 hc3 => ?_
    have hlen : (e :: (l1 ++ l2)).length ≤ C.sz := by rw [hperm.length_eq]; exact hle
    rw [List.take_of_length_le hlen] at ca3
    obtain ⟨f3, mm3, _⟩ := ca3.rg
    have c3 : w3.cell? ⟨e.1, 3, none⟩ = some (.string e.2.2) := by rw [cell_of_blk (mm3.lk e (List.mem_cons_self ..))]; rfl
    have hfp : ∀ k, fpA c mb (e :: (l1 ++ l2)) k → fpA c mb E k := by
      rintro k ((rfl | ⟨a, ha, rfl⟩) | rfl)
      · exact .inl (.inl rfl)
      · exact .inl (.inr ⟨a, hperm.mem_iff.1 ha, rfl⟩)
      · exact .inr rfl
    try simp only [↓reduceIte, ↓LL, LM, Value.cells, Nat.reduceAdd, Option.some.injEq, exists_eq_left', decide_true, decide_false, if_true, if_false, reduceCtorEq, cond_true, cond_false, c3]
    exact kk w3 _ ca3 (s2.trans (hc3.mono hfp) fun _ _ h => h) fun k hk => .inl (hfp k hk)
  | none =>
    rw [hf] at hlook hKf
    have g1 : ((none : Option (Nat × Ch)).map fun e => pv e.1).isSome = false := rfl
    have c0 : w.cell? ⟨c, 0, none⟩ = some (pv q) := by rw [cell_of_blk hm.cb]; rfl
    have c9 : w.cell? ⟨c, 9, none⟩ = some (.int .i64 C.m) := by rw [cell_of_blk hm.cb]; rfl
    have ew : IntKind.i64.wrap (C.m + 1) = C.m + 1 := w64 (by omega) (by omega)
    have eR : rdC C L n = if (pgR L n).2 = 0 then (((pgR L n).1, 0), { C with K := useK C.sz (n, (pgR L n).1) C.K, m := C.m + 1 }) else ((⟨#[]⟩, (pgR L n).2), C) := by unfold rdC; rw [hKf]; rfl
    try simp only [↓reduceIte, ↓LL, LM, Value.cells, Nat.reduceAdd, Option.some.injEq, exists_eq_left', decide_true, decide_false, if_true, if_false, reduceCtorEq, cond_true, cond_false, Option.isNone, c7, hlook, g1, get0, get1, c0]
    refine f78_s hq hu ?_
    by_cases cz : (pgR L n).2 = 0
    · rw [if_pos cz] at eR
      rw [eR] at kk
      generalize (pgR L n).1 = s at *
      try simp only [↓reduceIte, ↓LL, LM, Value.cells, Nat.reduceAdd, Option.some.injEq, exists_eq_left', decide_true, decide_false, if_true, if_false, reduceCtorEq, cond_true, cond_false, get0, get1, ne_eq, cz, c9, ew]
      refine hm.sI (h' := C.h) (n' := E.length) (m' := C.m + 1) (by decide) rfl fun w1 mm1 gg1 => ?_
      try simp only [↓reduceIte, ↓LL, LM, Value.cells, Nat.reduceAdd, Option.some.injEq, exists_eq_left', decide_true, decide_false, if_true, if_false, reduceCtorEq, cond_true, cond_false]
      rw [smr_run (buildP1 n s w1)]
      try simp only [↓reduceIte, ↓LL, LM, Value.cells, Nat.reduceAdd, Option.some.injEq, exists_eq_left', decide_true, decide_false, if_true, if_false, reduceCtorEq, cond_true, cond_false]
      rw [smr_run (buildL1 n s w1)]
      have b2 := b_psh w1 (.cells #[.pointer none, .pointer none, .int .i64 n, .string s] 120)
      have k2 := blk_psh_new (w := w1) (o := .cells #[.pointer none, .pointer none, .int .i64 n, .string s] 120)
      try simp only [↓reduceIte, ↓LL, LM, Value.cells, Nat.reduceAdd, Option.some.injEq, exists_eq_left', decide_true, decide_false, if_true, if_false, reduceCtorEq, cond_true, cond_false]
      generalize psh w1 (.cells #[.pointer none, .pointer none, .int .i64 n, .string s] 120) = w2 at *
      have ss1 : ChgS (fpM c E) w w1 := gg1 _ fun _ h => h
      have s1 : ChgS (fpA c mb E) w w1 := gg1 _ fun k hk => .inl hk
      have z1 : w.heap.size ≤ w1.heap.size := ss1.size
      have hmp2 : MapAt kI w2 mb ML := (hmp.stay (ss1.block mb hmp.lt fun hk => hmne mb hk rfl)).below b2
      have mm2 := mm1.below b2
      have hlt := hm.lt
      have hnew : w1.heap.size ∉ E.map (·.1) := fun hx => by
        obtain ⟨a, ha, hx⟩ := List.mem_map.1 hx
        have := hlt a.1 (.inr ⟨a, ha, rfl⟩)
        omega
      have hcB : B ≤ w.heap.size := Nat.le_trans hm.cB (Nat.le_of_lt (hlt c (.inl rfl)))
      have hnot : n ∉ E.map (·.2.1) := by
        intro hx
        obtain ⟨a, ha, hx⟩ := List.mem_map.1 hx
        have := List.find?_eq_none.1 hf a ha
        simp only [decide_eq_true_eq] at this
        exact this hx
      refine f77_s (e := (w1.heap.size, (n, s))) mm2 hr hnew (Nat.le_trans hcB z1) k2 hc.mB hmp2 (fun n' hn' => hlk n') hle hl64 (List.nodup_cons.2 ⟨hnot, hnn⟩) fun w3 ca3 hc3 => ?_
      try simp only [↓reduceIte, ↓LL, LM, Value.cells, Nat.reduceAdd, Option.some.injEq, exists_eq_left', decide_true, decide_false, if_true, if_false, reduceCtorEq, cond_true, cond_false]
      rw [← hc.K] at ca3
      refine kk w3 _ ca3 ((s1.trans (ChgS.of_below b2) fun _ _ h => h).trans hc3 fun k hk h => ?_) fun k hk => ?_
      · rcases h with (rfl | ⟨a, ha, rfl⟩) | rfl
        · exact .inl (.inl rfl)
        · rcases List.mem_cons.1 ha with rfl | ha
          · exfalso
            have hk : w1.heap.size < w.heap.size := hk
            omega
          · exact .inl (.inr ⟨a, ha, rfl⟩)
        · exact .inr rfl
      · rcases hk with (rfl | ⟨a, ha, rfl⟩) | rfl
        · exact .inl (.inl (.inl rfl))
        · rcases List.mem_cons.1 (List.mem_of_mem_take ha) with rfl | ha
          · exact .inr z1
          · exact .inl (.inl (.inr ⟨a, ha, rfl⟩))
        · exact .inl (.inr rfl)
    · rw [if_neg cz] at eR
      rw [eR] at kk
      try simp only [↓reduceIte, ↓LL, LM, Value.cells, Nat.reduceAdd, Option.some.injEq, exists_eq_left', decide_true, decide_false, if_true, if_false, reduceCtorEq, cond_true, cond_false, get0, get1, ne_eq, cz]
      exact kk w E hc (ChgS.refl _ _) fun k hk => .inl hk
end
end Go.Proofs.YtongpnolikkknaaGreatDoor

set_option maxRecDepth 20000
set_option maxHeartbeats 4000000
namespace Go.Proofs.YtongpnolikkknaaGreatDoor
open Sh RowKit Go.MapKept
def szN (n : Int) : Nat := (min (max n 0) 64).toNat
theorem szN_64 (n : Int) : szN n ≤ 64 := by unfold szN; omega
section
variable {B : Nat} {W w w' : World} {c q mb : Nat} {sz : Nat} {h m n : Int} {f : Nd → Nd × Nd} {E : List (Nat × Ch)} {C : Ca} {L : List ByteArray} {p : Nat} {u st cc : Value} {Bp : Nat} {Q : Value → World → Prop}
theorem f75_s {x : Int} {va vb : Value} (hb : w.heap[c]? = some (.cells #[pv q, .int .i64 x, va, vb, .int .i64 0, .string ⟨#[]⟩, .int .i64 0, .map (some mb), .int .i64 0, .int .i64 0] 124 (0, 0)))
    (kk : ∀ w', w'.heap[c]? = some (.cells (cCell c q x 0 mb 0 0 fun _ => (none, none)) 124 (0, 0)) → ChgS (fun k => k = c) w w' → Q (.tuple #[]) w') : f75 (.pointer (some ⟨c, 2, none⟩)) w Q := by
  unfold f75
  try simp only [↓reduceIte, ↓LL, LM, Value.cells, Nat.reduceAdd, Option.some.injEq, exists_eq_left', decide_true, decide_false, if_true, if_false, reduceCtorEq, cond_true, cond_false]
  refine st_box (w := drw w) (o := 2) (v := Pp c none) (show (drw w).heap[c]? = _ from hb) (by show 2 < 10; decide) rfl fun w1 h1 u1 => ?_
  try simp only [↓reduceIte, ↓LL, LM, Value.cells, Nat.reduceAdd, Option.some.injEq, exists_eq_left', decide_true, decide_false, if_true, if_false, reduceCtorEq, cond_true, cond_false]
  refine st_box (o := 3) (v := Pp c none) h1 (by show 3 < 10; decide) rfl fun w2 h2 u2 => ?_
  try simp only [↓reduceIte, ↓LL, LM, Value.cells, Nat.reduceAdd, Option.some.injEq, exists_eq_left', decide_true, decide_false, if_true, if_false, reduceCtorEq, cond_true, cond_false]
  refine kk w2 h2 ?_
  have s1 : ChgS (fun k => k = c) (drw w) w1 := ChgS.of_upd u1 rfl
  exact (s1.trans (ChgS.of_upd u2 (S := fun k => k = c) rfl) fun _ _ h => h).of_drw
theorem f23_s {n : Int} (kk : ∀ w' c mb, w.heap.size ≤ c → w.heap.size ≤ mb → CaAt w.heap.size w' c q mb ⟨szN n, [], 0, 0⟩ [] → Below w.heap.size w w' → Q (pv c) w') : f23 (pv q) (.int .i64 n) w Q := by
  unfold f23
  rw [pn_eq pt49]
  try simp only [↓reduceIte, ↓LL, LM, Value.cells, Nat.reduceAdd, Option.some.injEq, exists_eq_left', decide_true, decide_false, if_true, if_false, reduceCtorEq, cond_true, cond_false, Option.isNone]
  have e : (if (64 : Int) < (if n < 0 then 0 else n) then 64 else (if n < 0 then 0 else n)) = ((szN n : Nat) : Int) := by unfold szN; omega
  rw [e]
  refine mm_map (kv := kI) fun w1 hm1 b1 => ?_
  try simp only [↓reduceIte, ↓LL, LM, Value.cells, Nat.reduceAdd, Option.some.injEq, exists_eq_left', decide_true, decide_false, if_true, if_false, reduceCtorEq, cond_true, cond_false]
  rw [smr_run (buildCa q w.heap.size _ w1)]
  have b2 := b_psh w1 (.cells #[pv q, .int .i64 ((szN n : Nat) : Int), .pointer none, .pointer none, .int .i64 0, .string ⟨#[]⟩, .int .i64 0, .map (some w.heap.size), .int .i64 0, .int .i64 0] 124)
  have k2 := blk_psh_new (w := w1) (o := .cells #[pv q, .int .i64 ((szN n : Nat) : Int), .pointer none, .pointer none, .int .i64 0, .string ⟨#[]⟩, .int .i64 0, .map (some w.heap.size), .int .i64 0, .int .i64 0] 124)
  try simp only [↓reduceIte, ↓LL, LM, Value.cells, Nat.reduceAdd, Option.some.injEq, exists_eq_left', decide_true, decide_false, if_true, if_false, reduceCtorEq, cond_true, cond_false]
  generalize psh w1 (.cells #[pv q, .int .i64 ((szN n : Nat) : Int), .pointer none, .pointer none, .int .i64 0, .string ⟨#[]⟩, .int .i64 0, .map (some w.heap.size), .int .i64 0, .int .i64 0] 124) = w2 at *
  have hm2 : MapAt kI w2 w.heap.size ([] : List (Int × Value)) := hm1.below b2
  have z1 : w.heap.size ≤ w1.heap.size := b1.size
  have zc : w1.heap.size ≠ w.heap.size := by have := hm1.lt; omega
  refine f75_s k2 fun w3 h3 hc3 => ?_
  try simp only [↓reduceIte, ↓LL, LM, Value.cells, Nat.reduceAdd, Option.some.injEq, exists_eq_left', decide_true, decide_false, if_true, if_false, reduceCtorEq, cond_true, cond_false]
  refine kk w3 w1.heap.size w.heap.size z1 (Nat.le_refl _) ⟨rfl, ⟨fun _ => (none, none), ⟨z1, fun e he => by simp at he, h3, fun e he => by simp at he, List.nodup_nil⟩, ?_⟩, Nat.le_refl _, ⟨[], hm2.stay (hc3.block _ hm2.lt fun h => zc h.symm), fun n => rfl⟩, List.nodup_nil, Nat.zero_le _, szN_64 n⟩ ((bt b1 b2).trans (hc3.below (fun k hk => by rw [hk]; exact z1) (bt b1 b2).size))
  intro p hp
  have hp : p ∈ [((none : Nd), (none : Nd))] := hp
  rw [List.mem_singleton.1 hp]
  exact ⟨rfl, rfl⟩
end
end Go.Proofs.YtongpnolikkknaaGreatDoor

set_option maxRecDepth 20000
set_option maxHeartbeats 4000000
namespace Go.Proofs.YtongpnolikkknaaGreatDoor
open Sh RowKit Go.MapKept
/-- what reads leave: the numbers, the one used last first; hits; misses -/
structure Stk where
  T : List Int
  h : Int
  m : Int
structure CInv (C : Ca) (sz N : Nat) (s : Stk) : Prop where
  size : C.sz = sz
  T : nums C.K = s.T.take sz
  nd : s.T.Nodup
  bd : ∀ t ∈ s.T, 0 ≤ t ∧ t < (N : Int)
  h : C.h = s.h
  m : C.m = s.m
/-- each page that is kept is as the pager has it -/
def Good (C : Ca) (L : List ByteArray) : Prop := ∀ x ∈ C.K, 0 ≤ x.1 ∧ L[x.1.toNat]? = some x.2
theorem Good.rd {C : Ca} {L : List ByteArray} {n : Int} (hg : Good C L) : (rdC C L n).1 = pgR L n ∧ Good (rdC C L n).2 L := by
  unfold rdC
  cases hf : C.K.find? (fun x => decide (x.1 = n)) with
  | some x =>
    obtain ⟨h1, h2⟩ := find_mem hf
    obtain ⟨q0, q1⟩ := hg x h1
    have hlt := (List.getElem?_eq_some_iff.1 q1).1
    have ep : pgR L n = (x.2, 0) := by
      unfold pgR
      rw [← h2, if_pos ⟨q0, by omega⟩, List.getD_eq_getElem?_getD, q1]; rfl
    rw [ep]
    refine ⟨rfl, fun y hy => ?_⟩
    rcases List.mem_cons.1 (List.mem_of_mem_take (show y ∈ (x :: C.K.filter fun y => decide (y.1 ≠ n)).take C.sz from hy)) with rfl | hy
    · exact ⟨q0, q1⟩
    · exact hg y (List.mem_filter.1 hy).1
  | none =>
    simp only
    by_cases c : (pgR L n).2 = 0
    · rw [if_pos c]
      refine ⟨by rw [← c], fun y hy => ?_⟩
      rcases List.mem_cons.1 (List.mem_of_mem_take (show y ∈ ((n, (pgR L n).1) :: C.K).take C.sz from hy)) with rfl | hy
      · have : 0 ≤ n ∧ n < (L.length : Int) := by
          apply Classical.byContradiction
          intro hn
          unfold pgR at c
          rw [if_neg hn] at c
          cases c
        refine ⟨this.1, ?_⟩
        show L[n.toNat]? = some (pgR L n).1
        unfold pgR
        rw [if_pos this, List.getD_eq_getElem?_getD, List.getElem?_eq_getElem (by omega)]; rfl
      · exact hg y hy
    · rw [if_neg c]
      refine ⟨?_, hg⟩
      unfold pgR at c ⊢
      by_cases hn : 0 ≤ n ∧ n < (L.length : Int)
      · rw [if_pos hn] at c; exact absurd rfl c
      · rw [if_neg hn]
/-- a cache and its pager -/
structure CP (B : Nat) (w : World) (c q mb p b : Nat) (v u : Value) (C : Ca) (E : List (Nat × Ch)) (G : Pg) (D : Dv) : Prop where
  ca : CaAt B w c q mb C E
  pg : PgAt B w q p b v u G D
  ap : ∀ k, fpA c mb E k → ¬ fpP q p b v u k
def fpX (c q mb p b : Nat) (v u : Value) (E : List (Nat × Ch)) : Nat → Prop := fun k => fpA c mb E k ∨ fpP q p b v u k
section
variable {B : Nat} {W w w' : World} {c q mb p b : Nat} {v u : Value} {C : Ca} {E : List (Nat × Ch)} {G : Pg} {D : Dv} {Q : Value → World → Prop}
theorem CP.below (h : CP B w c q mb p b v u C E G D) (hb : Below w.heap.size w w') : CP B w' c q mb p b v u C E G D := ⟨h.ca.below hb, h.pg.below hb, h.ap⟩
theorem CP.chg {S : Nat → Prop} (h : CP B w c q mb p b v u C E G D) (hc : ChgS S w w') (hS : ∀ k, fpX c q mb p b v u E k → ¬ S k) : CP B w' c q mb p b v u C E G D := ⟨h.ca.chg hc fun k hk => hS k (.inl hk), h.pg.chg hc fun k hk => hS k (.inr hk), h.ap⟩
theorem CP.fpB (h : CP B w c q mb p b v u C E G D) : ∀ k, fpX c q mb p b v u E k → B ≤ k := by
  rintro k (hk | hk)
  · exact h.ca.fpB k hk
  · exact h.pg.fpB k hk
theorem CP.lt (h : CP B w c q mb p b v u C E G D) : ∀ k, fpX c q mb p b v u E k → k < w.heap.size := by
  rintro k (hk | hk)
  · exact h.ca.lt k hk
  · exact h.pg.lt k hk
theorem CP.read {n : Int} (h : CP B w c q mb p b v u C E G D) (h0 : 0 ≤ C.h) (h1 : C.h ≤ 1000000) (m0 : 0 ≤ C.m) (m1 : C.m ≤ 1000000)
    (kk : ∀ w' E', CP B w' c q mb p b v u (rdC C G.L n).2 E' G D → ChgS (fpX c q mb p b v u E) w w' → (∀ k, fpX c q mb p b v u E' k → fpX c q mb p b v u E k ∨ w.heap.size ≤ k) → Q (.tuple #[.string (rdC C G.L n).1.1, .int .i64 (rdC C G.L n).1.2]) w') : f27 (pv c) (.int .i64 n) w Q := by
  refine f27_s h.ca h.pg.hq h.pg.hu h0 h1 m0 m1 fun w' E' hc' hg hk => ?_
  refine kk w' E' ⟨hc', h.pg.chg hg fun k hp hn => h.ap k hn hp, fun k hk' hp => ?_⟩ (hg.mono fun k hk => .inl hk) fun k hk' => ?_
  · rcases hk k hk' with hk | hk
    · exact h.ap k hk hp
    · have := h.pg.lt k hp
      omega
  · rcases hk' with hk' | hk'
    · rcases hk k hk' with hk | hk
      · exact .inl (.inl hk)
      · exact .inr hk
    · exact .inl (.inr hk')
theorem cp_new {n : Int} (h : PgAt B w q p b v u G D) (hB : B ≤ w.heap.size) (kk : ∀ w' c mb, CP B w' c q mb p b v u ⟨szN n, [], 0, 0⟩ [] G D → (∀ k, fpA c mb [] k → w.heap.size ≤ k) → Below w.heap.size w w' → Q (pv c) w') : f23 (pv q) (.int .i64 n) w Q := by
  refine f23_s fun w' c mb h1 h2 hc hb => ?_
  have hfp : ∀ k, fpA c mb [] k → w.heap.size ≤ k := hc.fpB
  obtain ⟨f, hm, hr⟩ := hc.rg
  refine kk w' c mb ⟨⟨hc.K, ⟨f, ⟨Nat.le_trans hB hm.cB, fun e he => by simp at he, hm.cb, hm.lk, hm.nd⟩, hr⟩, Nat.le_trans hB hc.mB, hc.mp, hc.nk, hc.le, hc.l64⟩, h.below hb, fun k hk hp => ?_⟩ hfp hb
  have := hfp k hk
  have := h.lt k hp
  omega
end
end Go.Proofs.YtongpnolikkknaaGreatDoor

set_option maxRecDepth 20000
set_option maxHeartbeats 4000000
namespace Go.Proofs.YtongpnolikkknaaGreatDoor
open Sh RowKit Go.MapKept
theorem rep_256 (m : Nat) : ∀ s ∈ List.replicate m (zs 256), s.size = 256 := fun s hs => by rw [List.eq_of_mem_replicate hs]; exact zs_size 256
section
variable {B : Nat} {W w w' : World} {c q mb p b : Nat} {v u vr vs : Value} {C : Ca} {E : List (Nat × Ch)} {G : Pg} {D : Dv} {Q : Value → World → Prop}
end
end Go.Proofs.YtongpnolikkknaaGreatDoor

set_option maxRecDepth 20000
set_option maxHeartbeats 4000000
namespace Go.Proofs.YtongpnolikkknaaGreatDoor
open Sh RowKit Go.MapKept
structure Op7 where
  n : Int
  b : Int
  wr : Bool
theorem rep_len (m : Nat) : (List.replicate m (zs 256)).length = m := List.length_replicate
section
variable {B : Nat} {W w w' : World} {c q mb p b : Nat} {v u vr vs : Value} {C : Ca} {E : List (Nat × Ch)} {G : Pg} {D : Dv} {Q : Value → World → Prop}
end
end Go.Proofs.YtongpnolikkknaaGreatDoor

namespace Go.Proofs.YtongpnolikkknaaGreatDoor
open Sh RowKit Go.MapKept
end Go.Proofs.YtongpnolikkknaaGreatDoor

namespace Go.Proofs.YtongpnolikkknaaGreatDoor
open Sh RowKit Go.MapKept
end Go.Proofs.YtongpnolikkknaaGreatDoor

namespace Go.Proofs.YtongpnolikkknaaGreatDoor
open Sh RowKit Go.MapKept
def RiLi : World → List Value → Int × List Int → Prop := fun W vs x => ∃ v, vs = [.int .i64 x.1, v] ∧ rdI .i64 W v x.2
theorem oaiLi : OpensA Tryz.prog [3, 22] (Int × List Int) RiLi (fun _ => 0) := by
  refine OpensA.mono (oa_one (op_int ui) scI (fun w cs a h => ⟨_, h.1⟩) (oa_one (op_slice uli (n := 1) (by kernel_rfl) (op_int ui)) scL (fun w cs a h => ⟨_, h.choose_spec.1⟩) oa_nil)) ?_
  rintro W vs ⟨n, l, ⟨⟩⟩ ⟨v, r, rfl, ⟨h1, _⟩, v2, r2, rfl, ⟨v', hv, hr, hl⟩, rfl⟩
  exact ⟨(n, l), ⟨v2, by rw [one_cell h1], by rw [one_cell hv]; exact (ints_rdk hr).1⟩, Nat.zero_le _⟩
end Go.Proofs.YtongpnolikkknaaGreatDoor

set_option maxRecDepth 20000
namespace Go.Proofs.YtongpnolikkknaaGreatDoor
open Sh RowKit Go.MapKept
def bytN (U : List Nat) (n : Nat) : Nat := U.getD (n / 8) 0
def isB (U : List Nat) (n : Nat) : Bool := (bytN U n).testBit (n % 8)
def trnB (U : List Nat) (n : Nat) : List Nat := U.set (n / 8) (bytN U n ^^^ 2 ^ (n % 8))
structure UOk (U : List Nat) : Prop where
  len : U.length = 20
  bd : ∀ x ∈ U, x < 256
theorem bytN_lt {U : List Nat} (h : UOk U) (n : Nat) : bytN U n < 256 := by
  unfold bytN
  rw [List.getD_eq_getElem?_getD]
  cases hx : U[n / 8]? with
  | none => simp
  | some x => exact h.bd x (List.mem_of_getElem? hx)
theorem pow_lt8 {k : Nat} (h : k < 8) : 2 ^ k < 256 := by
  have : 2 ^ k < 2 ^ 8 := Nat.pow_lt_pow_right (by decide) h
  omega
theorem trnB_ok {U : List Nat} (h : UOk U) (n : Nat) : UOk (trnB U n) := by
  refine ⟨by unfold trnB; rw [List.length_set]; exact h.len, fun x hx => ?_⟩
  rcases List.mem_or_eq_of_mem_set hx with hx | rfl
  · exact h.bd x hx
  · have := Nat.xor_lt_two_pow (n := 8) (show bytN U n < 2 ^ 8 from bytN_lt h n) (show 2 ^ (n % 8) < 2 ^ 8 from pow_lt8 (Nat.mod_lt _ (by decide)))
    exact this
theorem isB_trn {U : List Nat} (h : UOk U) {n : Nat} (hn : n < 160) (m : Nat) : isB (trnB U n) m = if m = n then !isB U m else isB U m := by
  have hl := h.len
  unfold isB
  by_cases hd : n / 8 = m / 8
  · have e : bytN (trnB U n) m = bytN U m ^^^ 2 ^ (n % 8) := by
      unfold bytN trnB
      rw [List.getD_eq_getElem?_getD, ← hd, List.getElem?_set_self (by omega)]
      rfl
    rw [e, Nat.testBit_xor, Nat.testBit_two_pow]
    by_cases hm : m = n
    · subst hm
      rw [if_pos rfl]
      simp
    · rw [if_neg hm]
      have : ¬ n % 8 = m % 8 := by omega
      simp [this]
  · have e : bytN (trnB U n) m = bytN U m := by
      unfold bytN trnB
      rw [List.getD_eq_getElem?_getD, List.getElem?_set_ne (by omega), ← List.getD_eq_getElem?_getD]
    rw [e, if_neg (by rintro rfl; exact hd rfl)]
theorem and_two (a k : Nat) : (a &&& 2 ^ k ≠ 0) ↔ a.testBit k = true := by
  constructor
  · intro h
    apply Classical.byContradiction
    intro hn
    refine h (Nat.eq_of_testBit_eq fun i => ?_)
    rw [Nat.testBit_and, Nat.testBit_two_pow, Nat.zero_testBit]
    by_cases e : k = i
    · subst e
      simp at hn
      simp [hn]
    · simp [e]
  · intro h hz
    have : (a &&& 2 ^ k).testBit k = true := by
      rw [Nat.testBit_and, Nat.testBit_two_pow, h]
      simp
    rw [hz, Nat.zero_testBit] at this
    cases this
section
variable {w : World} {Q : Value → World → Prop} {K : Value → M}
theorem bits_u8 {a b : Nat} (ha : a < 256) (hb : b < 256) : bits .and .u8 (a : Int) (b : Int) = ((a &&& b : Nat) : Int) ∧ bits .xor .u8 (a : Int) (b : Int) = ((a ^^^ b : Nat) : Int) := by
  have h1 : (BitVec.ofInt 8 (a : Int)).toNat = a := by
    rw [BitVec.ofInt_natCast, BitVec.toNat_ofNat]; exact Nat.mod_eq_of_lt (by omega)
  have h2 : (BitVec.ofInt 8 (b : Int)).toNat = b := by
    rw [BitVec.ofInt_natCast, BitVec.toNat_ofNat]; exact Nat.mod_eq_of_lt (by omega)
  constructor
  · have hx : a &&& b < 2 ^ 8 := Nat.and_lt_two_pow _ (by omega)
    show IntKind.u8.wrap ((BitVec.ofInt 8 (a : Int) &&& BitVec.ofInt 8 (b : Int)).toNat : Int) = _
    rw [BitVec.toNat_and, h1, h2, wrap_u8]
    omega
  · have hx : a ^^^ b < 2 ^ 8 := Nat.xor_lt_two_pow (by omega) (by omega)
    show IntKind.u8.wrap ((BitVec.ofInt 8 (a : Int) ^^^ BitVec.ofInt 8 (b : Int)).toNat : Int) = _
    rw [BitVec.toNat_xor, h1, h2, wrap_u8]
    omega
theorem and8 {a b : Nat} (ha : a < 256) (hb : b < 256) : bws .and .u8 (.int .u8 (a : Int)) (.int .u8 (b : Int)) K w Q = K (.int .u8 ((a &&& b : Nat) : Int)) w Q := by
  have e : ∀ (P : Program) (w : World), (Op.intBits .and .u8 (a : Int) (b : Int)).run P w = .ok (.int .u8 ((a &&& b : Nat) : Int)) w := fun P w => by
    rw [Go.intBits_and, (bits_u8 ha hb).1]; rfl
  apply propext
  constructor
  · rintro ⟨a', b', v, h1, h2, h3, h4⟩
    cases h1; cases h2
    have := (h3 default w).symm.trans (e _ w)
    cases this
    exact h4
  · intro h; exact ⟨_, _, _, rfl, rfl, e, h⟩
theorem xor8 {a b : Nat} (ha : a < 256) (hb : b < 256) : bws .xor .u8 (.int .u8 (a : Int)) (.int .u8 (b : Int)) K w Q = K (.int .u8 ((a ^^^ b : Nat) : Int)) w Q := by
  have e : ∀ (P : Program) (w : World), (Op.intBits .xor .u8 (a : Int) (b : Int)).run P w = .ok (.int .u8 ((a ^^^ b : Nat) : Int)) w := fun P w => by
    rw [Go.intBits_xor, (bits_u8 ha hb).2]; rfl
  apply propext
  constructor
  · rintro ⟨a', b', v, h1, h2, h3, h4⟩
    cases h1; cases h2
    have := (h3 default w).symm.trans (e _ w)
    cases this
    exact h4
  · intro h; exact ⟨_, _, _, rfl, rfl, e, h⟩
theorem shl8 {k : Nat} (hk : k < 8) : shl .u8 .i64 (.int .u8 1) (.int .i64 (k : Int)) K w Q = K (.int .u8 ((2 ^ k : Nat) : Int)) w Q := by
  rw [shl_e]
  have e : IntKind.u8.wrap (1 * 2 ^ (min ((k : Int).toNat) IntKind.u8.bits)) = ((2 ^ k : Nat) : Int) := by
    rcases (by omega : k = 0 ∨ k = 1 ∨ k = 2 ∨ k = 3 ∨ k = 4 ∨ k = 5 ∨ k = 6 ∨ k = 7) with rfl | rfl | rfl | rfl | rfl | rfl | rfl | rfl <;> rfl
  rw [e]
  apply propext
  exact ⟨fun h => h.2, fun h => ⟨by omega, h⟩⟩
theorem div8 {n : Nat} (h : n < 1000000) : IntKind.i64.wrap ((n : Int).tdiv 8) = ((n / 8 : Nat) : Int) := by
  have e : (n : Int).tdiv 8 = ((n / 8 : Nat) : Int) := (Int.ofNat_tdiv n 8).symm
  rw [e, w64 (by omega) (by omega)]
theorem mod8 (n : Nat) : (n : Int).tmod 8 = ((n % 8 : Nat) : Int) := (Int.ofNat_tmod n 8).symm
end
section
variable {P : Program} {w : World} {Q : Value → World → Prop} {K : Value → M}
theorem run_copy_cut {dT sT ty elem : TypeId} {g o dLen dCap : Nat} {s : ByteArray} {cur : Array Value} {t : TypeId} (hu : P.underlying dT = some (.slice elem)) (hs : (P.info? elem).map (·.size) = some 1)
    (hg : w.heap[g]? = some (.cells cur t (0, 0))) (hle : dLen ≤ s.size) (hfit : o + dLen ≤ cur.size) :
    (Builtin.copy_ #[dT, sT] ty #[.slice (some ⟨g, o, none⟩) dLen dCap, .string s]).run P w = .ok (.int .i64 dLen) (w.setRow g (ovl cur.toList o (((byL s).take dLen).map (.int .u8))).toArray) := by
  have hb : byL (s.extract 0 dLen) = (byL s).take dLen := by rw [byL_take]; simp
  have hc : (Builtin.firstCells 1 dLen (.string s)).run P w = .ok (((byL s).take dLen).map (Value.int .u8)).toArray w := by
    rw [← hb]
    simp only [Builtin.firstCells, Sem.run_pure, byL]
    congr 1
    apply Array.ext'
    simp [Function.comp_def]
  have hl : (((byL s).take dLen).map (Value.int .u8)).length = dLen := by rw [List.length_map, List.length_take, byL_len]; omega
  have hst := run_storeCells_at P g o t (((byL s).take dLen).map (Value.int .u8)) 0 cur w hg (by rw [hl]; simpa using hfit) (by intro v hv; obtain ⟨a, _, rfl⟩ := List.mem_map.1 hv; rfl)
  have hmin : Nat.min s.size dLen = dLen := Nat.min_eq_right hle
  generalize ((byL s).take dLen).map (Value.int .u8) = bts at *
  cases hq : P.info? elem with
  | none => simp [hq] at hs
  | some i =>
    have hi : i.size = 1 := by simpa [hq] using hs
    simp only [Nat.add_zero] at hst
    simp [Builtin.copy_, run_underlying hu, Builtin.lenOf, sizeOf, typeInfo, hq, hi, hmin, hc, hst, goInt, ovl, Result.andThen]
theorem iaaU {t k : Nat} (hk : k < 20) : iaa 20 1 (.pointer (some ⟨t, 1, none⟩)) (.int .i64 (k : Int)) K w Q = K (.pointer (some ⟨t, 1 + k, none⟩)) w Q := by
  rw [iaa_e, Int.toNat_natCast, Nat.mul_one, add_lit]
  apply propext
  exact ⟨fun h => h.2.2, fun h => ⟨by omega, by omega, h⟩⟩
theorem sla_at {n : Nat} {a : Addr} (h0 : n ≠ 0) (k : K (.slice (some a) n n) w Q) : sla n 1 (.pointer (some a)) none none K w Q := by
  refine ⟨a, 0, n, rfl, rfl, rfl, ?_⟩
  rw [if_neg h0]
  exact k
end
/-- a piece of work in memory -/
def wCell (c : Nat) (U : List Nat) (hd : ByteArray) (mp : Nat) (vn : Value) (ov : Bool) : Array Value := (pv c :: ((U.map fun (x : Nat) => Value.int .u8 (x : Int)) ++ [.string hd, .map (some mp), vn, .bool ov])).toArray
section
variable {c mp : Nat} {U : List Nat} {hd : ByteArray} {vn : Value} {ov : Bool}
theorem wc_u (h : U.length = 20) {k : Nat} (hk : k < 20) : (wCell c U hd mp vn ov)[1 + k]? = some (.int .u8 ((U.getD k 0 : Nat) : Int)) := by
  unfold wCell
  rw [List.getElem?_toArray, Nat.add_comm, List.getElem?_cons_succ, List.getElem?_append_left (by rw [List.length_map]; omega), List.getElem?_map, List.getElem?_eq_getElem (by omega), List.getD_eq_getElem?_getD, List.getElem?_eq_getElem (by omega)]
  rfl
theorem wc_r (h : U.length = 20) (k : Nat) : (wCell c U hd mp vn ov)[21 + k]? = ([.string hd, .map (some mp), vn, .bool ov] : List Value)[k]? := by
  unfold wCell
  rw [List.getElem?_toArray, show 21 + k = (20 + k) + 1 by omega, List.getElem?_cons_succ, List.getElem?_append_right (by rw [List.length_map]; omega), List.length_map, h, Nat.add_sub_cancel_left]
theorem wc_size (h : U.length = 20) : (wCell c U hd mp vn ov).size = 25 := by
  unfold wCell
  simp [h]
theorem wc_setu (h : U.length = 20) {k x : Nat} (hk : k < 20) : (wCell c U hd mp vn ov).setIfInBounds (1 + k) (.int .u8 (x : Int)) = wCell c (U.set k x) hd mp vn ov := by
  unfold wCell
  apply Array.toList_inj.1
  rw [Array.toList_setIfInBounds]
  simp only
  rw [Nat.add_comm, List.set_cons_succ, List.set_append_left _ _ (by rw [List.length_map]; omega), List.map_set]
end
end Go.Proofs.YtongpnolikkknaaGreatDoor

set_option maxRecDepth 20000
set_option maxHeartbeats 4000000
namespace Go.Proofs.YtongpnolikkknaaGreatDoor
open Sh RowKit Go.MapKept
def setE (E : List (Nat × Ch)) (x : Ch) : List (Nat × Ch) := E.map fun e => if e.2.1 = x.1 then (e.1, x) else e
def cmE (E : List (Nat × Ch)) (cs : List Ch) : List (Nat × Ch) := cs.foldl setE E
def cmC (C : Ca) (K : List Ch) : Ca := { C with K := K }
theorem setE_fst (E : List (Nat × Ch)) (x : Ch) : (setE E x).map (·.1) = E.map (·.1) := by
  unfold setE
  rw [List.map_map]
  refine List.map_congr_left fun e _ => ?_
  show (if e.2.1 = x.1 then (e.1, x) else e).1 = e.1
  split <;> rfl
theorem setE_num (E : List (Nat × Ch)) (x : Ch) : (setE E x).map (·.2.1) = E.map (·.2.1) := by
  unfold setE
  rw [List.map_map]
  refine List.map_congr_left fun e _ => ?_
  show (if e.2.1 = x.1 then (e.1, x) else e).2.1 = e.2.1
  split
  · rename_i h; exact h.symm
  · rfl
theorem setE_len (E : List (Nat × Ch)) (x : Ch) : (setE E x).length = E.length := by unfold setE; rw [List.length_map]
theorem setE_fnd (E : List (Nat × Ch)) (x : Ch) (n : Int) : (fnd (setE E x) n).map (fun e => pv e.1) = (fnd E n).map fun e => pv e.1 := by
  induction E with
  | nil => rfl
  | cons e E ih =>
    show (fnd ((if e.2.1 = x.1 then (e.1, x) else e) :: setE E x) n).map _ = _
    rw [fnd_cons, fnd_cons]
    by_cases h : e.2.1 = x.1
    · rw [if_pos h]
      show (if x.1 = n then _ else _ : Option (Nat × Ch)).map _ = _
      by_cases hn : e.2.1 = n
      · rw [if_pos hn, if_pos (h.symm.trans hn)]; rfl
      · rw [if_neg hn, if_neg (fun h' => hn (h.trans h')), ih]
    · rw [if_neg h]
      by_cases hn : e.2.1 = n
      · rw [if_pos hn, if_pos hn]
      · rw [if_neg hn, if_neg hn, ih]
theorem setE_none {E : List (Nat × Ch)} {x : Ch} (h : fnd E x.1 = none) : setE E x = E := by
  unfold setE
  refine (List.map_congr_left fun e he => ?_).trans (List.map_id E)
  rw [if_neg]; rfl
  intro hx
  have := List.find?_eq_none.1 h e he
  simp only [decide_eq_true_eq] at this
  exact this hx
theorem cmE_fst (cs : List Ch) : ∀ E : List (Nat × Ch), (cmE E cs).map (·.1) = E.map (·.1) := by
  induction cs with
  | nil => intro E; rfl
  | cons c cs ih => intro E; show (cmE (setE E c) cs).map _ = _; rw [ih, setE_fst]
theorem cmE_snoc (E : List (Nat × Ch)) (cs : List Ch) (x : Ch) : cmE E (cs ++ [x]) = setE (cmE E cs) x := by unfold cmE; rw [List.foldl_append]; rfl
theorem fpA_fst {c mb : Nat} {E E' : List (Nat × Ch)} (h : E'.map (·.1) = E.map (·.1)) : ∀ k, fpA c mb E' k ↔ fpA c mb E k := by
  have aux : ∀ {E E' : List (Nat × Ch)}, E'.map (·.1) = E.map (·.1) → ∀ k, fpA c mb E' k → fpA c mb E k := by
    intro E E' h k hk
    rcases hk with (hk | ⟨e, he, hk⟩) | hk
    · exact .inl (.inl hk)
    · have : e.1 ∈ E.map (·.1) := by rw [← h]; exact List.mem_map.2 ⟨e, he, rfl⟩
      obtain ⟨a, ha, hx⟩ := List.mem_map.1 this
      exact .inl (.inr ⟨a, ha, by rw [hk, hx]⟩)
    · exact .inr hk
  exact fun k => ⟨aux h k, aux h.symm k⟩
section
variable {B : Nat} {W w w' : World} {c q mb p b : Nat} {v u lv : Value} {C : Ca} {E : List (Nat × Ch)} {G : Pg} {D : Dv} {Q : Value → World → Prop} {Bc : Nat}
/-- a kept page's bytes stored -/
theorem CaAt.sD {e : Nat × Ch} {x : Ch} {K0 : M} (hc : CaAt B w c q mb C E) (he : e ∈ E) (hx : e.2.1 = x.1) (kk : ∀ w', CaAt B w' c q mb (cmC C ((setE E x).map (·.2))) (setE E x) → ChgS (fpA c mb E) w w' → K0 w' Q) : st (.pointer (some ⟨e.1, 3, none⟩)) (.string x.2) K0 w Q := by
  obtain ⟨f, hm, hr⟩ := hc.rg
  obtain ⟨ML, hmp, hlk⟩ := hc.mp
  have hnn : (E.map (·.2.1)).Nodup := by have := hc.nk; rwa [hc.K, nums_map] at this
  refine st_box (o := 3) (v := .string x.2) (hm.lk e he) (by show 3 < 4; decide) rfl fun w1 h1 u1 => kk w1 ?_ (ChgS.of_upd u1 (.inl (.inr ⟨e, he, rfl⟩)))
  refine ⟨rfl, ⟨f, ⟨hm.cB, fun a ha => ?_, ?_, fun a ha => ?_, by rw [setE_fst]; exact hm.nd⟩, ?_⟩, hc.mB, ⟨ML, hmp.stay (u1.block mb (hm.mne hmp e.1 (.inr ⟨e, he, rfl⟩)).symm), fun n => by rw [setE_fnd]; exact hlk n⟩, ?_, by rw [setE_len]; exact hc.le, hc.l64⟩
  · obtain ⟨a0, ha0, rfl⟩ := List.mem_map.1 ha
    split
    · exact hm.eB a0 ha0
    · exact hm.eB a0 ha0
  · rw [u1.block c (hm.ne e he).symm, setE_len]; exact hm.cb
  · obtain ⟨a0, ha0, rfl⟩ := List.mem_map.1 ha
    by_cases hn : a0.2.1 = x.1
    · rw [if_pos hn]
      have : a0 = e := by
        have h1 : a0.2.1 = e.2.1 := hn.trans hx.symm
        obtain ⟨i, hi, rfl⟩ := List.mem_iff_getElem.1 ha0
        obtain ⟨j, hj, rfl⟩ := List.mem_iff_getElem.1 he
        have := (List.getElem?_inj (l := E.map (·.2.1)) (i := i) (j := j) (by simpa using hi) hnn).1 (by simp [List.getElem?_eq_getElem, hi, hj, h1])
        simp [this]
      subst this
      rw [h1]
      unfold lCell
      rw [← hx]
      rfl
    · rw [if_neg hn]
      have : a0.1 ≠ e.1 := fun h => hn (by rw [nd_inj hm.nd ha0 he h]; exact hx)
      rw [u1.block a0.1 this]
      exact hm.lk a0 ha0
  · have : (nds (setE E x) : List Nd) = nds E := by
      have e1 : (nds (setE E x) : List Nd) = ((setE E x).map (·.1)).map some := by unfold nds; rw [List.map_map]; rfl
      have e2 : (nds E : List Nd) = (E.map (·.1)).map some := by unfold nds; rw [List.map_map]; rfl
      rw [e1, e2, setE_fst]
    rw [this]; exact hr
  · show (nums ((setE E x).map (·.2))).Nodup
    rw [nums_map, setE_num]; exact hnn
theorem commit7_loop {cs : List Ch} {Bc : Nat} (hl : cs.length ≤ 1000) (hsep : ∀ g, lv.ownBlock = some g → ¬ fpA c mb E g) (hE : CaAt B W c q mb C E) (hcs : ownE Bc 48 2 encC W lv cs) :
    ∀ (d m i : Nat) (w : World), i + d = cs.length → d < m → ChgS (fpA c mb E) W w → CaAt B w c q mb (cmC C ((cmE E (cs.take i)).map (·.2))) (cmE E (cs.take i)) →
    (∀ w', ChgS (fpA c mb E) W w' → CaAt B w' c q mb (cmC C ((cmE E cs).map (·.2))) (cmE E cs) → Q (.int .i64 0) w') →
    itr (fun _ _ _ _ => bot) (f25_b2 f25_j1) m (pv c) lv (.int .i64 ((cs.length : Nat) : Int)) (.int .i64 ((i : Nat) : Int)) w Q := by
  intro d
  induction d with
  | zero =>
    intro m i w hi hm hg hc kk
    obtain ⟨m, rfl⟩ : ∃ x, m = x + 1 := ⟨m - 1, by omega⟩
    show f25_b2 f25_j1 _ _ _ _ _ w Q
    unfold f25_b2
    have cc : ¬ (i : Int) < (cs.length : Nat) := by omega
    try simp only [↓reduceIte, ↓LL, LM, Value.cells, Nat.reduceAdd, Option.some.injEq, exists_eq_left', decide_true, decide_false, if_true, if_false, reduceCtorEq, cond_true, cond_false, cc]
    unfold f25_j1
    rw [List.take_of_length_le (by omega)] at hc
    try simp only [↓reduceIte, ↓LL, LM, Value.cells, Nat.reduceAdd, Option.some.injEq, exists_eq_left', decide_true, decide_false, if_true, if_false, reduceCtorEq, cond_true, cond_false]
    exact kk w hg hc
  | succ d ih =>
    intro m i w hi hm hg hc kk
    obtain ⟨m, rfl⟩ : ∃ x, m = x + 1 := ⟨m - 1, by omega⟩
    show f25_b2 f25_j1 _ _ _ _ _ w Q
    unfold f25_b2
    have cc : (i : Int) < (cs.length : Nat) := by omega
    have hil : i < cs.length := by omega
    have h3 : IntKind.i64.wrap ((i : Int) + 1) = ((i + 1 : Nat) : Int) := by rw [w64 (by omega) (by omega)]; rfl
    have hcsw : ownE Bc 48 2 encC w lv cs := ownE_chg hcs hg fun g hg' => hsep g hg'
    obtain ⟨aad, es, he1, he2, he3, hia⟩ := rdS_at (ownE_rd encC_len (by decide) hcsw) hil
    have hts : cs.take (i + 1) = cs.take i ++ [cs[i]] := List.take_succ_eq_append_getElem hil
    try simp only [↓reduceIte, ↓LL, LM, Value.cells, Nat.reduceAdd, Option.some.injEq, exists_eq_left', decide_true, decide_false, if_true, if_false, reduceCtorEq, cond_true, cond_false, cc, hia]
    refine ldn_at he2 he1 ?_
    have he3 : es = encC cs[i] := he3
    rw [he3]
    generalize cs[i] = x at *
    have b1 := b_psh w (.cells #[.int .i64 0, .string ⟨#[]⟩] 48)
    have k1 := blk_psh_new (w := w) (o := .cells #[.int .i64 0, .string ⟨#[]⟩] 48)
    try simp only [↓reduceIte, ↓LL, LM, Value.cells, Nat.reduceAdd, Option.some.injEq, exists_eq_left', decide_true, decide_false, if_true, if_false, reduceCtorEq, cond_true, cond_false]
    refine stn_box k1 (by simp) (by simp [encC]) (by intro y hy; exact encC_one x y (by simpa using hy)) fun w2 k2 u2 => ?_
    have b2 : Below w.heap.size w w2 := b1.trans (u2.below (Nat.le_refl _))
    have hc2 := hc.below b2
    have hg2 : ChgS (fpA c mb E) W w2 := hg.trans (ChgS.of_below b2) fun _ _ h => h
    have d0 : (drw w2).cell? ⟨w.heap.size, 0, none⟩ = some (.int .i64 x.1) := by show w2.cell? _ = _; rw [cell_of_blk k2]; rfl
    have d1 : (drw w2).cell? ⟨w.heap.size, 1, none⟩ = some (.string x.2) := by show w2.cell? _ = _; rw [cell_of_blk k2]; rfl
    have d0' : w2.cell? ⟨w.heap.size, 0, none⟩ = some (.int .i64 x.1) := d0
    have d1' : w2.cell? ⟨w.heap.size, 1, none⟩ = some (.string x.2) := d1
    obtain ⟨f, hm2, hr2⟩ := hc2.rg
    obtain ⟨ML, hmp2, hlk2⟩ := hc2.mp
    have c7 : (drw w2).cell? ⟨c, 7, none⟩ = some (.map (some mb)) := by show w2.cell? _ = _; rw [cell_of_blk hm2.cb]; rfl
    have c7' : w2.cell? ⟨c, 7, none⟩ = some (.map (some mb)) := c7
    have hlook : ∀ (K : Value → M), smr Tryz.prog (Instr.lookup 115 (.map (some mb)) (.int .i64 x.1) true) K (drw w2) Q = K (.tuple #[((fnd (cmE E (cs.take i)) x.1).map fun e => pv e.1).getD (.pointer none), .bool ((fnd (cmE E (cs.take i)) x.1).map fun e => pv e.1).isSome]) (drw w2) Q := fun K => by
      rw [show (Value.int .i64 x.1) = kI x.1 from rfl, look_ok (kv := kI) KKc (show MapAt kI (drw w2) mb ML from hmp2) zC x.1, hlk2 x.1]
    have eE : setE (cmE E (cs.take i)) x = cmE E (cs.take (i + 1)) := by rw [hts, cmE_snoc]
    have hc2d : CaAt B (drw w2) c q mb (cmC C ((cmE E (cs.take i)).map (·.2))) (cmE E (cs.take i)) := hc2.below ⟨rfl, rfl, rfl, Nat.le_refl _, fun _ _ => rfl⟩
    cases hf : fnd (cmE E (cs.take i)) x.1 with
    | none =>
      rw [hf] at hlook
      have g1 : ((none : Option (Nat × Ch)).map fun e => pv e.1).isSome = false := rfl
      try simp only [↓reduceIte, ↓LL, LM, Value.cells, Nat.reduceAdd, Option.some.injEq, exists_eq_left', decide_true, decide_false, if_true, if_false, reduceCtorEq, cond_true, cond_false, c7, c7', d0, d0', hlook, g1, get0, get1]
      unfold f25_j3
      try simp only [↓reduceIte, ↓LL, LM, Value.cells, Nat.reduceAdd, Option.some.injEq, exists_eq_left', decide_true, decide_false, if_true, if_false, reduceCtorEq, cond_true, cond_false, h3]
      refine ih m (i + 1) (drw w2) (by omega) (by omega) hg2.drw ?_ kk
      rw [← eE, setE_none hf]
      exact hc2d
    | some e =>
      rw [hf] at hlook
      obtain ⟨hemem, hen⟩ := fnd_mem hf
      have g0 : (((some e).map fun e : Nat × Ch => pv e.1).getD (.pointer none)) = pv e.1 := rfl
      have g1 : ((some e).map fun e : Nat × Ch => pv e.1).isSome = true := rfl
      try simp only [↓reduceIte, ↓LL, LM, Value.cells, Nat.reduceAdd, Option.some.injEq, exists_eq_left', decide_true, decide_false, if_true, if_false, reduceCtorEq, cond_true, cond_false, c7, c7', d0, d0', d1, d1', hlook, g0, g1, get0, get1]
      refine hc2d.sD hemem hen fun w3 hc3 hg3 => ?_
      unfold f25_j3
      try simp only [↓reduceIte, ↓LL, LM, Value.cells, Nat.reduceAdd, Option.some.injEq, exists_eq_left', decide_true, decide_false, if_true, if_false, reduceCtorEq, cond_true, cond_false, h3]
      rw [eE] at hc3
      refine ih m (i + 1) w3 (by omega) (by omega) (hg2.trans (T := fpA c mb E) ((hg3.mono fun k hk => (fpA_fst (cmE_fst _ _) k).1 hk).of_drw) fun _ _ h => h) hc3 kk
/-- a commit by way of the cache -/
theorem CP.commit {cs : List Ch} (h : CP B w c q mb p b v u C E G D) (hcs : ownE Bc 48 2 encC w lv cs) (hsep : ∀ g, lv.ownBlock = some g → ¬ fpX c q mb p b v u E g) (hcl : cs.length ≤ 1000)
    (h0 : 0 ≤ D.c) (h1 : D.c + 300 ≤ 1000000) (hG0 : 0 ≤ G.c) (hG1 : G.c ≤ 1000000) (hL : G.L.length ≤ 1000)
    (k1 : ∀ w', (commitB G D cs).1 ≠ 0 → CP B w' c q mb p b v u C E (commitB G D cs).2.2 (commitB G D cs).2.1 → ChgS (fpX c q mb p b v u E) w w' → Q (.int .i64 (commitB G D cs).1) w')
    (k0 : ∀ w', (commitB G D cs).1 = 0 → CP B w' c q mb p b v u (cmC C ((cmE E cs).map (·.2))) (cmE E cs) (commitB G D cs).2.2 (commitB G D cs).2.1 → ChgS (fpX c q mb p b v u E) w w' → Q (.int .i64 0) w') : f25 (pv c) lv w Q := by
  unfold f25
  rw [pn_eq ptK]
  obtain ⟨f, hb⟩ := h.ca.cb
  have c0 : w.cell? ⟨c, 0, none⟩ = some (pv q) := by rw [cell_of_blk hb]; rfl
  have ll := lnl_S (ownE_rd encC_len (by decide) hcs)
  try simp only [↓reduceIte, ↓LL, LM, Value.cells, Nat.reduceAdd, Option.some.injEq, exists_eq_left', decide_true, decide_false, if_true, if_false, reduceCtorEq, cond_true, cond_false, Option.isNone, c0]
  refine commit_at h.pg hcs h0 h1 hG0 hG1 hL fun w2 hp2 hg2 => ?_
  have hc2 : CaAt B w2 c q mb C E := h.ca.chg hg2 fun k hk hn => h.ap k hk hn
  have hcs2 : ownE Bc 48 2 encC w2 lv cs := ownE_chg hcs hg2 fun g hg hn => hsep g hg (.inr hn)
  have hgX : ChgS (fpX c q mb p b v u E) w w2 := hg2.mono fun k hk => .inr hk
  by_cases ce : (commitB G D cs).1 = 0
  · try simp only [↓reduceIte, ↓LL, LM, Value.cells, Nat.reduceAdd, Option.some.injEq, exists_eq_left', decide_true, decide_false, if_true, if_false, reduceCtorEq, cond_true, cond_false, ne_eq, ce, ll]
    refine ⟨_, commit7_loop (W := w2) (C := C) (E := E) hcl (fun g hg hn => hsep g hg (.inl hn)) hc2 hcs2 cs.length (cs.length + 1) 0 w2 (by omega) (by omega) (ChgS.refl _ _) ?_ fun w3 hg3 hc3 => ?_⟩
    · have : cmC C ((cmE E (cs.take 0)).map (·.2)) = C := by
        show cmC C (E.map (·.2)) = C
        rw [← hc2.K]; rfl
      rw [this]; exact hc2
    · refine k0 w3 ce ⟨hc3, hp2.chg hg3 fun k hk hn => h.ap k hn hk, fun k hk => h.ap k ((fpA_fst (cmE_fst _ _) k).1 hk)⟩ (hgX.trans (hg3.mono fun k hk => .inl hk) fun _ _ h => h)
  · try simp only [↓reduceIte, ↓LL, LM, Value.cells, Nat.reduceAdd, Option.some.injEq, exists_eq_left', decide_true, decide_false, if_true, if_false, reduceCtorEq, cond_true, cond_false, ne_eq, ce]
    exact k1 w2 ce ⟨hc2, hp2, h.ap⟩ hgX
end
end Go.Proofs.YtongpnolikkknaaGreatDoor

set_option maxRecDepth 20000
set_option maxHeartbeats 4000000
namespace Go.Proofs.YtongpnolikkknaaGreatDoor
open Sh RowKit Go.MapKept
structure RfAt (B : Nat) (w : World) (r : Nat) (u : Value) (L : List ByteArray) : Prop where
  rB : B ≤ r
  hr : w.heap[r]? = some (.cells #[u] 102 (0, 0))
  hu : ownV B 9 w u (L.map .string)
def fpR (r : Nat) (u : Value) : Nat → Prop := fun k => k = r ∨ u.ownBlock = some k
section
variable {B : Nat} {W w w' : World} {r : Nat} {u v : Value} {L : List ByteArray} {Q : Value → World → Prop}
theorem RfAt.below (h : RfAt B w r u L) (hb : Below w.heap.size w w') : RfAt B w' r u L := ⟨h.rB, stay hb h.hr, ownV_below h.hu hb⟩
theorem RfAt.chg {S : Nat → Prop} (h : RfAt B w r u L) (hc : ChgS S w w') (hS : ∀ k, fpR r u k → ¬ S k) : RfAt B w' r u L := ⟨h.rB, hc.keep h.hr (hS r (.inl rfl)), ownV_chg h.hu hc fun g hg => hS g (.inr hg)⟩
theorem RfAt.weak {B' : Nat} (h : RfAt B w r u L) (hB : B' ≤ B) : RfAt B' w r u L := ⟨Nat.le_trans hB h.rB, h.hr, ownV_weak h.hu hB⟩
theorem RfAt.c0 (h : RfAt B w r u L) : w.cell? ⟨r, 0, none⟩ = some u := by rw [cell_of_blk h.hr]; rfl
theorem RfAt.lnl (h : RfAt B w r u L) : ∀ (K : Value → M) (w1 : World) (Q : Value → World → Prop), lnl u K w1 Q = K (.int .i64 ((L.length : Nat) : Int)) w1 Q := by
  have := lnl_own h.hu
  rwa [List.length_map] at this
end
end Go.Proofs.YtongpnolikkknaaGreatDoor

set_option maxRecDepth 20000
set_option maxHeartbeats 4000000
namespace Go.Proofs.YtongpnolikkknaaGreatDoor
open Sh RowKit Go.MapKept
def pagesN (n : Int) : Nat := 1 + (um n 40).toNat
theorem pagesN_bd (n : Int) : 1 ≤ pagesN n ∧ pagesN n ≤ 40 := by
  have := um_bd n (show (0 : Int) < 40 by decide)
  unfold pagesN
  omega
section
variable {B Bc : Nat} {W w w' : World} {q p b r : Nat} {v u vp : Value} {L : List ByteArray} {G : Pg} {D : Dv} {Q : Value → World → Prop}
end
end Go.Proofs.YtongpnolikkknaaGreatDoor

set_option maxRecDepth 20000
set_option maxHeartbeats 4000000
namespace Go.Proofs.YtongpnolikkknaaGreatDoor
open Sh RowKit Go.MapKept
def anyG (m : Nat) (l : List Int) (f0 : Int) : Int := if l.any (fun x => decide ((m : Int) ≤ x)) = true then 10 else f0
section
variable {B : Nat} {W w w' : World} {q p b : Nat} {v u : Value} {D : Dv} {Q : Value → World → Prop}
end
end Go.Proofs.YtongpnolikkknaaGreatDoor

/-
  DERIVED: THE SHELF's CONTRACTS AT THIS DUMP, IN PLAIN WORDS (tools/lay-plain.mjs out of 'TryzKeptZ.lean', which tools/lay-shelf.mjs wrote): THE SAME DECLARATIONS UNDER THE SAME NAMES: 'import', 'namespace', 'open', 'def', 'theorem' AND NOTHING ELSE: no command of the shelf's: FOR A HAND-IN. Each laying: the table of numbers ('.._ren') and one theorem, a field a fact of the dump's own or the kernel's comparison; each contract: ONE APPLICATION.
-/
namespace Go.Proofs
open Go.Shelf
end Go.Proofs

namespace Go.Proofs.YtongpnolikkknaaGreatDoor
open Go.Shelf
open Sh RowKit Go.Maps Go.Sort
end Go.Proofs.YtongpnolikkknaaGreatDoor

set_option maxRecDepth 20000
namespace Go.Proofs.YtongpnolikkknaaGreatDoor
open Sh RowKit Go.MapKept
section
variable {B : Nat} {w : World} {p b : Nat} {v : Value} {D : Dv} {Q : Value → World → Prop}
end
end Go.Proofs.YtongpnolikkknaaGreatDoor

set_option maxRecDepth 20000
set_option maxHeartbeats 4000000
namespace Go.Proofs.YtongpnolikkknaaGreatDoor
open Sh RowKit Go.MapKept
structure St (W w : World) (q p b r : Nat) (v u ur : Value) (G : Pg) (D : Dv) : Prop where
  pg : PgAt W.heap.size w q p b v u G D
  rf : RfAt W.heap.size w r ur G.L
  ap : ∀ k, fpP q p b v u k → ¬ fpR r ur k
  bw : Below W.heap.size W w
  rdy : Rdy D G.L
  st : G.st = false
  al : AllS D.A
  hh : D.h = 4611686018427387904
theorem RfAt.fpB {B : Nat} {w : World} {r : Nat} {u : Value} {L : List ByteArray} (h : RfAt B w r u L) : ∀ k, fpR r u k → B ≤ k := by
  rintro k (rfl | hk)
  · exact h.rB
  · exact (ownV_lt h.hu k hk).1
theorem RfAt.lt {B : Nat} {w : World} {r : Nat} {u : Value} {L : List ByteArray} (h : RfAt B w r u L) : ∀ k, fpR r u k → k < w.heap.size := by
  rintro k (rfl | hk)
  · exact blk_lt h.hr
  · exact (ownV_lt h.hu k hk).2.1
section
variable {W w w' : World} {q p b r : Nat} {v u ur vs : Value} {G : Pg} {D : Dv} {Q : Value → World → Prop}
end
end Go.Proofs.YtongpnolikkknaaGreatDoor

set_option maxRecDepth 20000
set_option maxHeartbeats 4000000
namespace Go.Proofs.YtongpnolikkknaaGreatDoor
open Sh RowKit Go.MapKept
def GoodK (K : List Ch) (L : List ByteArray) : Prop := ∀ x ∈ K, 0 ≤ x.1 ∧ L[x.1.toNat]? = some x.2
theorem GoodK.set {E : List (Nat × Ch)} {L : List ByteArray} {x : Ch} (h : GoodK (E.map (·.2)) L) (h0 : 0 ≤ x.1) (h1 : x.1 < (L.length : Int)) : GoodK ((setE E x).map (·.2)) (L.set x.1.toNat x.2) := by
  intro y hy
  obtain ⟨e, he, rfl⟩ := List.mem_map.1 hy
  obtain ⟨e0, he0, rfl⟩ := List.mem_map.1 he
  obtain ⟨q0, q1⟩ := h e0.2 (List.mem_map.2 ⟨e0, he0, rfl⟩)
  by_cases hn : e0.2.1 = x.1
  · rw [if_pos hn]
    exact ⟨h0, by show (L.set x.1.toNat x.2)[x.1.toNat]? = some x.2; rw [List.getElem?_set_self (by omega)]⟩
  · rw [if_neg hn]
    exact ⟨q0, by rw [List.getElem?_set_ne (by omega)]; exact q1⟩
theorem GoodK.commit : ∀ (cs : List Ch) (E : List (Nat × Ch)) (L : List ByteArray), GoodK (E.map (·.2)) L → (∀ x ∈ cs, 0 ≤ x.1 ∧ x.1 < (L.length : Int)) → GoodK ((cmE E cs).map (·.2)) (setL L cs)
  | [], E, L, h, _ => h
  | c :: cs, E, L, h, hb => by
    have hc := hb c (List.mem_cons_self ..)
    exact GoodK.commit cs (setE E c) (L.set c.1.toNat c.2) (h.set hc.1 hc.2) fun x hx => by rw [List.length_set]; exact hb x (List.mem_cons_of_mem _ hx)
section
variable {B : Nat} {W w w' : World} {c q mb p b : Nat} {v u vs vP : Value} {C : Ca} {E : List (Nat × Ch)} {G : Pg} {D : Dv} {Q : Value → World → Prop}
end
end Go.Proofs.YtongpnolikkknaaGreatDoor

set_option maxRecDepth 20000
set_option maxHeartbeats 4000000
namespace Go.Proofs.YtongpnolikkknaaGreatDoor
open Sh RowKit Go.MapKept
theorem ptW : Tryz.prog.underlying 25 = some (.pointer (Tryz.prog.pointee 25)) := by kernel_rfl
theorem KKs : KeyK Tryz.prog 107 3 9 (.int .i64) kI := ⟨by kernel_rfl, by kernel_rfl, fun a => by simp [kI, IsKey], fun a b h => by simpa [kI] using h⟩
structure WkAt (B : Nat) (w : World) (t c mp : Nat) (U : List Nat) (hd : ByteArray) (F : Int → Option ByteArray) (vn : Value) (ov : Bool) : Prop where
  tB : B ≤ t
  mB : B ≤ mp
  hw : w.heap[t]? = some (.cells (wCell c U hd mp vn ov) 113 (0, 0))
  ok : UOk U
  mp : ∃ ML, MapAt kI w mp ML ∧ ∀ n, lk ML n = (F n).map .string
def fpW (t mp : Nat) : Nat → Prop := fun k => k = t ∨ k = mp
section
variable {B : Nat} {w w' : World} {t c mp q mb p b : Nat} {U : List Nat} {hd : ByteArray} {F : Int → Option ByteArray} {vn v u : Value} {ov : Bool} {C : Ca} {E : List (Nat × Ch)} {G : Pg} {D : Dv} {Q : Value → World → Prop}
theorem WkAt.c0 (h : WkAt B w t c mp U hd F vn ov) : w.cell? ⟨t, 0, none⟩ = some (pv c) := by rw [cell_of_blk h.hw]; rfl
theorem WkAt.cu (h : WkAt B w t c mp U hd F vn ov) {n : Nat} (hn : n < 160) : w.cell? ⟨t, 1 + n / 8, none⟩ = some (.int .u8 ((bytN U n : Nat) : Int)) := by rw [cell_of_blk h.hw, wc_u h.ok.len (by omega)]; rfl
theorem WkAt.c22 (h : WkAt B w t c mp U hd F vn ov) : w.cell? ⟨t, 22, none⟩ = some (.map (some mp)) := by rw [cell_of_blk h.hw]; exact wc_r h.ok.len 1
theorem WkAt.c24 (h : WkAt B w t c mp U hd F vn ov) : w.cell? ⟨t, 24, none⟩ = some (.bool ov) := by rw [cell_of_blk h.hw]; exact wc_r h.ok.len 3
theorem WkAt.below (h : WkAt B w t c mp U hd F vn ov) (hb : Below w.heap.size w w') : WkAt B w' t c mp U hd F vn ov := by
  obtain ⟨ML, h1, h2⟩ := h.mp
  exact ⟨h.tB, h.mB, stay hb h.hw, h.ok, ML, h1.below hb, h2⟩
theorem WkAt.chg {S : Nat → Prop} (h : WkAt B w t c mp U hd F vn ov) (hc : ChgS S w w') (hS : ∀ k, fpW t mp k → ¬ S k) : WkAt B w' t c mp U hd F vn ov := by
  obtain ⟨ML, h1, h2⟩ := h.mp
  exact ⟨h.tB, h.mB, hc.keep h.hw (hS t (.inl rfl)), h.ok, ML, h1.stay (hc.block mp h1.lt (hS mp (.inr rfl))), h2⟩
theorem WkAt.tm (h : WkAt B w t c mp U hd F vn ov) : t ≠ mp := by
  obtain ⟨ML, h1, h2⟩ := h.mp
  exact map_ne h1 h.hw
theorem WkAt.lt (h : WkAt B w t c mp U hd F vn ov) : ∀ k, fpW t mp k → k < w.heap.size := by
  obtain ⟨ML, h1, h2⟩ := h.mp
  rintro k (rfl | rfl)
  · exact blk_lt h.hw
  · exact h1.lt
theorem WkAt.fpB (h : WkAt B w t c mp U hd F vn ov) : ∀ k, fpW t mp k → B ≤ k := by
  rintro k (rfl | rfl)
  · exact h.tB
  · exact h.mB
theorem f71_s {n : Nat} (h : WkAt B w t c mp U hd F vn ov) (hn : n < 160) (kk : ∀ w', Below w.heap.size w w' → Q (.bool (isB U n)) w') : f71 (.pointer (some ⟨t, 1, none⟩)) (.int .i64 (n : Int)) w Q := by
  unfold f71
  have d1 := div8 (n := n) (by omega)
  have d2 := mod8 n
  have z8 : ¬ (8 : Int) = 0 := by decide
  have hk : n / 8 < 20 := by omega
  have cu : (drw w).cell? ⟨t, 1 + n / 8, none⟩ = _ := h.cu hn
  have cu' := h.cu hn
  have ia : ∀ (K : Value → M) (w : World) (Q : Value → World → Prop), iaa 20 1 (.pointer (some ⟨t, 1, none⟩)) (.int .i64 ((n / 8 : Nat) : Int)) K w Q = K (.pointer (some ⟨t, 1 + n / 8, none⟩)) w Q := fun K w Q => iaaU hk
  have s8 : ∀ (K : Value → M) (w : World) (Q : Value → World → Prop), shl .u8 .i64 (.int .u8 1) (.int .i64 ((n % 8 : Nat) : Int)) K w Q = K (.int .u8 ((2 ^ (n % 8) : Nat) : Int)) w Q := fun K w Q => shl8 (Nat.mod_lt _ (by decide))
  have a8 : ∀ (K : Value → M) (w : World) (Q : Value → World → Prop), bws .and .u8 (.int .u8 ((bytN U n : Nat) : Int)) (.int .u8 ((2 ^ (n % 8) : Nat) : Int)) K w Q = K (.int .u8 ((bytN U n &&& 2 ^ (n % 8) : Nat) : Int)) w Q := fun K w Q => and8 (bytN_lt h.ok n) (pow_lt8 (Nat.mod_lt _ (by decide)))
  have fin := kk (drw w) ⟨rfl, rfl, rfl, Nat.le_refl _, fun _ _ => rfl⟩
  have ht := and_two (bytN U n) (n % 8)
  cases hb : isB U n with
  | true =>
    rw [hb] at fin
    have hx : ¬ ((bytN U n &&& 2 ^ (n % 8) : Nat) : Int) = 0 := by
      have := ht.2 hb
      omega
    try simp only [↓reduceIte, ↓LL, LM, Value.cells, Nat.reduceAdd, Option.some.injEq, exists_eq_left', decide_true, decide_false, if_true, if_false, reduceCtorEq, cond_true, cond_false, ne_eq, z8, true_and, d1, ia, cu, cu', d2, s8, a8, hx]
    exact fin
  | false =>
    rw [hb] at fin
    have hx : ((bytN U n &&& 2 ^ (n % 8) : Nat) : Int) = 0 := by
      apply Classical.byContradiction
      intro hne
      have : isB U n = true := ht.1 (by omega)
      rw [hb] at this
      cases this
    try simp only [↓reduceIte, ↓LL, LM, Value.cells, Nat.reduceAdd, Option.some.injEq, exists_eq_left', decide_true, decide_false, if_true, if_false, reduceCtorEq, cond_true, cond_false, ne_eq, z8, true_and, d1, ia, cu, cu', d2, s8, a8, hx]
    exact fin
theorem f72_s {n : Nat} (h : WkAt B w t c mp U hd F vn ov) (hn : n < 160) (kk : ∀ w', WkAt B w' t c mp (trnB U n) hd F vn ov → ChgS (fun k => k = t) w w' → Q (.tuple #[]) w') : f72 (.pointer (some ⟨t, 1, none⟩)) (.int .i64 (n : Int)) w Q := by
  unfold f72
  have d1 := div8 (n := n) (by omega)
  have d2 := mod8 n
  have z8 : ¬ (8 : Int) = 0 := by decide
  have hk : n / 8 < 20 := by omega
  have cu : (drw w).cell? ⟨t, 1 + n / 8, none⟩ = _ := h.cu hn
  have cu' := h.cu hn
  have ia : ∀ (K : Value → M) (w : World) (Q : Value → World → Prop), iaa 20 1 (.pointer (some ⟨t, 1, none⟩)) (.int .i64 ((n / 8 : Nat) : Int)) K w Q = K (.pointer (some ⟨t, 1 + n / 8, none⟩)) w Q := fun K w Q => iaaU hk
  have s8 : ∀ (K : Value → M) (w : World) (Q : Value → World → Prop), shl .u8 .i64 (.int .u8 1) (.int .i64 ((n % 8 : Nat) : Int)) K w Q = K (.int .u8 ((2 ^ (n % 8) : Nat) : Int)) w Q := fun K w Q => shl8 (Nat.mod_lt _ (by decide))
  have x8 : ∀ (K : Value → M) (w : World) (Q : Value → World → Prop), bws .xor .u8 (.int .u8 ((bytN U n : Nat) : Int)) (.int .u8 ((2 ^ (n % 8) : Nat) : Int)) K w Q = K (.int .u8 ((bytN U n ^^^ 2 ^ (n % 8) : Nat) : Int)) w Q := fun K w Q => xor8 (bytN_lt h.ok n) (pow_lt8 (Nat.mod_lt _ (by decide)))
  try simp only [↓reduceIte, ↓LL, LM, Value.cells, Nat.reduceAdd, Option.some.injEq, exists_eq_left', decide_true, decide_false, if_true, if_false, reduceCtorEq, cond_true, cond_false, ne_eq, z8, true_and, d1, ia, cu, cu', d2, s8, x8]
  refine st_box (w := drw w) (o := 1 + n / 8) (v := .int .u8 ((bytN U n ^^^ 2 ^ (n % 8) : Nat) : Int)) (show (drw w).heap[t]? = _ from h.hw) (by rw [wc_size h.ok.len]; omega) rfl fun w1 h1 u1 => ?_
  rw [wc_setu h.ok.len hk] at h1
  obtain ⟨ML, m1, m2⟩ := h.mp
  try simp only [↓reduceIte, ↓LL, LM, Value.cells, Nat.reduceAdd, Option.some.injEq, exists_eq_left', decide_true, decide_false, if_true, if_false, reduceCtorEq, cond_true, cond_false]
  exact kk w1 ⟨h.tB, h.mB, h1, trnB_ok h.ok n, ML, m1.stay (u1.block mp h.tm.symm), m2⟩ ((ChgS.of_upd u1 (S := fun k => k = t) rfl).of_drw)
theorem f70_s (h : WkAt B w t c mp U hd F vn ov) (kk : Q (.int .i64 (if ov = true then 13 else 0)) w) : f70 (pv t) w Q := by
  unfold f70
  rw [pn_eq ptW]
  have c24 := h.c24
  cases ov with
  | true =>
    try simp only [↓reduceIte, ↓LL, LM, Value.cells, Nat.reduceAdd, Option.some.injEq, exists_eq_left', decide_true, decide_false, if_true, if_false, reduceCtorEq, cond_true, cond_false, Option.isNone, c24]
    exact kk
  | false =>
    try simp only [↓reduceIte, ↓LL, LM, Value.cells, Nat.reduceAdd, Option.some.injEq, exists_eq_left', decide_true, decide_false, if_true, if_false, reduceCtorEq, cond_true, cond_false, Option.isNone, c24]
    exact kk
/-- a piece of work, its cache, its pager -/
structure Wk (B : Nat) (w : World) (t c mp q mb p b : Nat) (v u : Value) (U : List Nat) (hd : ByteArray) (F : Int → Option ByteArray) (vn : Value) (ov : Bool) (C : Ca) (E : List (Nat × Ch)) (G : Pg) (D : Dv) : Prop where
  wk : WkAt B w t c mp U hd F vn ov
  cp : CP B w c q mb p b v u C E G D
  sep : ∀ k, fpX c q mb p b v u E k → ¬ fpW t mp k
theorem Wk.below (h : Wk B w t c mp q mb p b v u U hd F vn ov C E G D) (hb : Below w.heap.size w w') : Wk B w' t c mp q mb p b v u U hd F vn ov C E G D := ⟨h.wk.below hb, h.cp.below hb, h.sep⟩
theorem Wk.pages (h : Wk B w t c mp q mb p b v u U hd F vn ov C E G D) (kk : Q (.int .i64 (G.L.length : Nat)) w) : f28 (pv c) w Q := f28_s h.cp.ca h.cp.pg.hq h.cp.pg.hu kk
def thrB (U : List Nat) (N : Nat) (ov : Bool) (n : Int) : Int := if ov = true then 13 else if 0 < n ∧ n < (N : Int) ∧ isB U n.toNat = true then 0 else 7
theorem f74_s {n : Int} (h : Wk B w t c mp q mb p b v u U hd F vn ov C E G D) (hN : G.L.length ≤ 160) (kk : ∀ w', Below w.heap.size w w' → Q (.int .i64 (thrB U G.L.length ov n)) w') : f74 (pv t) (.int .i64 n) w Q := by
  unfold f74
  try simp only [↓reduceIte, ↓LL, LM, Value.cells, Nat.reduceAdd, Option.some.injEq, exists_eq_left', decide_true, decide_false, if_true, if_false, reduceCtorEq, cond_true, cond_false]
  refine f70_s h.wk ?_
  unfold thrB at kk
  cases ov with
  | true =>
    have z : ¬ (13 : Int) = 0 := by decide
    rw [if_pos rfl] at kk
    try simp only [↓reduceIte, ↓LL, LM, Value.cells, Nat.reduceAdd, Option.some.injEq, exists_eq_left', decide_true, decide_false, if_true, if_false, reduceCtorEq, cond_true, cond_false, ne_eq, z]
    exact kk w (Below.refl _ _)
  | false =>
    rw [if_neg (by decide)] at kk
    have c0 := h.wk.c0
    by_cases c1 : n ≤ 0
    · rw [if_neg (by omega)] at kk
      try simp only [↓reduceIte, ↓LL, LM, Value.cells, Nat.reduceAdd, Option.some.injEq, exists_eq_left', decide_true, decide_false, if_true, if_false, reduceCtorEq, cond_true, cond_false, ne_eq, c1]
      exact kk w (Below.refl _ _)
    · try simp only [↓reduceIte, ↓LL, LM, Value.cells, Nat.reduceAdd, Option.some.injEq, exists_eq_left', decide_true, decide_false, if_true, if_false, reduceCtorEq, cond_true, cond_false, ne_eq, c1, c0]
      refine h.pages ?_
      by_cases c2 : n < (G.L.length : Int)
      · have c2' : ¬ n ≥ ((G.L.length : Nat) : Int) := by omega
        have c2'' : ¬ ((G.L.length : Nat) : Int) ≤ n := by omega
        obtain ⟨n, rfl⟩ := Int.eq_ofNat_of_zero_le (show 0 ≤ n by omega)
        rw [Int.toNat_natCast] at kk
        try simp only [↓reduceIte, ↓LL, LM, Value.cells, Nat.reduceAdd, Option.some.injEq, exists_eq_left', decide_true, decide_false, if_true, if_false, reduceCtorEq, cond_true, cond_false, ne_eq, c2', c2'']
        refine f71_s h.wk (by omega) fun w2 b2 => ?_
        cases hb : isB U n with
        | true =>
          rw [hb, if_pos ⟨by omega, c2, rfl⟩] at kk
          try simp only [↓reduceIte, ↓LL, LM, Value.cells, Nat.reduceAdd, Option.some.injEq, exists_eq_left', decide_true, decide_false, if_true, if_false, reduceCtorEq, cond_true, cond_false]
          exact kk w2 b2
        | false =>
          rw [hb, if_neg (by rintro ⟨_, _, h⟩; cases h)] at kk
          try simp only [↓reduceIte, ↓LL, LM, Value.cells, Nat.reduceAdd, Option.some.injEq, exists_eq_left', decide_true, decide_false, if_true, if_false, reduceCtorEq, cond_true, cond_false]
          exact kk w2 b2
      · have c2' : n ≥ ((G.L.length : Nat) : Int) := by omega
        have c2'' : ((G.L.length : Nat) : Int) ≤ n := by omega
        rw [if_neg (by rintro ⟨_, h, _⟩; exact c2 h)] at kk
        try simp only [↓reduceIte, ↓LL, LM, Value.cells, Nat.reduceAdd, Option.some.injEq, exists_eq_left', decide_true, decide_false, if_true, if_false, reduceCtorEq, cond_true, cond_false, ne_eq, c2', c2'']
        exact kk w (Below.refl _ _)
theorem f73_s {n : Nat} (hn : n ≤ 1000) (kk : ∀ w', Below w.heap.size w w' → Q (.string (zs n)) w') : f73 (.int .i64 (n : Int)) w Q := by
  unfold f73
  refine rep_s hn fun w' hb => ?_
  try simp only [↓reduceIte, ↓LL, LM, Value.cells, Nat.reduceAdd, Option.some.injEq, exists_eq_left', decide_true, decide_false, if_true, if_false, reduceCtorEq, cond_true, cond_false]
  exact kk w' hb
def putF (F : Int → Option ByteArray) (n : Int) (s : ByteArray) : Int → Option ByteArray := fun m => if m = n then some s else F m
theorem WkAt.put {n : Int} {s : ByteArray} {K0 : M} (h : WkAt B w t c mp U hd F vn ov) (kk : ∀ w', WkAt B w' t c mp U hd (putF F n s) vn ov → ChgS (fun k => k = mp) w w' → K0 w' Q) : smu Tryz.prog (Instr.mapUpdate 107 (.map (some mp)) (.int .i64 n) (.string s)) K0 w Q := by
  obtain ⟨ML, h1, h2⟩ := h.mp
  refine upd_map (kv := kI) KKs h1 n (.string s) fun w1 hm1 u1 => kk w1 ⟨h.tB, h.mB, by rw [u1.block t h.tm]; exact h.hw, h.ok, _, hm1, fun m => ?_⟩ (ChgS.of_upd u1 rfl)
  rw [lk_put]
  unfold putF
  by_cases hm : m = n
  · rw [if_pos hm, if_pos hm]; rfl
  · rw [if_neg hm, if_neg hm]; exact h2 m
/-- the lowest page that isn't used -/
theorem take_loop (h : Wk B w t c mp q mb p b v u U hd F vn ov C E G D) (hN : G.L.length ≤ 160)
    (k0 : ∀ n : Nat, 1 ≤ n → n < G.L.length → isB U n = false → (∀ j, 1 ≤ j → j < n → isB U j = true) → ∀ w', Wk B w' t c mp q mb p b v u (trnB U n) hd (putF F ((n : Nat) : Int) (zs 256)) vn ov C E G D → ChgS (fpW t mp) w w' → Q (.tuple #[.int .i64 ((n : Nat) : Int), .int .i64 0]) w')
    (k8 : (∀ j, 1 ≤ j → j < G.L.length → isB U j = true) → ∀ w', Below w.heap.size w w' → Q (.tuple #[.int .i64 0, .int .i64 8]) w') :
    ∀ (d m i : Nat) (w1 : World), i + d = max G.L.length 1 → d < m → 1 ≤ i → Below w.heap.size w w1 → (∀ j, 1 ≤ j → j < i → isB U j = true) → itr (fun _ _ => bot) (f18_b2 f18_j1) m (pv t) (.int .i64 ((i : Nat) : Int)) w1 Q := by
  intro d
  induction d with
  | zero =>
    intro m i w1 hi hm h1 hb hall
    obtain ⟨m, rfl⟩ : ∃ x, m = x + 1 := ⟨m - 1, by omega⟩
    show f18_b2 f18_j1 _ _ _ w1 Q
    unfold f18_b2
    have hw := h.below hb
    have c0 := hw.wk.c0
    try simp only [↓reduceIte, ↓LL, LM, Value.cells, Nat.reduceAdd, Option.some.injEq, exists_eq_left', decide_true, decide_false, if_true, if_false, reduceCtorEq, cond_true, cond_false, c0]
    refine hw.pages ?_
    have cc : ¬ (i : Int) < ((G.L.length : Nat) : Int) := by omega
    try simp only [↓reduceIte, ↓LL, LM, Value.cells, Nat.reduceAdd, Option.some.injEq, exists_eq_left', decide_true, decide_false, if_true, if_false, reduceCtorEq, cond_true, cond_false, cc]
    unfold f18_j1
    try simp only [↓reduceIte, ↓LL, LM, Value.cells, Nat.reduceAdd, Option.some.injEq, exists_eq_left', decide_true, decide_false, if_true, if_false, reduceCtorEq, cond_true, cond_false]
    exact k8 (fun j hj hl => hall j hj (by omega)) w1 hb
  | succ d ih =>
    intro m i w1 hi hm h1 hb hall
    obtain ⟨m, rfl⟩ : ∃ x, m = x + 1 := ⟨m - 1, by omega⟩
    show f18_b2 f18_j1 _ _ _ w1 Q
    unfold f18_b2
    have hw := h.below hb
    have c0 := hw.wk.c0
    have hil : i < G.L.length := by omega
    have cc : (i : Int) < ((G.L.length : Nat) : Int) := by omega
    have h3 : IntKind.i64.wrap ((i : Int) + 1) = ((i + 1 : Nat) : Int) := by rw [w64 (by omega) (by omega)]; rfl
    try simp only [↓reduceIte, ↓LL, LM, Value.cells, Nat.reduceAdd, Option.some.injEq, exists_eq_left', decide_true, decide_false, if_true, if_false, reduceCtorEq, cond_true, cond_false, c0]
    refine hw.pages ?_
    try simp only [↓reduceIte, ↓LL, LM, Value.cells, Nat.reduceAdd, Option.some.injEq, exists_eq_left', decide_true, decide_false, if_true, if_false, reduceCtorEq, cond_true, cond_false, cc]
    refine f71_s hw.wk (by omega) fun w2 b2 => ?_
    have hw2 := hw.below b2
    have hb2 := bt hb b2
    cases hu : isB U i with
    | true =>
      try simp only [↓reduceIte, ↓LL, LM, Value.cells, Nat.reduceAdd, Option.some.injEq, exists_eq_left', decide_true, decide_false, if_true, if_false, reduceCtorEq, cond_true, cond_false, h3]
      exact ih m (i + 1) w2 (by omega) (by omega) (by omega) hb2 fun j hj hl => by
        rcases Nat.lt_or_ge j i with hlt | hge
        · exact hall j hj hlt
        · have : j = i := by omega
          rw [this]; exact hu
    | false =>
      try simp only [↓reduceIte, ↓LL, LM, Value.cells, Nat.reduceAdd, Option.some.injEq, exists_eq_left', decide_true, decide_false, if_true, if_false, reduceCtorEq, cond_true, cond_false]
      refine f72_s hw2.wk (by omega) fun w3 hk3 hg3 => ?_
      have c22 : (drw w3).cell? ⟨t, 22, none⟩ = some (.map (some mp)) := hk3.c22
      have c22' : w3.cell? ⟨t, 22, none⟩ = some (.map (some mp)) := c22
      have hg3W : ChgS (fpW t mp) w w3 := (ChgS.of_below hb2).trans (hg3.mono fun k hk => .inl hk) fun _ _ h => h
      try simp only [↓reduceIte, ↓LL, LM, Value.cells, Nat.reduceAdd, Option.some.injEq, exists_eq_left', decide_true, decide_false, if_true, if_false, reduceCtorEq, cond_true, cond_false, c22, c22']
      refine f73_s (n := 256) (by decide) fun w4 b4 => ?_
      have b4 := of_drw' b4
      have hk4 := hk3.below b4
      try simp only [↓reduceIte, ↓LL, LM, Value.cells, Nat.reduceAdd, Option.some.injEq, exists_eq_left', decide_true, decide_false, if_true, if_false, reduceCtorEq, cond_true, cond_false]
      refine ⟨by rw [Kld_e]; exact hk4.c22, ?_⟩
      refine hk4.put fun w5 hk5 hg5 => ?_
      try simp only [↓reduceIte, ↓LL, LM, Value.cells, Nat.reduceAdd, Option.some.injEq, exists_eq_left', decide_true, decide_false, if_true, if_false, reduceCtorEq, cond_true, cond_false]
      have hgA : ChgS (fpW t mp) w w5 := (hg3W.trans (ChgS.of_below b4) fun _ _ h => h).trans (hg5.mono fun k hk => .inr hk) fun _ _ h => h
      exact k0 i h1 hil hu hall w5 ⟨hk5, h.cp.chg hgA fun k hk hn => h.sep k hk hn, h.sep⟩ hgA
theorem f18_s (h : Wk B w t c mp q mb p b v u U hd F vn ov C E G D) (hN : G.L.length ≤ 160)
    (k13 : ov = true → Q (.tuple #[.int .i64 0, .int .i64 13]) w)
    (k0 : ov = false → ∀ n : Nat, 1 ≤ n → n < G.L.length → isB U n = false → (∀ j, 1 ≤ j → j < n → isB U j = true) → ∀ w', Wk B w' t c mp q mb p b v u (trnB U n) hd (putF F ((n : Nat) : Int) (zs 256)) vn ov C E G D → ChgS (fpW t mp) w w' → Q (.tuple #[.int .i64 ((n : Nat) : Int), .int .i64 0]) w')
    (k8 : ov = false → (∀ j, 1 ≤ j → j < G.L.length → isB U j = true) → ∀ w', Below w.heap.size w w' → Q (.tuple #[.int .i64 0, .int .i64 8]) w') : f18 (pv t) w Q := by
  unfold f18
  try simp only [↓reduceIte, ↓LL, LM, Value.cells, Nat.reduceAdd, Option.some.injEq, exists_eq_left', decide_true, decide_false, if_true, if_false, reduceCtorEq, cond_true, cond_false]
  refine f70_s h.wk ?_
  cases ov with
  | true =>
    have z : ¬ (13 : Int) = 0 := by decide
    try simp only [↓reduceIte, ↓LL, LM, Value.cells, Nat.reduceAdd, Option.some.injEq, exists_eq_left', decide_true, decide_false, if_true, if_false, reduceCtorEq, cond_true, cond_false, ne_eq, z]
    exact k13 rfl
  | false =>
    try simp only [↓reduceIte, ↓LL, LM, Value.cells, Nat.reduceAdd, Option.some.injEq, exists_eq_left', decide_true, decide_false, if_true, if_false, reduceCtorEq, cond_true, cond_false, ne_eq]
    exact ⟨_, take_loop h hN (k0 rfl) (k8 rfl) (max G.L.length 1 - 1) (max G.L.length 1) 1 w (by omega) (by omega) (Nat.le_refl _) (Below.refl _ _) fun j hj hl => by omega⟩
theorem f20_s {n : Int} (h : Wk B w t c mp q mb p b v u U hd F vn ov C E G D) (hN : G.L.length ≤ 160)
    (k1 : thrB U G.L.length ov n ≠ 0 → ∀ w', Below w.heap.size w w' → Q (.int .i64 (thrB U G.L.length ov n)) w')
    (k0 : thrB U G.L.length ov n = 0 → ∀ w', Wk B w' t c mp q mb p b v u (trnB U n.toNat) hd F vn ov C E G D → ChgS (fpW t mp) w w' → Q (.int .i64 0) w') : f20 (pv t) (.int .i64 n) w Q := by
  unfold f20
  try simp only [↓reduceIte, ↓LL, LM, Value.cells, Nat.reduceAdd, Option.some.injEq, exists_eq_left', decide_true, decide_false, if_true, if_false, reduceCtorEq, cond_true, cond_false]
  refine f74_s h hN fun w1 b1 => ?_
  by_cases ce : thrB U G.L.length ov n = 0
  · have hth : 0 < n ∧ n < (G.L.length : Int) ∧ isB U n.toNat = true := by
      unfold thrB at ce
      split at ce
      · cases ce
      · split at ce
        · rename_i h; exact h
        · cases ce
    have h1 := h.below b1
    obtain ⟨n, rfl⟩ := Int.eq_ofNat_of_zero_le (show 0 ≤ n by omega)
    rw [Int.toNat_natCast] at k0
    have k0' := k0 ce
    rw [ce]
    try simp only [↓reduceIte, ↓LL, LM, Value.cells, Nat.reduceAdd, Option.some.injEq, exists_eq_left', decide_true, decide_false, if_true, if_false, reduceCtorEq, cond_true, cond_false]
    refine f72_s h1.wk (by omega) fun w2 hk2 hg2 => ?_
    unfold f20_j1
    try simp only [↓reduceIte, ↓LL, LM, Value.cells, Nat.reduceAdd, Option.some.injEq, exists_eq_left', decide_true, decide_false, if_true, if_false, reduceCtorEq, cond_true, cond_false]
    have hg : ChgS (fpW t mp) w w2 := (ChgS.of_below b1).trans (hg2.mono fun k hk => .inl hk) fun _ _ h => h
    exact k0' w2 ⟨hk2, h.cp.chg hg fun k hk hn => h.sep k hk hn, h.sep⟩ hg
  · try simp only [↓reduceIte, ↓LL, LM, Value.cells, Nat.reduceAdd, Option.some.injEq, exists_eq_left', decide_true, decide_false, if_true, if_false, reduceCtorEq, cond_true, cond_false, ce]
    unfold f20_j1
    try simp only [↓reduceIte, ↓LL, LM, Value.cells, Nat.reduceAdd, Option.some.injEq, exists_eq_left', decide_true, decide_false, if_true, if_false, reduceCtorEq, cond_true, cond_false]
    exact k1 ce w1 b1
/-- how many pages from 1 to i - 1 are used -/
def cntB (U : List Nat) : Nat → Nat
  | 0 => 0
  | 1 => 0
  | i + 2 => cntB U (i + 1) + if isB U (i + 1) = true then 1 else 0
theorem cntB_succ (U : List Nat) {i : Nat} (h : 1 ≤ i) : cntB U (i + 1) = cntB U i + if isB U i = true then 1 else 0 := by
  obtain ⟨i, rfl⟩ : ∃ k, i = k + 1 := ⟨i - 1, by omega⟩
  rfl
theorem cntB_le (U : List Nat) : ∀ i, cntB U i ≤ i
  | 0 => Nat.le_refl _
  | 1 => by show 0 ≤ 1; omega
  | i + 2 => by
    have := cntB_le U (i + 1)
    show cntB U (i + 1) + (if isB U (i + 1) = true then 1 else 0) ≤ i + 2
    split <;> omega
theorem used_loop (h : Wk B w t c mp q mb p b v u U hd F vn ov C E G D) (hN : G.L.length ≤ 160) (kk : ∀ w', Below w.heap.size w w' → Q (.int .i64 ((1 + cntB U G.L.length : Nat) : Int)) w') :
    ∀ (d m i : Nat) (w1 : World), i + d = max G.L.length 1 → d < m → 1 ≤ i → Below w.heap.size w w1 → itr (fun _ _ _ => bot) (f19_b2 f19_j1) m (pv t) (.int .i64 ((1 + cntB U i : Nat) : Int)) (.int .i64 ((i : Nat) : Int)) w1 Q := by
  intro d
  induction d with
  | zero =>
    intro m i w1 hi hm h1 hb
    obtain ⟨m, rfl⟩ : ∃ x, m = x + 1 := ⟨m - 1, by omega⟩
    show f19_b2 f19_j1 _ _ _ _ w1 Q
    unfold f19_b2
    have hw := h.below hb
    have c0 := hw.wk.c0
    try simp only [↓reduceIte, ↓LL, LM, Value.cells, Nat.reduceAdd, Option.some.injEq, exists_eq_left', decide_true, decide_false, if_true, if_false, reduceCtorEq, cond_true, cond_false, c0]
    refine hw.pages ?_
    have cc : ¬ (i : Int) < ((G.L.length : Nat) : Int) := by omega
    try simp only [↓reduceIte, ↓LL, LM, Value.cells, Nat.reduceAdd, Option.some.injEq, exists_eq_left', decide_true, decide_false, if_true, if_false, reduceCtorEq, cond_true, cond_false, cc]
    unfold f19_j1
    try simp only [↓reduceIte, ↓LL, LM, Value.cells, Nat.reduceAdd, Option.some.injEq, exists_eq_left', decide_true, decide_false, if_true, if_false, reduceCtorEq, cond_true, cond_false]
    have e : cntB U i = cntB U G.L.length := by
      rcases Nat.lt_or_ge 1 G.L.length with hlt | hge
      · have : i = G.L.length := by omega
        rw [this]
      · have : i = 1 := by omega
        rw [this]
        rcases (by omega : G.L.length = 0 ∨ G.L.length = 1) with e | e <;> rw [e] <;> rfl
    rw [e]
    exact kk w1 hb
  | succ d ih =>
    intro m i w1 hi hm h1 hb
    obtain ⟨m, rfl⟩ : ∃ x, m = x + 1 := ⟨m - 1, by omega⟩
    show f19_b2 f19_j1 _ _ _ _ w1 Q
    unfold f19_b2
    have hw := h.below hb
    have c0 := hw.wk.c0
    have cc : (i : Int) < ((G.L.length : Nat) : Int) := by omega
    have h3 : IntKind.i64.wrap ((i : Int) + 1) = ((i + 1 : Nat) : Int) := by rw [w64 (by omega) (by omega)]; rfl
    have hcl := cntB_le U i
    have hcs := cntB_succ U h1
    have h4 : IntKind.i64.wrap (((1 + cntB U i : Nat) : Int) + 1) = ((1 + cntB U i + 1 : Nat) : Int) := by rw [w64 (by omega) (by omega)]; rfl
    try simp only [↓reduceIte, ↓LL, LM, Value.cells, Nat.reduceAdd, Option.some.injEq, exists_eq_left', decide_true, decide_false, if_true, if_false, reduceCtorEq, cond_true, cond_false, c0]
    refine hw.pages ?_
    try simp only [↓reduceIte, ↓LL, LM, Value.cells, Nat.reduceAdd, Option.some.injEq, exists_eq_left', decide_true, decide_false, if_true, if_false, reduceCtorEq, cond_true, cond_false, cc]
    refine f71_s hw.wk (by omega) fun w2 b2 => ?_
    have hb2 := bt hb b2
    have nx := ih m (i + 1) w2 (by omega) (by omega) (by omega) hb2
    rw [hcs] at nx
    cases hu : isB U i with
    | true =>
      rw [hu, if_pos rfl] at nx
      try simp only [↓reduceIte, ↓LL, LM, Value.cells, Nat.reduceAdd, Option.some.injEq, exists_eq_left', decide_true, decide_false, if_true, if_false, reduceCtorEq, cond_true, cond_false, h4]
      unfold f19_j3
      try simp only [↓reduceIte, ↓LL, LM, Value.cells, Nat.reduceAdd, Option.some.injEq, exists_eq_left', decide_true, decide_false, if_true, if_false, reduceCtorEq, cond_true, cond_false, h3]
      exact nx
    | false =>
      rw [hu, if_neg (by decide)] at nx
      try simp only [↓reduceIte, ↓LL, LM, Value.cells, Nat.reduceAdd, Option.some.injEq, exists_eq_left', decide_true, decide_false, if_true, if_false, reduceCtorEq, cond_true, cond_false]
      unfold f19_j3
      try simp only [↓reduceIte, ↓LL, LM, Value.cells, Nat.reduceAdd, Option.some.injEq, exists_eq_left', decide_true, decide_false, if_true, if_false, reduceCtorEq, cond_true, cond_false, h3]
      exact nx
theorem f19_s (h : Wk B w t c mp q mb p b v u U hd F vn ov C E G D) (hN : G.L.length ≤ 160) (k13 : ov = true → Q (.int .i64 0) w) (kk : ov = false → ∀ w', Below w.heap.size w w' → Q (.int .i64 ((1 + cntB U G.L.length : Nat) : Int)) w') : f19 (pv t) w Q := by
  unfold f19
  try simp only [↓reduceIte, ↓LL, LM, Value.cells, Nat.reduceAdd, Option.some.injEq, exists_eq_left', decide_true, decide_false, if_true, if_false, reduceCtorEq, cond_true, cond_false]
  refine f70_s h.wk ?_
  cases ov with
  | true =>
    have z : ¬ (13 : Int) = 0 := by decide
    try simp only [↓reduceIte, ↓LL, LM, Value.cells, Nat.reduceAdd, Option.some.injEq, exists_eq_left', decide_true, decide_false, if_true, if_false, reduceCtorEq, cond_true, cond_false, ne_eq, z]
    exact k13 rfl
  | false =>
    try simp only [↓reduceIte, ↓LL, LM, Value.cells, Nat.reduceAdd, Option.some.injEq, exists_eq_left', decide_true, decide_false, if_true, if_false, reduceCtorEq, cond_true, cond_false, ne_eq]
    exact ⟨_, used_loop h hN (kk rfl) (max G.L.length 1 - 1) (max G.L.length 1) 1 w (by omega) (by omega) (Nat.le_refl _) (Below.refl _ _)⟩
end
end Go.Proofs.YtongpnolikkknaaGreatDoor

set_option maxRecDepth 20000
set_option maxHeartbeats 4000000
namespace Go.Proofs.YtongpnolikkknaaGreatDoor
open Sh RowKit Go.MapKept
theorem buildSt (s : ByteArray) (m : Nat) (w : World) : (Instr.build 110 #[(1, .string s), (2, .map (some m))]).run Tryz.prog w = .ok (.agg #[.int .u8 0, .int .u8 0, .int .u8 0, .int .u8 0, .int .u8 0, .int .u8 0, .int .u8 0, .int .u8 0, .int .u8 0, .int .u8 0, .int .u8 0, .int .u8 0, .int .u8 0, .int .u8 0, .int .u8 0, .int .u8 0, .int .u8 0, .int .u8 0, .int .u8 0, .int .u8 0, .string s, .map (some m)]) w := by
  kernel_rfl
theorem buildWk (c : Nat) (s : ByteArray) (m : Nat) (w : World) : (Instr.build 113 #[(0, pv c), (1, .agg #[.int .u8 0, .int .u8 0, .int .u8 0, .int .u8 0, .int .u8 0, .int .u8 0, .int .u8 0, .int .u8 0, .int .u8 0, .int .u8 0, .int .u8 0, .int .u8 0, .int .u8 0, .int .u8 0, .int .u8 0, .int .u8 0, .int .u8 0, .int .u8 0, .int .u8 0, .int .u8 0, .string s, .map (some m)])]).run Tryz.prog w = .ok (.agg (wCell c (List.replicate 20 0) s m (.slice none 0 0) false)) w := by
  kernel_rfl
def U0 (s : ByteArray) : List Nat := ((byL s).take 20).map Int.toNat
theorem U0_ok {s : ByteArray} (h : s.size = 256) : UOk (U0 s) := by
  refine ⟨by unfold U0; rw [List.length_map, List.length_take, byL_len]; omega, fun x hx => ?_⟩
  obtain ⟨y, hy, rfl⟩ := List.mem_map.1 hx
  have := byL_nn (List.mem_of_mem_take hy)
  omega
theorem U0_map {s : ByteArray} : ((U0 s).map fun (x : Nat) => Value.int .u8 (x : Int)) = ((byL s).take 20).map (.int .u8) := by
  unfold U0
  rw [List.map_map]
  refine List.map_congr_left fun x hx => ?_
  have := byL_nn (List.mem_of_mem_take hx)
  show Value.int .u8 ((x.toNat : Nat) : Int) = _
  rw [Int.toNat_of_nonneg this.1]
theorem wc_copy {c mp : Nat} {s hd : ByteArray} (h : s.size = 256) : (ovl (wCell c (List.replicate 20 0) hd mp (.slice none 0 0) false).toList 1 (((byL s).take 20).map (.int .u8))).toArray = wCell c (U0 s) hd mp (.slice none 0 0) false := by
  have hl : (((byL s).take 20).map (Value.int .u8)).length = 20 := by rw [List.length_map, List.length_take, byL_len]; omega
  unfold ovl
  rw [hl]
  unfold wCell
  rw [U0_map]
  rfl
section
variable {B : Nat} {W w w' : World} {t c mp q mb p b : Nat} {U : List Nat} {hd : ByteArray} {F : Int → Option ByteArray} {vn v u vd : Value} {ov : Bool} {C : Ca} {E : List (Nat × Ch)} {G : Pg} {D : Dv} {Q : Value → World → Prop}
theorem begin_s (h : CP B w c q mb p b v u C E G D) (hg : GoodK C.K G.L) (hz : ∀ s ∈ G.L, s.size = 256) (hL : 1 ≤ G.L.length) (h0 : 0 ≤ C.h) (h1 : C.h ≤ 1000000) (m0 : 0 ≤ C.m) (m1 : C.m ≤ 1000000)
    (kk : ∀ w' t mp E', Wk B w' t c mp q mb p b v u (U0 (G.L.getD 0 ⟨#[]⟩)) ((G.L.getD 0 ⟨#[]⟩).extract 20 (G.L.getD 0 ⟨#[]⟩).size) (fun _ => none) (.slice none 0 0) false (rdC C G.L 0).2 E' G D → GoodK (rdC C G.L 0).2.K G.L → (∀ k, fpX c q mb p b v u E' k → fpX c q mb p b v u E k ∨ w.heap.size ≤ k) → ChgS (fpX c q mb p b v u E) w w' → w.heap.size ≤ t → w.heap.size ≤ mp → Q (.tuple #[pv t, .int .i64 0]) w') : f16 (pv c) w Q := by
  unfold f16
  rw [pn_eq ptK]
  try simp only [↓reduceIte, ↓LL, LM, Value.cells, Nat.reduceAdd, Option.some.injEq, exists_eq_left', decide_true, decide_false, if_true, if_false, reduceCtorEq, cond_true, cond_false, Option.isNone]
  refine h.read h0 h1 m0 m1 fun w2 E2 h2 hg2 hk2 => ?_
  obtain ⟨e1, g1⟩ := Good.rd (C := C) (n := 0) hg
  rw [e1]
  have hlt : 0 < G.L.length := by omega
  have ep : pgR G.L 0 = (G.L.getD 0 ⟨#[]⟩, 0) := by
    unfold pgR
    rw [if_pos ⟨Int.le_refl 0, by omega⟩]; rfl
  have hs : (G.L.getD 0 ⟨#[]⟩).size = 256 := hz _ (List.mem_of_getElem? (getD_some hlt))
  rw [ep]
  generalize G.L.getD 0 ⟨#[]⟩ = s at *
  have z2 : w.heap.size ≤ w2.heap.size := hg2.size
  try simp only [↓reduceIte, ↓LL, LM, Value.cells, Nat.reduceAdd, Option.some.injEq, exists_eq_left', decide_true, decide_false, if_true, if_false, reduceCtorEq, cond_true, cond_false, get0, get1, ne_eq]
  refine sls_from (k := 20) (by omega) ?_
  try simp only [↓reduceIte, ↓LL, LM, Value.cells, Nat.reduceAdd, Option.some.injEq, exists_eq_left', decide_true, decide_false, if_true, if_false, reduceCtorEq, cond_true, cond_false]
  refine mm_map (kv := kI) fun w3 hm3 b3 => ?_
  try simp only [↓reduceIte, ↓LL, LM, Value.cells, Nat.reduceAdd, Option.some.injEq, exists_eq_left', decide_true, decide_false, if_true, if_false, reduceCtorEq, cond_true, cond_false]
  rw [smr_run (buildSt _ _ w3)]
  try simp only [↓reduceIte, ↓LL, LM, Value.cells, Nat.reduceAdd, Option.some.injEq, exists_eq_left', decide_true, decide_false, if_true, if_false, reduceCtorEq, cond_true, cond_false]
  rw [smr_run (buildWk c _ _ w3)]
  have b4 := b_psh w3 (.cells (wCell c (List.replicate 20 0) (s.extract 20 s.size) w2.heap.size (.slice none 0 0) false) 113)
  have k4 := blk_psh_new (w := w3) (o := .cells (wCell c (List.replicate 20 0) (s.extract 20 s.size) w2.heap.size (.slice none 0 0) false) 113)
  try simp only [↓reduceIte, ↓LL, LM, Value.cells, Nat.reduceAdd, Option.some.injEq, exists_eq_left', decide_true, decide_false, if_true, if_false, reduceCtorEq, cond_true, cond_false]
  generalize psh w3 (.cells (wCell c (List.replicate 20 0) (s.extract 20 s.size) w2.heap.size (.slice none 0 0) false) 113) = w4 at *
  have hm4 : MapAt kI w4 w2.heap.size ([] : List (Int × Value)) := hm3.below b4
  have z3 : w2.heap.size < w3.heap.size := hm3.lt
  refine sla_at (by decide) ?_
  have hr := run_copy_cut (P := Tryz.prog) (dT := 42) (sT := 9) (ty := 3) (o := 1) (dLen := 20) (dCap := 20) (s := s) Tryz.underlying42 (by kernel_rfl) k4 (by omega) (by rw [wc_size (by simp)]; omega)
  refine ⟨_, _, hr, ?_⟩
  obtain ⟨u5, k5⟩ := Upd_setRow (cs := (ovl (wCell c (List.replicate 20 0) (s.extract 20 s.size) w2.heap.size (.slice none 0 0) false).toList 1 (((byL s).take 20).map (.int .u8))).toArray) k4
  rw [wc_copy hs] at u5 k5 ⊢
  generalize w4.setRow w3.heap.size (wCell c (U0 s) (s.extract 20 s.size) w2.heap.size (.slice none 0 0) false) = w5 at *
  have b5 : Below w2.heap.size w2 w5 := (bt b3 b4).trans (u5.below (by omega))
  try simp only [↓reduceIte, ↓LL, LM, Value.cells, Nat.reduceAdd, Option.some.injEq, exists_eq_left', decide_true, decide_false, if_true, if_false, reduceCtorEq, cond_true, cond_false]
  have hB : B ≤ w2.heap.size := by
    have := h2.fpB c (.inl (.inl (.inl rfl)))
    have := h2.lt c (.inl (.inl (.inl rfl)))
    omega
  refine kk w5 w3.heap.size w2.heap.size E2 ⟨⟨by omega, hB, k5, U0_ok hs, [], hm4.stay (u5.block _ (by omega)), fun n => rfl⟩, h2.below b5, fun k hk hn => ?_⟩ g1 hk2 (hg2.trans (ChgS.of_below b5) fun _ _ h => h) (by omega) z2
  have := h2.lt k hk
  rcases hn with rfl | rfl <;> omega
theorem f17_s {n : Nat} (h1 : 1 ≤ n) (h2 : n ≤ 160) (kk : ∀ w' c q mb p b v u, CP w.heap.size w' c q mb p b v u ⟨szN 4, [], 0, 0⟩ [] ⟨List.replicate n (zs 256), false, 0⟩ (newD (126 + 4 * n)) → Below w.heap.size w w' → Q (pv c) w') : f17 (.int .i64 ((n : Nat) : Int)) w Q := by
  unfold f17
  refine f39_s ⟨by omega, by omega⟩ ?_
  try simp only [↓reduceIte, ↓LL, LM, Value.cells, Nat.reduceAdd, Option.some.injEq, exists_eq_left', decide_true, decide_false, if_true, if_false, reduceCtorEq, cond_true, cond_false]
  refine f38_s (B := w.heap.size) (126 + 4 * ((n : Nat) : Int)) (k := 126 + 4 * n) (by omega) (Nat.le_refl _) fun w2 p v b pw bw hd hf b2 => ?_
  try simp only [↓reduceIte, ↓LL, LM, Value.cells, Nat.reduceAdd, Option.some.injEq, exists_eq_left', decide_true, decide_false, if_true, if_false, reduceCtorEq, cond_true, cond_false]
  refine open_at (B0 := w.heap.size) hd (Int.le_refl 0) (by show (0 + 200 : Int) ≤ 1000000; decide) (Nat.le_refl _) b2.size (open_new (m := n) (N := 126 + 4 * n) (by omega) (by omega) (by omega)) fun w3 q u q3 h3 _ _ hc3 => ?_
  have b3 := bs b2 (fpD_B hd) b2.size hc3
  try simp only [↓reduceIte, ↓LL, LM, Value.cells, Nat.reduceAdd, Option.some.injEq, exists_eq_left', decide_true, decide_false, if_true, if_false, reduceCtorEq, cond_true, cond_false, get0, get1, ne_eq]
  refine cp_new (n := 4) h3 b3.size fun w4 c mb h4 _ b4 => ?_
  try simp only [↓reduceIte, ↓LL, LM, Value.cells, Nat.reduceAdd, Option.some.injEq, exists_eq_left', decide_true, decide_false, if_true, if_false, reduceCtorEq, cond_true, cond_false]
  exact kk w4 c q mb p b v u h4 (bt b3 b4)
theorem isB_zero {n : Nat} : isB (U0 (zs 256)) n = false := by
  have e : U0 (zs 256) = List.replicate 20 0 := by unfold U0; rw [byL_zs, List.take_replicate, List.map_replicate]; rfl
  have hb : bytN (List.replicate 20 0) n = 0 := by
    unfold bytN
    rw [List.getD_eq_getElem?_getD, List.getElem?_replicate]
    split <;> rfl
  unfold isB
  rw [e, hb, Nat.zero_testBit]
/-- page 1 to k - 1 are used, no others -/
def HU (U : List Nat) (S : Nat → Bool) : Prop := ∀ j, j < 160 → isB U j = S j
theorem HU.trn {S : Nat → Bool} (hu : UOk U) (h : HU U S) {n : Nat} (hn : n < 160) : HU (trnB U n) fun j => if j = n then !S j else S j := by
  intro j hj
  rw [isB_trn hu hn j, h j hj]
theorem cntB_all {i : Nat} (h : ∀ j, 1 ≤ j → j < i → isB U j = true) : cntB U i = i - 1 := by
  induction i with
  | zero => rfl
  | succ i ih =>
    by_cases c : 1 ≤ i
    · rw [cntB_succ U c, ih fun j h1 h2 => h j h1 (by omega), h i c (by omega), if_pos rfl]; omega
    · have : i = 0 := by omega
      rw [this]; rfl
theorem f14_s (kk : ∀ w', Below w.heap.size w w' → Q (.bool true) w') : f14 w Q := by
  unfold f14
  refine f17_s (n := 4) (by decide) (by decide) fun w1 c q mb p b v u h1 b1 => ?_
  try simp only [↓reduceIte, ↓LL, LM, Value.cells, Nat.reduceAdd, Option.some.injEq, exists_eq_left', decide_true, decide_false, if_true, if_false, reduceCtorEq, cond_true, cond_false]
  have lN : (List.replicate 4 (zs 256)).length = 4 := rep_len 4
  have eg : (List.replicate 4 (zs 256)).getD 0 ⟨#[]⟩ = zs 256 := rfl
  refine begin_s h1 (fun x hx => by simp at hx) (rep_256 4) (by show 1 ≤ (List.replicate 4 (zs 256)).length; rw [lN]; decide) (Int.le_refl 0) (by decide) (Int.le_refl 0) (by decide) fun w2 t mp E2 h2 _ _ hg2 _ _ => ?_
  have h2 : Wk w.heap.size w2 t c mp q mb p b v u (U0 (zs 256)) ((zs 256).extract 20 (zs 256).size) (fun _ => none) (.slice none 0 0) false _ E2 ⟨List.replicate 4 (zs 256), false, 0⟩ (newD (126 + 4 * 4)) := h2
  have b2 : Below w.heap.size w w2 := b1.trans (hg2.below (fun k hk => h1.fpB k hk) b1.size)
  generalize (zs 256).extract 20 (zs 256).size = hd at *
  generalize (rdC ⟨szN 4, [], 0, 0⟩ (⟨List.replicate 4 (zs 256), false, 0⟩ : Pg).L 0).2 = C2 at *
  try simp only [↓reduceIte, ↓LL, LM, Value.cells, Nat.reduceAdd, Option.some.injEq, exists_eq_left', decide_true, decide_false, if_true, if_false, reduceCtorEq, cond_true, cond_false, get0, get1, ne_eq]
  rw [pn_eq ptW]
  try simp only [↓reduceIte, ↓LL, LM, Value.cells, Nat.reduceAdd, Option.some.injEq, exists_eq_left', decide_true, decide_false, if_true, if_false, reduceCtorEq, cond_true, cond_false, Option.isNone]
  have hN4 : (⟨List.replicate 4 (zs 256), false, 0⟩ : Pg).L.length = 4 := lN
  have u2 : HU (U0 (zs 256)) fun _ => false := fun j _ => isB_zero
  refine f18_s h2 (by rw [hN4]; decide) (fun h => by cases h) (fun _ n n1 n2 nf nall w3 h3 hg3 => ?_) (fun _ hall => by have := hall 1 (by decide) (by rw [hN4]; decide); rw [u2 1 (by decide)] at this; cases this)
  rw [hN4] at n2
  have en : n = 1 := by
    apply Classical.byContradiction
    intro hne
    have := nall 1 (Nat.le_refl _) (by omega)
    rw [u2 1 (by decide)] at this; cases this
  subst en
  have u3 := u2.trn h2.wk.ok (n := 1) (by decide)
  have b3 : Below w.heap.size w w3 := b2.trans (hg3.below (fun k hk => h2.wk.fpB k hk) b2.size)
  try simp only [↓reduceIte, ↓LL, LM, Value.cells, Nat.reduceAdd, Option.some.injEq, exists_eq_left', decide_true, decide_false, if_true, if_false, reduceCtorEq, cond_true, cond_false, get0, get1]
  refine f18_s h3 (by rw [hN4]; decide) (fun h => by cases h) (fun _ n n1 n2 nf nall w4 h4 hg4 => ?_) (fun _ hall => by have := hall 2 (by decide) (by rw [hN4]; decide); rw [u3 2 (by decide)] at this; cases this)
  rw [hN4] at n2
  have en : n = 2 := by
    apply Classical.byContradiction
    intro hne
    rcases (by omega : n = 1 ∨ 2 < n) with h | h
    · rw [h, u3 1 (by decide)] at nf; cases nf
    · have := nall 2 (by decide) h
      rw [u3 2 (by decide)] at this; cases this
  subst en
  have u4 := u3.trn h3.wk.ok (n := 2) (by decide)
  have b4 : Below w.heap.size w w4 := b3.trans (hg4.below (fun k hk => h3.wk.fpB k hk) b3.size)
  try simp only [↓reduceIte, ↓LL, LM, Value.cells, Nat.reduceAdd, Option.some.injEq, exists_eq_left', decide_true, decide_false, if_true, if_false, reduceCtorEq, cond_true, cond_false, get0, get1]
  have et : thrB (trnB (trnB (U0 (zs 256)) 1) 2) (⟨List.replicate 4 (zs 256), false, 0⟩ : Pg).L.length false 1 = 0 := by
    unfold thrB
    have hu1 : isB (trnB (trnB (U0 (zs 256)) 1) 2) (1 : Int).toNat = true := u4 1 (by decide)
    rw [if_neg (by decide), if_pos ⟨by decide, by rw [hN4]; decide, hu1⟩]
  refine f20_s h4 (by rw [hN4]; decide) (fun hne => absurd et hne) (fun _ w5 h5 hg5 => ?_)
  have h5 : Wk w.heap.size w5 t c mp q mb p b v u (trnB (trnB (trnB (U0 (zs 256)) 1) 2) 1) hd _ (.slice none 0 0) false C2 E2 ⟨List.replicate 4 (zs 256), false, 0⟩ (newD (126 + 4 * 4)) := h5
  have u5 := u4.trn h4.wk.ok (n := 1) (by decide)
  have b5 : Below w.heap.size w w5 := b4.trans (hg5.below (fun k hk => h4.wk.fpB k hk) b4.size)
  try simp only [↓reduceIte, ↓LL, LM, Value.cells, Nat.reduceAdd, Option.some.injEq, exists_eq_left', decide_true, decide_false, if_true, if_false, reduceCtorEq, cond_true, cond_false, get0, get1]
  refine f18_s h5 (by rw [hN4]; decide) (fun h => by cases h) (fun _ n n1 n2 nf nall w6 h6 hg6 => ?_) (fun _ hall => by have := hall 1 (by decide) (by rw [hN4]; decide); rw [u5 1 (by decide)] at this; cases this)
  rw [hN4] at n2
  have en : n = 1 := by
    apply Classical.byContradiction
    intro hne
    have := nall 1 (Nat.le_refl _) (by omega)
    rw [u5 1 (by decide)] at this; cases this
  subst en
  have u6 := u5.trn h5.wk.ok (n := 1) (by decide)
  have b6 : Below w.heap.size w w6 := b5.trans (hg6.below (fun k hk => h5.wk.fpB k hk) b5.size)
  have ec : 1 + cntB (trnB (trnB (trnB (trnB (U0 (zs 256)) 1) 2) 1) 1) (⟨List.replicate 4 (zs 256), false, 0⟩ : Pg).L.length = 3 := by
    rw [hN4]
    have q1 := u6 1 (by decide)
    have q2 := u6 2 (by decide)
    have q3 := u6 3 (by decide)
    show 1 + (((0 + if isB _ 1 = true then 1 else 0) + if isB _ 2 = true then 1 else 0) + if isB _ 3 = true then 1 else 0) = 3
    rw [q1, q2, q3]
    rfl
  have z1 : ((1 : Nat) : Int) = 1 := rfl
  have z2 : ((2 : Nat) : Int) = 2 := rfl
  try simp only [↓reduceIte, ↓LL, LM, Value.cells, Nat.reduceAdd, Option.some.injEq, exists_eq_left', decide_true, decide_false, if_true, if_false, reduceCtorEq, cond_true, cond_false, get0, get1, z1, z2]
  refine f19_s h6 (by rw [hN4]; decide) (fun h => by cases h) fun _ w7 b7 => ?_
  rw [ec]
  have z3 : ((3 : Nat) : Int) = 3 := rfl
  try simp only [↓reduceIte, ↓LL, LM, Value.cells, Nat.reduceAdd, Option.some.injEq, exists_eq_left', decide_true, decide_false, if_true, if_false, reduceCtorEq, cond_true, cond_false, z1, z2, z3]
  exact kk w7 (bt b6 b7)
end
end Go.Proofs.YtongpnolikkknaaGreatDoor

set_option maxRecDepth 20000
set_option maxHeartbeats 4000000
namespace Go.Proofs.YtongpnolikkknaaGreatDoor
open Sh RowKit Go.MapKept
/-- pages 1 to k - 1 -/
def upto1 (k : Nat) : Nat → Bool := fun j => decide (1 ≤ j ∧ j < k)
section
variable {B : Nat} {W w w' : World} {t c mp q mb p b : Nat} {U : List Nat} {hd : ByteArray} {F : Int → Option ByteArray} {vn v u vd : Value} {ov : Bool} {C : Ca} {E : List (Nat × Ch)} {G : Pg} {D : Dv} {Q : Value → World → Prop}
theorem f15_s {n : Int} (kk : Q (.int .i64 ((pagesN n : Nat) : Int)) w) : f15 (.int .i64 n) w Q := by
  unfold f15
  have h := um_bd n (show (0 : Int) < 40 by decide)
  have e1 : (IntKind.u64.wrap n).tmod 40 = um n 40 := rfl
  have e2 : IntKind.i64.wrap (um n 40) = um n 40 := w64 (by omega) (by omega)
  have e3 : IntKind.i64.wrap (1 + um n 40) = ((pagesN n : Nat) : Int) := by rw [w64 (by omega) (by omega)]; unfold pagesN; omega
  have z : ¬ (40 : Int) = 0 := by decide
  try simp only [↓reduceIte, ↓LL, LM, Value.cells, Nat.reduceAdd, Option.some.injEq, exists_eq_left', decide_true, decide_false, if_true, if_false, reduceCtorEq, cond_true, cond_false, e1, e2, e3, z]
  first
    | exact kk
    | exact ⟨by decide, kk⟩
    | skip
  try simp only [↓reduceIte, ↓LL, LM, Value.cells, Nat.reduceAdd, Option.some.injEq, exists_eq_left', decide_true, decide_false, if_true, if_false, reduceCtorEq, cond_true, cond_false, e1, e2, e3, z]
  try exact kk
theorem takes_loop {K : Value → Value → Value → M} (hN : G.L.length ≤ 40) (hN1 : 1 ≤ G.L.length) : ∀ (d m i : Nat) (w : World) (U : List Nat) (F : Int → Option ByteArray), i + d = G.L.length → d < m → 1 ≤ i → Wk W.heap.size w t c mp q mb p b v u U hd F vn false C E G D → HU U (upto1 i) → Below W.heap.size W w →
    (∀ w U F, Wk W.heap.size w t c mp q mb p b v u U hd F vn false C E G D → HU U (upto1 G.L.length) → Below W.heap.size W w → K (.int .i64 ((G.L.length : Nat) : Int)) vd (pv t) w Q) →
    itr (fun _ _ _ _ => bot) (f3_b2 K) m (.int .i64 ((G.L.length : Nat) : Int)) vd (pv t) (.int .i64 ((i : Nat) : Int)) w Q := by
  intro d
  induction d with
  | zero =>
    intro m i w U F hi hm h1 hw hu hb kk
    obtain ⟨m, rfl⟩ : ∃ x, m = x + 1 := ⟨m - 1, by omega⟩
    show f3_b2 K _ _ _ _ _ w Q
    unfold f3_b2
    have cc : ¬ (i : Int) < ((G.L.length : Nat) : Int) := by omega
    try simp only [↓reduceIte, ↓LL, LM, Value.cells, Nat.reduceAdd, Option.some.injEq, exists_eq_left', decide_true, decide_false, if_true, if_false, reduceCtorEq, cond_true, cond_false, cc]
    have : i = G.L.length := by omega
    rw [this] at hu
    exact kk w U F hw hu hb
  | succ d ih =>
    intro m i w U F hi hm h1 hw hu hb kk
    obtain ⟨m, rfl⟩ : ∃ x, m = x + 1 := ⟨m - 1, by omega⟩
    show f3_b2 K _ _ _ _ _ w Q
    unfold f3_b2
    have cc : (i : Int) < ((G.L.length : Nat) : Int) := by omega
    have h3 : IntKind.i64.wrap ((i : Int) + 1) = ((i + 1 : Nat) : Int) := by rw [w64 (by omega) (by omega)]; rfl
    have uni : isB U i = false := by
      rw [hu i (by omega)]
      exact decide_eq_false (by omega)
    try simp only [↓reduceIte, ↓LL, LM, Value.cells, Nat.reduceAdd, Option.some.injEq, exists_eq_left', decide_true, decide_false, if_true, if_false, reduceCtorEq, cond_true, cond_false, cc]
    refine f18_s hw (by omega) (fun h => by cases h) (fun _ n n1 n2 nf nall w3 hw3 hg3 => ?_) (fun _ hall => by have := hall i h1 (by omega); rw [uni] at this; cases this)
    have en : n = i := by
      apply Classical.byContradiction
      intro hne
      rcases Nat.lt_or_ge n i with h | h
      · rw [hu n (by omega)] at nf
        have := of_decide_eq_false nf
        omega
      · have := nall i h1 (by omega)
        rw [uni] at this; cases this
    subst en
    have hb3 : Below W.heap.size W w3 := hb.trans (hg3.below (fun k hk => hw.wk.fpB k hk) hb.size)
    have hu3 : HU (trnB U n) (upto1 (n + 1)) := by
      intro j hj
      rw [hu.trn hw.wk.ok (n := n) (by omega) j hj]
      unfold upto1
      show (if j = n then !decide (1 ≤ j ∧ j < n) else decide (1 ≤ j ∧ j < n)) = decide (1 ≤ j ∧ j < n + 1)
      by_cases c : j = n
      · subst c
        rw [if_pos rfl, decide_eq_false (by omega), decide_eq_true (by omega)]; rfl
      · rw [if_neg c]
        by_cases c2 : 1 ≤ j ∧ j < n
        · rw [decide_eq_true c2, decide_eq_true (by omega)]
        · rw [decide_eq_false c2, decide_eq_false (by omega)]
    try simp only [↓reduceIte, ↓LL, LM, Value.cells, Nat.reduceAdd, Option.some.injEq, exists_eq_left', decide_true, decide_false, if_true, if_false, reduceCtorEq, cond_true, cond_false, get0, get1, ne_eq, h3]
    exact ih m (n + 1) w3 _ _ (by omega) (by omega) (by omega) hw3 hu3 hb3 kk
theorem thr_full {N : Nat} {d : Int} (hu : HU U (upto1 N)) (hN : N ≤ 160) : thrB U N false d = if 0 < d ∧ d < (N : Int) then 0 else 7 := by
  unfold thrB
  rw [if_neg (by decide)]
  by_cases c : 0 < d ∧ d < (N : Int)
  · have hd : isB U d.toNat = true := by
      rw [hu d.toNat (by omega)]
      exact decide_eq_true (by omega)
    rw [if_pos c, if_pos ⟨c.1, c.2, hd⟩]
  · rw [if_neg c, if_neg (fun h => c ⟨h.1, h.2.1⟩)]
theorem drops_loop {l : List Int} {K : Value → Value → M} (hl : rdI .i64 W vd l) (hN : G.L.length ≤ 40) (hN1 : 1 ≤ G.L.length) : ∀ (d m i : Nat) (w : World) (U : List Nat) (F : Int → Option ByteArray), i + d = min l.length 100 → d < m → Wk W.heap.size w t c mp q mb p b v u U hd F vn false C E G D → HU U (upto1 G.L.length) → Below W.heap.size W w →
    (∀ w U F, Wk W.heap.size w t c mp q mb p b v u U hd F vn false C E G D → HU U (upto1 G.L.length) → Below W.heap.size W w → K (.int .i64 ((G.L.length : Nat) : Int)) (pv t) w Q) →
    itr (fun _ _ _ _ => bot) (f3_b4 K) m (.int .i64 ((G.L.length : Nat) : Int)) vd (pv t) (.int .i64 ((i : Nat) : Int)) w Q := by
  intro d
  induction d with
  | zero =>
    intro m i w U F hi hm hw hu hb kk
    obtain ⟨m, rfl⟩ : ∃ x, m = x + 1 := ⟨m - 1, by omega⟩
    show f3_b4 K _ _ _ _ _ w Q
    unfold f3_b4
    have lv := rdI_lnl hl
    by_cases c1 : (i : Int) < ((l.length : Nat) : Int)
    · have c2 : ¬ (i : Int) < 100 := by omega
      try simp only [↓reduceIte, ↓LL, LM, Value.cells, Nat.reduceAdd, Option.some.injEq, exists_eq_left', decide_true, decide_false, if_true, if_false, reduceCtorEq, cond_true, cond_false, lv, c1, c2]
      exact kk w U F hw hu hb
    · try simp only [↓reduceIte, ↓LL, LM, Value.cells, Nat.reduceAdd, Option.some.injEq, exists_eq_left', decide_true, decide_false, if_true, if_false, reduceCtorEq, cond_true, cond_false, lv, c1]
      exact kk w U F hw hu hb
  | succ d ih =>
    intro m i w U F hi hm hw hu hb kk
    obtain ⟨m, rfl⟩ : ∃ x, m = x + 1 := ⟨m - 1, by omega⟩
    show f3_b4 K _ _ _ _ _ w Q
    unfold f3_b4
    have lv := rdI_lnl hl
    have c1 : (i : Int) < ((l.length : Nat) : Int) := by omega
    have c2 : (i : Int) < 100 := by omega
    have hil : i < l.length := by omega
    have h3 : IntKind.i64.wrap ((i : Int) + 1) = ((i + 1 : Nat) : Int) := by rw [w64 (by omega) (by omega)]; rfl
    obtain ⟨aad, hcl, hia⟩ := rdI_at hl hil
    have cN : ∀ w', Below W.heap.size W w' → w'.cell? aad = some (.int .i64 l[i]) := fun w' hb' => cell_below hb' hcl
    have c0 := cN w hb
    generalize l[i] = x at *
    have ht := thr_full (d := x) hu (by omega)
    try simp only [↓reduceIte, ↓LL, LM, Value.cells, Nat.reduceAdd, Option.some.injEq, exists_eq_left', decide_true, decide_false, if_true, if_false, reduceCtorEq, cond_true, cond_false, lv, c1, c2, hia, c0]
    refine f20_s hw (by omega) (fun hne w2 b2 => ?_) (fun he w2 hw2 hg2 => ?_)
    · have hx : ¬ (0 < x ∧ x < (G.L.length : Int)) := fun hx => hne (by rw [ht, if_pos hx])
      rw [if_neg hx] at ht
      rw [ht]
      have hw2 := hw.below b2
      have hb2 := bt hb b2
      try simp only [↓reduceIte, ↓LL, LM, Value.cells, Nat.reduceAdd, Option.some.injEq, exists_eq_left', decide_true, decide_false, if_true, if_false, reduceCtorEq, cond_true, cond_false]
      refine f18_s hw2 (by omega) (fun h => by cases h) (fun _ n n1 n2 nf nall w3 _ _ => ?_) (fun _ hall w3 b3 => ?_)
      · rw [hu n (by omega)] at nf
        have := of_decide_eq_false nf
        omega
      · have hb3 := bt hb2 b3
        have c03 := cN w3 hb3
        have z7 : ¬ (7 : Int) = 0 := by decide
        by_cases hx0 : x > 0
        · have hx0' : (0 : Int) < x := hx0
          have hx1 : ¬ x < ((G.L.length : Nat) : Int) := by omega
          try simp only [↓reduceIte, ↓LL, LM, Value.cells, Nat.reduceAdd, Option.some.injEq, exists_eq_left', decide_true, decide_false, if_true, if_false, reduceCtorEq, cond_true, cond_false, get0, get1, hia, c03, hx0, hx0', hx1, ne_eq, h3]
          exact ih m (i + 1) w3 U F (by omega) (by omega) (hw2.below b3) hu hb3 kk
        · have hx0' : ¬ (0 : Int) < x := hx0
          try simp only [↓reduceIte, ↓LL, LM, Value.cells, Nat.reduceAdd, Option.some.injEq, exists_eq_left', decide_true, decide_false, if_true, if_false, reduceCtorEq, cond_true, cond_false, get0, get1, hia, c03, hx0, hx0', ne_eq, h3]
          exact ih m (i + 1) w3 U F (by omega) (by omega) (hw2.below b3) hu hb3 kk
    · have hx : 0 < x ∧ x < (G.L.length : Int) := by
        apply Classical.byContradiction
        intro hn
        rw [ht, if_neg hn] at he
        cases he
      obtain ⟨x, rfl⟩ := Int.eq_ofNat_of_zero_le (show 0 ≤ x by omega)
      rw [Int.toNat_natCast] at hw2
      have hu2 := hu.trn hw.wk.ok (n := x) (by omega)
      have hb2 : Below W.heap.size W w2 := hb.trans (hg2.below (fun k hk => hw.wk.fpB k hk) hb.size)
      have ux : isB (trnB U x) x = false := by
        rw [hu2 x (by omega)]
        show (if x = x then !upto1 G.L.length x else upto1 G.L.length x) = false
        rw [if_pos rfl]
        unfold upto1
        rw [decide_eq_true (by omega)]; rfl
      have uo : ∀ j, 1 ≤ j → j < G.L.length → j ≠ x → isB (trnB U x) j = true := fun j h1 h2 h3 => by
        rw [hu2 j (by omega)]
        show (if j = x then !upto1 G.L.length j else upto1 G.L.length j) = true
        rw [if_neg h3]
        exact decide_eq_true ⟨h1, h2⟩
      try simp only [↓reduceIte, ↓LL, LM, Value.cells, Nat.reduceAdd, Option.some.injEq, exists_eq_left', decide_true, decide_false, if_true, if_false, reduceCtorEq, cond_true, cond_false]
      refine f18_s hw2 (by omega) (fun h => by cases h) (fun _ n n1 n2 nf nall w3 hw3 hg3 => ?_) (fun _ hall => by have := hall x (by omega) (by omega); rw [ux] at this; cases this)
      have en : n = x := by
        apply Classical.byContradiction
        intro hne
        rw [uo n n1 n2 hne] at nf
        cases nf
      subst en
      have hu3 : HU (trnB (trnB U n) n) (upto1 G.L.length) := by
        intro j hj
        rw [hu2.trn hw2.wk.ok (n := n) (by omega) j hj]
        show (if j = n then !(if j = n then !upto1 G.L.length j else upto1 G.L.length j) else (if j = n then !upto1 G.L.length j else upto1 G.L.length j)) = upto1 G.L.length j
        by_cases c : j = n
        · rw [if_pos c, if_pos c, Bool.not_not]
        · rw [if_neg c, if_neg c]
      have hb3 : Below W.heap.size W w3 := hb2.trans (hg3.below (fun k hk => hw2.wk.fpB k hk) hb2.size)
      have c03 := cN w3 hb3
      have hx0 : ((n : Nat) : Int) > 0 := by omega
      have hx0' : (0 : Int) < ((n : Nat) : Int) := by omega
      have hx1 : ((n : Nat) : Int) < ((G.L.length : Nat) : Int) := by omega
      try simp only [↓reduceIte, ↓LL, LM, Value.cells, Nat.reduceAdd, Option.some.injEq, exists_eq_left', decide_true, decide_false, if_true, if_false, reduceCtorEq, cond_true, cond_false, get0, get1, hia, c03, hx0, hx0', hx1, ne_eq, h3]
      exact ih m (i + 1) w3 _ _ (by omega) (by omega) hw3 hu3 hb3 kk
theorem f3_s {n : Int} {l : List Int} (hl : rdI .i64 w vd l) (kk : ∀ w', Below w.heap.size w w' → Q (.bool true) w') : f3 (.int .i64 n) vd w Q := by
  unfold f3
  refine f14_s fun w1 b1 => ?_
  try simp only [↓reduceIte, ↓LL, LM, Value.cells, Nat.reduceAdd, Option.some.injEq, exists_eq_left', decide_true, decide_false, if_true, if_false, reduceCtorEq, cond_true, cond_false]
  refine f15_s ?_
  obtain ⟨n1, n40⟩ := pagesN_bd n
  generalize pagesN n = n at *
  try simp only [↓reduceIte, ↓LL, LM, Value.cells, Nat.reduceAdd, Option.some.injEq, exists_eq_left', decide_true, decide_false, if_true, if_false, reduceCtorEq, cond_true, cond_false]
  refine f17_s n1 (by omega) fun w2 c q mb p b v u h2 b2 => ?_
  try simp only [↓reduceIte, ↓LL, LM, Value.cells, Nat.reduceAdd, Option.some.injEq, exists_eq_left', decide_true, decide_false, if_true, if_false, reduceCtorEq, cond_true, cond_false]
  have lN : (⟨List.replicate n (zs 256), false, 0⟩ : Pg).L.length = n := rep_len n
  have eg : (List.replicate n (zs 256)).getD 0 ⟨#[]⟩ = zs 256 := by
    rw [List.getD_eq_getElem?_getD, List.getElem?_replicate, if_pos (by omega)]; rfl
  refine begin_s h2 (fun x hx => by simp at hx) (rep_256 n) (by rw [lN]; exact n1) (Int.le_refl 0) (by show (0 : Int) ≤ 1000000; decide) (Int.le_refl 0) (by show (0 : Int) ≤ 1000000; decide) fun w3 t mp E3 h3 _ _ hg3 _ _ => ?_
  rw [show (⟨List.replicate n (zs 256), false, 0⟩ : Pg).L.getD 0 ⟨#[]⟩ = zs 256 from eg] at h3
  have b3 : Below w1.heap.size w1 w3 := b2.trans (hg3.below (fun k hk => h2.fpB k hk) b2.size)
  generalize (zs 256).extract 20 (zs 256).size = hd at *
  generalize (rdC ⟨szN 4, [], 0, 0⟩ (⟨List.replicate n (zs 256), false, 0⟩ : Pg).L 0).2 = C3 at *
  try simp only [↓reduceIte, ↓LL, LM, Value.cells, Nat.reduceAdd, Option.some.injEq, exists_eq_left', decide_true, decide_false, if_true, if_false, reduceCtorEq, cond_true, cond_false, get0, get1, ne_eq]
  have hu0 : HU (U0 (zs 256)) (upto1 1) := fun j hj => by
    rw [isB_zero]
    exact (decide_eq_false (by omega)).symm
  have main : ∃ k, itr (fun _ _ _ _ => bot) (f3_b2 f3_j1) k (.int .i64 (((⟨List.replicate n (zs 256), false, 0⟩ : Pg).L.length : Nat) : Int)) vd (pv t) (.int .i64 ((1 : Nat) : Int)) w3 Q := by
    refine ⟨_, takes_loop (W := w1) (G := ⟨List.replicate n (zs 256), false, 0⟩) (by rw [lN]; exact n40) (by rw [lN]; exact n1) (n - 1) n 1 w3 _ _ (by rw [lN]; omega) (by omega) (Nat.le_refl _) h3 hu0 b3 fun w4 U4 F4 h4 hu4 b4 => ?_⟩
    unfold f3_j1
    try simp only [↓reduceIte, ↓LL, LM, Value.cells, Nat.reduceAdd, Option.some.injEq, exists_eq_left', decide_true, decide_false, if_true, if_false, reduceCtorEq, cond_true, cond_false]
    refine f18_s h4 (by rw [lN]; omega) (fun h => by cases h) (fun _ k k1 k2 nf nall w5 _ _ => ?_) (fun _ hall w5 b5 => ?_)
    · rw [hu4 k (by rw [lN] at k2; omega)] at nf
      have := of_decide_eq_false nf
      omega
    · have h5 := h4.below b5
      try simp only [↓reduceIte, ↓LL, LM, Value.cells, Nat.reduceAdd, Option.some.injEq, exists_eq_left', decide_true, decide_false, if_true, if_false, reduceCtorEq, cond_true, cond_false, get0, get1, ne_eq]
      refine f19_s h5 (by rw [lN]; omega) (fun h => by cases h) fun _ w6 b6 => ?_
      have h6 := h5.below b6
      have ecnt : ∀ U, HU U (upto1 (⟨List.replicate n (zs 256), false, 0⟩ : Pg).L.length) → ((1 + cntB U (⟨List.replicate n (zs 256), false, 0⟩ : Pg).L.length : Nat) : Int) = (((⟨List.replicate n (zs 256), false, 0⟩ : Pg).L.length : Nat) : Int) := fun U hU => by
        rw [cntB_all fun j h1 h2 => by rw [hU j (by rw [lN] at h2; omega)]; exact decide_eq_true ⟨h1, h2⟩]
        rw [lN]; omega
      have e6 := ecnt U4 hu4
      try simp only [↓reduceIte, ↓LL, LM, Value.cells, Nat.reduceAdd, Option.some.injEq, exists_eq_left', decide_true, decide_false, if_true, if_false, reduceCtorEq, cond_true, cond_false, ne_eq, e6]
      have hb6 := bt (bt b4 b5) b6
      have := drops_loop (W := w1) (G := ⟨List.replicate n (zs 256), false, 0⟩) (K := f3_j3) (Q := Q) (rdI_b hl b1) (by rw [lN]; exact n40) (by rw [lN]; exact n1) (min l.length 100) (min l.length 100 + 1) 0 w6 U4 F4 (by omega) (by omega) h6 hu4 hb6 fun w7 U7 F7 h7 hu7 b7 => ?_
      · exact ⟨_, this⟩
      · unfold f3_j3
        try simp only [↓reduceIte, ↓LL, LM, Value.cells, Nat.reduceAdd, Option.some.injEq, exists_eq_left', decide_true, decide_false, if_true, if_false, reduceCtorEq, cond_true, cond_false]
        refine f19_s h7 (by rw [lN]; omega) (fun h => by cases h) fun _ w8 b8 => ?_
        have e8 := ecnt U7 hu7
        try simp only [↓reduceIte, ↓LL, LM, Value.cells, Nat.reduceAdd, Option.some.injEq, exists_eq_left', decide_true, decide_false, if_true, if_false, reduceCtorEq, cond_true, cond_false, e8]
        exact kk w8 (bt b1 (bt b7 b8))
  rw [lN] at main
  exact main
end
end Go.Proofs.YtongpnolikkknaaGreatDoor

namespace Go.Proofs.YtongpnolikkknaaGreatDoor
open Go.ChangeShapes Go.WideShapes Go.ChangeAt Go.RowKit
open Sh
def R3 := RiLi
def b3 : Int × List Int → Nat := fun _ => 0
theorem oa3 : OpensA Tryz.prog [3, 22] (Int × List Int) R3 b3 := oaiLi
theorem law3 (W : World) (vs : List Value) (a : Int × List Int) (h : R3 W vs a) : Calls Tryz.prog 3 vs.toArray W (Rt fun v W' => v = .bool true ∧ Below W.heap.size W W') := by
  obtain ⟨v, rfl, h1⟩ := h
  exact s3 _ _ _ _ (f3_s h1 fun w' hb => ⟨rfl, hb⟩)
set_option maxRecDepth 1000000 in
theorem lifted3 (os : Os) (started : os.Started) (H : Type) (enc : TypeId × Value → H) :
    ReturnsInHanded {} Tryz.checked os 3 .any (fun w args => (Rows.spaceTakesSpec.pre enc Tryz.prog Tryz.f3 Rows.spaceTakesRow.domain false w args ∧ laidMetH Tryz.prog Rows.spaceTakesRow.laid w) ∧ sizedMet enc Tryz.prog Tryz.f3 (OpenSpec.ofChange Rows.spaceTakesSpec) false w args) (Rows.spaceTakesSpec.post enc Tryz.prog Tryz.f3 false true false false) := by
  refine law_from_laid (C := Tryz.checked) (X := (fun w _ => laidMetH Tryz.prog Rows.spaceTakesRow.laid w)) (tb := 4) (R := R3) (b := b3) (fun _ _ _ hh h => h.of_heap hh) own started (by kernel_rfl) Tryz.func3
    (ChangeSpec.witness_at (enc := enc) (C := Tryz.checked) (os := os) (X := (fun w _ => laidMetH Tryz.prog Rows.spaceTakesRow.laid w)) false (laidW Tryz.prog Rows.spaceTakesRow.laid os) #[.int .i64 0, .slice none 0 0] 8 rfl (by kernel_rfl) (by kernel_rfl) (by kernel_rfl) (by kernel_rfl) (by kernel_rfl) (laidW_metH os _))
    rfl (by kernel_rfl) (by kernel_rfl) rfl Tryz.underlying4 (fun ds hd => ?_) ?_ law3
  · match ds, hd with
    | [d0, d1], _ => exact ⟨rfl, rfl, rfl⟩
  · show OpensA Tryz.prog Tryz.f3.params.toList _ R3 b3
    rw [Tryz.params3]; exact oa3
theorem spaceTakes_row : Rows.SpaceTakesSaid :=
  OpenClaim.holds_of_wide 3 Tryz.f3 rfl rfl rfl rfl rfl rfl rfl ⟨rfl, rfl, rfl, rfl, rfl⟩ rfl rfl rfl rfl rfl (by kernel_rfl) Tryz.func3 (by kernel_rfl)
    (of_decide_eq_true (by kernel_rfl)) (by unfold Func.isWrapper; first | (rw [if_pos (by decide +kernel)]; kernel_rfl) | (rw [if_neg (by decide +kernel)]; exact ⟨rfl, rfl⟩))
    (fun os started H enc _ => lifted3 os started H enc)
theorem spaceTakes_holds : Rows.SpaceTakesCardSaid :=
  Claim7.holds_tied_plain_at .later [] Rows.spaceTakesCard.laidKinds true Rows.spaceTakesCard.stood.harness Rows.spaceTakesCard.stood.looks
    spaceTakes_row (fun _ h => by cases h) (by kernel_rfl) (fun _ h => by cases h) spaceTakes_row_tie rfl ⟨rfl, rfl⟩ (by kernel_rfl) (by kernel_rfl)
    (fun f fn hf hfn => by
      obtain rfl : f = 3 := Option.some.inj ((show Tryz.prog.funcNamed Rows.spaceTakesRow.func = some 3 by kernel_rfl).symm.trans hf) |>.symm
      obtain rfl : fn = Tryz.f3 := (Option.some.inj (Tryz.func3.symm.trans hfn)).symm
      exact ⟨by kernel_rfl, no_stand (by kernel_rfl)⟩)
    (by kernel_rfl)
#print axioms spaceTakes_holds
end Go.Proofs.YtongpnolikkknaaGreatDoor
