/- The call of CacheNil returns true for every input, and its arguments read behind it as they read before. -/
import Derived.Test.YtongpnolikkknaaGreatDoorZ2
import Derived.LaidEqlPtr
set_option linter.unusedVariables false
set_option linter.unusedSimpArgs false
set_option linter.unusedSectionVars false
set_option maxRecDepth 20000
set_option maxHeartbeats 4000000
namespace Go.Proofs.YtongpnolikkknaaGreatDoor
open Sh RowKit Go.MapKept
structure Pg where
  L : List ByteArray
  st : Bool
  c : Int
def setL (L : List ByteArray) (cs : List Ch) : List ByteArray := cs.foldl (fun L c => L.set c.1.toNat c.2) L
theorem setL_len (cs : List Ch) : ∀ L : List ByteArray, (setL L cs).length = L.length := by
  induction cs with
  | nil => intro L; rfl
  | cons c cs ih => intro L; show (setL (L.set c.1.toNat c.2) cs).length = _; rw [ih, List.length_set]
theorem setL_snoc (L : List ByteArray) (cs : List Ch) (c : Ch) : setL L (cs ++ [c]) = (setL L cs).set c.1.toNat c.2 := by
  unfold setL; rw [List.foldl_append]; rfl
/-- a commit: the error, the device and the pager behind it -/
def commitB (G : Pg) (D : Dv) (cs : List Ch) : Int × Dv × Pg :=
  if mayB G.st G.L.length cs ≠ 0 ∨ cs = [] then (mayB G.st G.L.length cs, D, G)
  else if (runs (stepsD G.L cs) D).1 ≠ 0 then ((runs (stepsD G.L cs) D).1, (runs (stepsD G.L cs) D).2, { G with st := true })
  else (0, (runs (stepsD G.L cs) D).2, ⟨setL G.L cs, G.st, G.c + 1⟩)
theorem mayB_ok {st : Bool} {N : Nat} {cs : List Ch} (h : mayB st N cs = 0) : st = false ∧ cs.length ≤ 31 ∧ (∀ x ∈ cs, 0 ≤ x.1 ∧ x.1 < (N : Int)) ∧ (cs.map (·.1)).Nodup ∧ ∀ c ∈ cs, c.2.size = 256 := by
  unfold mayB at h
  split at h
  · cases h
  · rename_i h1
    split at h
    · cases h
    · rename_i h2
      split at h
      · cases h
      · rename_i h3
        split at h
        · cases h
        · rename_i h4
          unfold oddL at h4
          have h4 := Classical.not_not.1 (fun h => h4 (decide_eq_true h))
          refine ⟨by simpa using h1, by omega, fun x hx => ?_, h4.1, h4.2⟩
          have h5 : ¬ (x.1 < 0 ∨ (N : Int) ≤ x.1) := fun h => h3 ⟨x, hx, h⟩
          omega
section
variable {e : TypeId} {B C Bp Bc : Nat} {W w w' : World} {p q b : Nat} {v u lv : Value} {D : Dv} {Q : Value → World → Prop}
theorem ownE_chg {α : Type} {enc : α → List Value} {n : Nat} {l : List α} {S : Nat → Prop} (h : ownE C e n enc w u l) (hc : ChgS S w w') (hS : ∀ g, u.ownBlock = some g → ¬ S g) : ownE C e n enc w' u l :=
  ownE_stay h fun g hg => by
    obtain ⟨_, hl, cur, hcur⟩ := ownE_blk h g hg
    rw [hcur]; exact hc.keep hcur (hS g hg)
theorem commit_loop {L : List ByteArray} {cs : List Ch} {st c : Value} {j1 : Value → M} (hq : W.heap[q]? = some (.cells #[pv p, u, st, c] 133 (0, 0))) (hu : ownV Bp 9 W u (L.map .string)) (hcs : ownE Bc 48 2 encC W lv cs) (hl : cs.length ≤ 31) (hbd : ∀ x ∈ cs, 0 ≤ x.1 ∧ x.1 < (L.length : Int)) :
    ∀ (d m i : Nat) (w : World), i + d = cs.length → d < m → ChgS (fun k => u.ownBlock = some k) W w → ownV Bp 9 w u ((setL L (cs.take i)).map .string) →
    (∀ w', ChgS (fun k => u.ownBlock = some k) W w' → ownV Bp 9 w' u ((setL L cs).map .string) → j1 (pv q) w' Q) →
    itr (fun _ _ _ _ => bot) (f44_b2 j1) m (pv q) lv (.int .i64 ((cs.length : Nat) : Int)) (.int .i64 ((i : Nat) : Int)) w Q := by
  have uT : ∀ g, u.ownBlock = some g → g < W.heap.size ∧ ∃ cur, W.heap[g]? = some (.cells cur 9 (0, 0)) := fun g hg => ⟨(ownV_lt hu g hg).2.1, (ownV_lt hu g hg).2.2⟩
  have no : ∀ g cur e', W.heap[g]? = some (.cells cur e' (0, 0)) → e' ≠ 9 → ¬ u.ownBlock = some g := fun g cur e' hg he hn => by
    obtain ⟨_, cur', hcur⟩ := uT g hn
    rw [hg] at hcur; cases hcur; exact he rfl
  intro d
  induction d with
  | zero =>
    intro m i w hi hm hc ho kk
    obtain ⟨m, rfl⟩ : ∃ x, m = x + 1 := ⟨m - 1, by omega⟩
    show f44_b2 j1 _ _ _ _ _ w Q
    unfold f44_b2
    have cc : ¬ (i : Int) < (cs.length : Nat) := by omega
    try simp only [↓reduceIte, ↓LL, LM, Value.cells, Nat.reduceAdd, Option.some.injEq, exists_eq_left', decide_true, decide_false, if_true, if_false, reduceCtorEq, cond_true, cond_false, cc]
    rw [List.take_of_length_le (by omega)] at ho
    exact kk w hc ho
  | succ d ih =>
    intro m i w hi hm hc ho kk
    obtain ⟨m, rfl⟩ : ∃ x, m = x + 1 := ⟨m - 1, by omega⟩
    show f44_b2 j1 _ _ _ _ _ w Q
    unfold f44_b2
    have cc : (i : Int) < (cs.length : Nat) := by omega
    have hil : i < cs.length := by omega
    have h3 : IntKind.i64.wrap ((i : Int) + 1) = ((i + 1 : Nat) : Int) := by rw [w64 (by omega) (by omega)]; rfl
    have hcsw : ownE Bc 48 2 encC w lv cs := ownE_chg hcs hc fun g hg hn => by
      obtain ⟨_, _, cur, hcur⟩ := ownE_blk hcs g hg
      exact no g cur _ hcur (by decide) hn
    obtain ⟨ad, es, he1, he2, he3, hia⟩ := rdS_at (ownE_rd encC_len (by decide) hcsw) hil
    have hts : cs.take (i + 1) = cs.take i ++ [cs[i]] := List.take_succ_eq_append_getElem hil
    have hmem := List.getElem_mem hil
    try simp only [↓reduceIte, ↓LL, LM, Value.cells, Nat.reduceAdd, Option.some.injEq, exists_eq_left', decide_true, decide_false, if_true, if_false, reduceCtorEq, cond_true, cond_false, cc, hia]
    refine ldn_at he2 he1 ?_
    have he3 : es = encC cs[i] := he3
    rw [he3]
    generalize cs[i] = x at *
    obtain ⟨n, s⟩ := x
    obtain ⟨n0, n1'⟩ := hbd _ hmem
    have n0 : 0 ≤ n := n0
    have n1' : n < (L.length : Int) := n1'
    obtain ⟨n, rfl⟩ := Int.eq_ofNat_of_zero_le n0
    have b1 := b_psh w (.cells #[.int .i64 0, .string ⟨#[]⟩] 48)
    have k1 := blk_psh_new (w := w) (o := .cells #[.int .i64 0, .string ⟨#[]⟩] 48)
    try simp only [↓reduceIte, ↓LL, LM, Value.cells, Nat.reduceAdd, Option.some.injEq, exists_eq_left', decide_true, decide_false, if_true, if_false, reduceCtorEq, cond_true, cond_false]
    refine stn_box k1 (by simp) (by simp [encC]) (by intro x hx; exact encC_one (((n : Nat) : Int), s) x (by simpa using hx)) fun w2 k2 u2 => ?_
    have b2 : Below w.heap.size w w2 := b1.trans (u2.below (Nat.le_refl _))
    have hc2 : ChgS (fun k => u.ownBlock = some k) W w2 := hc.trans (ChgS.of_below b2) fun _ _ h => h
    have c0 : w2.cell? ⟨w.heap.size, 0, none⟩ = some (.int .i64 ((n : Nat) : Int)) := by rw [cell_of_blk k2]; rfl
    have c1 : w2.cell? ⟨w.heap.size, 1, none⟩ = some (.string s) := by rw [cell_of_blk k2]; rfl
    have hq2 := hc2.keep hq (no q _ _ hq (by decide))
    have cq : w2.cell? ⟨q, 1, none⟩ = some u := by rw [cell_of_blk hq2]; rfl
    have ho2 := ownV_below ho b2
    try simp only [↓reduceIte, ↓LL, LM, Value.cells, Nat.reduceAdd, Option.some.injEq, exists_eq_left', decide_true, decide_false, if_true, if_false, reduceCtorEq, cond_true, cond_false, c0, c1, cq]
    refine ia_stV (w := drw w2) (show ownV Bp 9 (drw w2) u _ from ho2) (i := n) (by rw [List.length_map, setL_len]; omega) rfl fun w3 g3 hg3 o3 up3 => ?_
    have es3 : ((setL L (cs.take i)).map Value.string).set n (.string s) = (setL L (cs.take (i + 1))).map .string := by rw [hts, setL_snoc, List.map_set]; rfl
    rw [es3] at o3
    try simp only [↓reduceIte, ↓LL, LM, Value.cells, Nat.reduceAdd, Option.some.injEq, exists_eq_left', decide_true, decide_false, if_true, if_false, reduceCtorEq, cond_true, cond_false, h3]
    exact ih m (i + 1) w3 (by omega) (by omega) (hc2.drw.trans (ChgS.of_upd up3 hg3) fun _ _ h => h) o3 kk
theorem f44_s {G : Pg} {cs : List Ch} (hd : DevAt B w p v b D) (hq : w.heap[q]? = some (.cells #[pv p, u, .bool G.st, .int .i64 G.c] 133 (0, 0))) (hu : ownV Bp 9 w u (G.L.map .string)) (hcs : ownE Bc 48 2 encC w lv cs)
    (h0 : 0 ≤ D.c) (h1 : D.c + 300 ≤ 1000000) (hG0 : 0 ≤ G.c) (hG1 : G.c ≤ 1000000) (hL : G.L.length ≤ 1000)
    (kk : ∀ w', DevAt B w' p v b (commitB G D cs).2.1 → w'.heap[q]? = some (.cells #[pv p, u, .bool (commitB G D cs).2.2.st, .int .i64 (commitB G D cs).2.2.c] 133 (0, 0)) → ownV Bp 9 w' u ((commitB G D cs).2.2.L.map .string) →
      ChgS (fun k => k = q ∨ u.ownBlock = some k ∨ fpD p v b k) w w' → Q (.int .i64 (commitB G D cs).1) w') : f44 (pv q) lv w Q := by
  unfold f44
  rw [pn_eq pt49]
  have hrd := ownE_rd encC_len (by decide) hcs
  have ll := lnl_S hrd
  have uq : ¬ u.ownBlock = some q := fun hn => by
    obtain ⟨_, _, cur, hcur⟩ := ownV_lt hu q hn
    rw [hcur] at hq; cases hq
  try simp only [↓reduceIte, ↓LL, LM, Value.cells, Nat.reduceAdd, Option.some.injEq, exists_eq_left', decide_true, decide_false, if_true, if_false, reduceCtorEq, cond_true, cond_false, Option.isNone]
  refine f89_s hq hu hrd (by omega) fun w1 b1 => ?_
  by_cases cm : mayB G.st G.L.length cs ≠ 0 ∨ cs = []
  · have e : commitB G D cs = (mayB G.st G.L.length cs, D, G) := by unfold commitB; rw [if_pos cm]
    rw [e] at kk
    have fin := kk w1 (hd.below b1) (stay b1 hq) (ownV_below hu b1) (ChgS.of_below b1)
    by_cases c1 : mayB G.st G.L.length cs = 0
    · have c2 : cs = [] := cm.resolve_left fun h => h c1
      have c3 : ((cs.length : Nat) : Int) = 0 := by rw [c2]; rfl
      try simp only [↓reduceIte, ↓LL, LM, Value.cells, Nat.reduceAdd, Option.some.injEq, exists_eq_left', decide_true, decide_false, if_true, if_false, reduceCtorEq, cond_true, cond_false, ne_eq, c1, ll, c3]
      rw [c1] at fin
      exact fin
    · try simp only [↓reduceIte, ↓LL, LM, Value.cells, Nat.reduceAdd, Option.some.injEq, exists_eq_left', decide_true, decide_false, if_true, if_false, reduceCtorEq, cond_true, cond_false, ne_eq, c1, ll]
      exact fin
  · have c1 : mayB G.st G.L.length cs = 0 := Classical.not_not.1 fun h => cm (.inl h)
    have c2 : cs ≠ [] := fun h => cm (.inr h)
    have c3 : ¬ ((cs.length : Nat) : Int) = 0 := by
      intro h
      exact c2 (List.length_eq_zero_iff.1 (by omega))
    obtain ⟨e1, e2, e3, e4, e5⟩ := mayB_ok c1
    have hq1 := stay b1 hq
    have hu1 := ownV_below hu b1
    have hcs1 := ownE_below hcs b1
    have hd1 := hd.below b1
    have lS := stepsD_len G.L cs
    try simp only [↓reduceIte, ↓LL, LM, Value.cells, Nat.reduceAdd, Option.some.injEq, exists_eq_left', decide_true, decide_false, if_true, if_false, reduceCtorEq, cond_true, cond_false, ne_eq, c1, ll, c3]
    refine f91_s (p := p) hq1 hu1 (ownE_rd encC_len (by decide) hcs1) e2 e3 hL fun w2 v2 b2 d2 => ?_
    have b02 := bt b1 b2
    have hq2 := stay b02 hq
    have hd2 := hd.below b02
    try simp only [↓reduceIte, ↓LL, LM, Value.cells, Nat.reduceAdd, Option.some.injEq, exists_eq_left', decide_true, decide_false, if_true, if_false, reduceCtorEq, cond_true, cond_false]
    refine f90_s (B2 := 0) hd2 hq2 rfl d2 (by omega) h0 (by omega) fun w3 d3 hc3 => ?_
    have hc03 : ChgS (fpD p v b) w w3 := (ChgS.of_below b02).trans hc3 fun _ _ h => h
    have hq3 := pg_dev hd2 hq2 hc3
    have hu3 := own_dev hd2 (ownV_below hu b02) (by decide) (by decide) hc3
    by_cases cz : (runs (stepsD G.L cs) D).1 = 0
    · have e : commitB G D cs = (0, (runs (stepsD G.L cs) D).2, ⟨setL G.L cs, G.st, G.c + 1⟩) := by unfold commitB; rw [if_neg cm, if_neg (fun h => h cz)]
      rw [e] at kk
      have hcs3 : ownE Bc 48 2 encC w3 lv cs := ownE_chg (ownE_below hcs b02) hc3 fun g hg => by
        obtain ⟨_, _, cur, hcur⟩ := ownE_blk (ownE_below hcs b02) g hg
        exact dev_ne hd2 hcur (by decide) (by decide)
      have ll3 := lnl_S hrd
      try simp only [↓reduceIte, ↓LL, LM, Value.cells, Nat.reduceAdd, Option.some.injEq, exists_eq_left', decide_true, decide_false, if_true, if_false, reduceCtorEq, cond_true, cond_false, ne_eq, cz, ll]
      refine ⟨_, commit_loop (W := w3) hq3 hu3 hcs3 e2 e3 cs.length (cs.length + 1) 0 w3 (by omega) (by omega) (ChgS.refl _ _) hu3 fun w4 hc4 hu4 => ?_⟩
      have hq4 := hc4.keep hq3 uq
      have c3 : w4.cell? ⟨q, 3, none⟩ = some (.int .i64 G.c) := by rw [cell_of_blk hq4]; rfl
      have ew : IntKind.i64.wrap (G.c + 1) = G.c + 1 := w64 (by omega) (by omega)
      have hd4 := d3.chgV hu3 (by decide) (by decide) hc4
      unfold f44_j1
      try simp only [↓reduceIte, ↓LL, LM, Value.cells, Nat.reduceAdd, Option.some.injEq, exists_eq_left', decide_true, decide_false, if_true, if_false, reduceCtorEq, cond_true, cond_false, c3, ew]
      refine st_box (o := 3) (v := .int .i64 (G.c + 1)) hq4 (show 3 < 4 by decide) rfl fun w5 hq5 u5 => ?_
      try simp only [↓reduceIte, ↓LL, LM, Value.cells, Nat.reduceAdd, Option.some.injEq, exists_eq_left', decide_true, decide_false, if_true, if_false, reduceCtorEq, cond_true, cond_false]
      refine kk w5 (hd4.chg (ChgS.of_upd u5 rfl (S := fun k => k = q)) fun k hk e => dev_ne hd4 hq4 (by decide) (by decide) (e ▸ hk)) hq5 ?_ ?_
      · exact ownV_stay hu4 fun g hg => u5.block g fun e => by rw [e] at hg; exact uq hg
      · refine (hc03.mono (T := fun k => k = q ∨ u.ownBlock = some k ∨ fpD p v b k) fun k h => .inr (.inr h)).trans (T := fun k => k = q ∨ u.ownBlock = some k ∨ fpD p v b k) ?_ fun _ _ h => h
        exact (hc4.mono fun k h => .inr (.inl h)).trans (ChgS.of_upd u5 (S := fun k => k = q ∨ u.ownBlock = some k ∨ fpD p v b k) (.inl rfl)) fun _ _ h => h
    · have e : commitB G D cs = ((runs (stepsD G.L cs) D).1, (runs (stepsD G.L cs) D).2, { G with st := true }) := by unfold commitB; rw [if_neg cm, if_pos cz]
      rw [e] at kk
      try simp only [↓reduceIte, ↓LL, LM, Value.cells, Nat.reduceAdd, Option.some.injEq, exists_eq_left', decide_true, decide_false, if_true, if_false, reduceCtorEq, cond_true, cond_false, ne_eq, cz]
      refine st_box (o := 2) (v := .bool true) hq3 (show 2 < 4 by decide) rfl fun w5 hq5 u5 => ?_
      try simp only [↓reduceIte, ↓LL, LM, Value.cells, Nat.reduceAdd, Option.some.injEq, exists_eq_left', decide_true, decide_false, if_true, if_false, reduceCtorEq, cond_true, cond_false]
      refine kk w5 (d3.chg (ChgS.of_upd u5 rfl (S := fun k => k = q)) fun k hk e => dev_ne d3 hq3 (by decide) (by decide) (e ▸ hk)) hq5 ?_ ?_
      · exact ownV_stay hu3 fun g hg => u5.block g fun e => by rw [e] at hg; exact uq hg
      · exact (hc03.mono fun k h => .inr (.inr h)).trans (ChgS.of_upd u5 (S := fun k => k = q ∨ u.ownBlock = some k ∨ fpD p v b k) (.inl rfl)) fun _ _ h => h
end
end Go.Proofs.YtongpnolikkknaaGreatDoor

set_option maxRecDepth 20000
namespace Go.Proofs.YtongpnolikkknaaGreatDoor
open Sh RowKit Go.MapKept
def De.ex : De → List Sec → List Sec
  | .wr i s, A => match A[i.toNat]? with
    | some x => A.set i.toNat ⟨x.s, some (pad s)⟩
    | none => A
  | .sy, A => A.map fun x => ⟨x.now, none⟩
def exs (ds : List De) (A : List Sec) : List Sec := ds.foldl (fun A d => d.ex A) A
/-- deeds that write, none of them to sector i -/
def Off (i : Nat) (ds : List De) : Prop := ∀ d ∈ ds, ∃ (a : Nat) (s : ByteArray), d = .wr (a : Int) s ∧ i ≠ a
theorem Off.take {i : Nat} {ds : List De} (h : Off i ds) (k : Nat) : Off i (ds.take k) := fun d hd => h d (List.mem_of_mem_take hd)
/-- a crash: what is sure stays; a mark says what one of both says -/
def Cr (A A' : List Sec) : Prop := A'.length = A.length ∧ ∀ (i : Nat) (x : Sec), A[i]? = some x → ∃ z, A'[i]? = some ⟨z, none⟩ ∧ (x.u = none → z = x.s) ∧ (mkd z.1 = mkd x.s.1 ∨ mkd z.1 = mkd x.now.1)
theorem Cr.sure {A A' : List Sec} (h : Cr A A') {i : Nat} {z : Sct} (hz : A[i]? = some ⟨z, none⟩) : A'[i]? = some ⟨z, none⟩ := by
  obtain ⟨y, h1, h2, _⟩ := h.2 i _ hz
  have e : y = z := h2 rfl
  rw [h1, e]
theorem Cr.all {A A' : List Sec} (h : Cr A A') : ∀ x ∈ A', x.u = none := by
  intro x hx
  obtain ⟨i, hi, rfl⟩ := List.mem_iff_getElem.1 hx
  have hi2 : i < A.length := by rw [← h.1]; exact hi
  obtain ⟨z, h1, _⟩ := h.2 i A[i] (List.getElem?_eq_getElem hi2)
  rw [List.getElem?_eq_getElem hi] at h1
  rw [Option.some.inj h1]
end Go.Proofs.YtongpnolikkknaaGreatDoor

set_option maxRecDepth 20000
namespace Go.Proofs.YtongpnolikkknaaGreatDoor
open Sh RowKit Go.MapKept
theorem pad_64 {s : ByteArray} (h : s.size = 64) : (pad s).1 = s := by
  show strOfNums (padL s) = s
  unfold padL
  rw [h, List.take_of_length_le (by rw [byL_len]; omega)]
  show strOfNums (byL s ++ []) = s
  rw [List.append_nil, son_byL]
theorem pad_chunk {s : ByteArray} {j : Nat} (h : s.size = 256) (hj : j < 4) : (pad (chunk s j)).1 = chunk s j := pad_64 (chunk_size h hj)
def PgS (A : List Sec) (L : List ByteArray) : Prop := ∀ (n : Nat) (s : ByteArray), L[n]? = some s → ∀ j, j < 4 → A[126 + 4 * n + j]? = some ⟨pad (chunk s j), none⟩
def Ing (A : List Sec) (L : List ByteArray) (l : List Int) : Prop := ∃ d : Sct, A[1]? = some ⟨d, none⟩ ∧ dirB d.1 = true ∧ lst d.1 = l ∧ (∀ n ∈ l, n < (L.length : Int)) ∧
  (∀ (k : Nat) (n : Int) (s : ByteArray), l[k]? = some n → L[n.toNat]? = some s → ∀ j, j < 4 → A[2 + 4 * k + j]? = some ⟨pad (chunk s j), none⟩) ∧
  (∀ (n : Nat) (s : ByteArray), ((n : Nat) : Int) ∉ l → L[n]? = some s → ∀ j, j < 4 → A[126 + 4 * n + j]? = some ⟨pad (chunk s j), none⟩)
def Mk (A : List Sec) (b : Bool) : Prop := ∃ z : Sct, A[0]? = some ⟨z, none⟩ ∧ mkd z.1 = b
structure Fit (A : List Sec) (L : List ByteArray) : Prop where
  len : 126 + 4 * L.length ≤ A.length
  sz : ∀ s ∈ L, s.size = 256
  n1 : 1 ≤ L.length
  n2 : L.length ≤ 160
theorem PgS.sub {A A' : List Sec} {L : List ByteArray} (h : PgS A L) (hs : ∀ i z, 126 ≤ i → A[i]? = some ⟨z, none⟩ → A'[i]? = some ⟨z, none⟩) : PgS A' L := fun n s hn j hj => hs _ _ (by omega) (h n s hn j hj)
theorem Ing.ok {A : List Sec} {L : List ByteArray} {l : List Int} (h : Ing A L l) : l.length ≤ 31 ∧ l.Nodup ∧ ∀ n ∈ l, 0 ≤ n ∧ n < (L.length : Int) := by
  obtain ⟨d, _, hd, rfl, hl, _⟩ := h
  obtain ⟨_, h2, h3, h4⟩ := dirB_lst hd
  exact ⟨h2, h3, fun n hn => ⟨(h4 n hn).1, hl n hn⟩⟩
theorem Ing.sub {A A' : List Sec} {L : List ByteArray} {l : List Int} (h : Ing A L l) (hs : ∀ i z, i ≠ 0 → (∀ n ∈ l, ∀ j, j < 4 → i ≠ 126 + 4 * n.toNat + j) → A[i]? = some ⟨z, none⟩ → A'[i]? = some ⟨z, none⟩) : Ing A' L l := by
  obtain ⟨h31, hnd, hbd⟩ := h.ok
  obtain ⟨d, h1, hd, hl, hb, him, hpg⟩ := h
  refine ⟨d, hs _ _ (by omega) (fun n _ j _ => by omega) h1, hd, hl, hb, fun k n s hk hn j hj => hs _ _ (by omega) (fun n' _ j' _ => ?_) (him k n s hk hn j hj), fun n s hn hs' j hj => hs _ _ (by omega) (fun n' hn' j' hj' e => ?_) (hpg n s hn hs' j hj)⟩
  · have := (List.getElem?_eq_some_iff.1 hk).1
    omega
  · have := hbd n' hn'
    have e2 : ((n : Nat) : Int) = n' := by omega
    exact hn (e2 ▸ hn')
theorem Mk.sub {A A' : List Sec} {b : Bool} (h : Mk A b) (hs : ∀ z, A[0]? = some ⟨z, none⟩ → A'[0]? = some ⟨z, none⟩) : Mk A' b := by
  obtain ⟨z, h1, h2⟩ := h
  exact ⟨z, hs z h1, h2⟩
/-- at each deed, not behind the last -/
def Pre (C : List Sec → Prop) (ds : List De) (A : List Sec) : Prop := ∀ k, k < ds.length → C (exs (ds.take k) A)
theorem Pre.mono {C C' : List Sec → Prop} {ds : List De} {A : List Sec} (h : Pre C ds A) (hc : ∀ A, C A → C' A) : Pre C' ds A := fun k hk => hc _ (h k hk)
/-- pages read -/
theorem rd_nat {D : Dv} {i : Nat} {y : Sec} (h : D.A[i]? = some y) : D.rd ((i : Nat) : Int) = y.now.1 := by
  unfold Dv.rd Dv.at
  rw [if_pos (by omega), Int.toNat_natCast, h]; rfl
theorem join_at {D : Dv} {b : Nat} {g : Nat → Int} {s : ByteArray} (hg : ∀ j, g j = ((b + j : Nat) : Int)) (hs : s.size = 256) (h : ∀ j, j < 4 → D.A[b + j]? = some ⟨pad (chunk s j), none⟩) : (joinB (rdL D g 4)).1 = s := by
  have e : rdL D g 4 = cutL s 4 := by
    unfold rdL cutL
    refine List.map_congr_left fun j hj => ?_
    have hj := List.mem_range.1 hj
    rw [hg j, rd_nat (h j hj)]
    exact pad_chunk hs hj
  rw [e, joinB_ok (by rw [cutL_len]) (fun x hx => by
    obtain ⟨j, hj, rfl⟩ := List.mem_map.1 hx
    exact chunk_size hs (List.mem_range.1 hj))]
  exact (cut_back hs).2
theorem plG_nat (n : Nat) (j : Nat) : plG ((n : Nat) : Int) j = ((126 + 4 * n + j : Nat) : Int) := by unfold plG; omega
theorem pgL_eq {D : Dv} {L : List ByteArray} (hz : ∀ s ∈ L, s.size = 256) (hp : PgS D.A L) : pgL D L.length = L := by
  apply List.ext_getElem?
  intro n
  unfold pgL
  rw [List.getElem?_map]
  by_cases c : n < L.length
  · rw [List.getElem?_range c, List.getElem?_eq_getElem c]
    have := hz L[n] (List.getElem_mem c)
    show some (pgP D n) = _
    unfold pgP
    rw [join_at (plG_nat n) this (hp n _ (List.getElem?_eq_getElem c))]
  · rw [List.getElem?_eq_none (by rw [List.length_range]; omega), List.getElem?_eq_none (by omega)]; rfl
theorem openB_un {D : Dv} {L : List ByteArray} (h : Fit D.A L) : openB D (L.length : Nat) = if mkd (D.rd 0) = true then recB D (pgL D L.length) else (0, D, pgL D L.length) := by
  have := h.len
  have := h.n1
  have := h.n2
  unfold openB
  rw [if_neg (by omega), Int.toNat_natCast]
theorem mk_rd {D : Dv} {b : Bool} (h : Mk D.A b) : mkd (D.rd 0) = b := by
  obtain ⟨z, h1, h2⟩ := h
  rw [show (0 : Int) = ((0 : Nat) : Int) from rfl, rd_nat h1]
  exact h2
theorem open_no {D : Dv} {L : List ByteArray} (h : Fit D.A L) (hm : Mk D.A false) (hp : PgS D.A L) : openB D (L.length : Nat) = (0, D, L) := by
  rw [openB_un h, mk_rd hm, if_neg (by decide), pgL_eq h.sz hp]
theorem getD_some {L : List ByteArray} {n : Nat} (h : n < L.length) : L[n]? = some (L.getD n ⟨#[]⟩) := by rw [List.getD_eq_getElem?_getD, List.getElem?_eq_getElem h]; rfl
theorem nodup_map_inj {α β : Type} {f : α → β} {l : List α} (h : l.Nodup) (hf : ∀ a ∈ l, ∀ b ∈ l, f a = f b → a = b) : (l.map f).Nodup := by
  induction l with
  | nil => exact List.nodup_nil
  | cons a l ih =>
    obtain ⟨h1, h2⟩ := List.nodup_cons.1 h
    rw [List.map_cons, List.nodup_cons]
    refine ⟨fun hc => ?_, ih h2 fun a ha b hb => hf a (List.mem_cons_of_mem _ ha) b (List.mem_cons_of_mem _ hb)⟩
    obtain ⟨b, hb, e⟩ := List.mem_map.1 hc
    exact h1 (hf b (List.mem_cons_of_mem _ hb) a (List.mem_cons_self ..) e ▸ hb)
end Go.Proofs.YtongpnolikkknaaGreatDoor

set_option maxRecDepth 20000
namespace Go.Proofs.YtongpnolikkknaaGreatDoor
open Sh RowKit Go.MapKept
/-- a new device's pages -/
theorem new_mk (n : Nat) (h : 0 < n) : Mk (newD n).A false := ⟨pad ⟨#[]⟩, by unfold newD; rw [List.getElem?_replicate, if_pos h], by show mkd (markB false).1 = false; exact mkd_mark false⟩
theorem zs_chunk {j : Nat} (hj : j < 4) : chunk (zs 256) j = zs 64 := by
  apply byL_inj
  unfold chunk
  rw [byL_take, byL_zs, byL_zs]
  rcases (by omega : j = 0 ∨ j = 1 ∨ j = 2 ∨ j = 3) with rfl | rfl | rfl | rfl <;> decide
theorem pad_zs : pad (zs 64) = pad ⟨#[]⟩ := by
  apply Subtype.ext
  rw [pad_64 (zs_size 64)]
  apply byL_inj
  rw [byL_zs, byL_pad]
  rfl
theorem new_pgs (m n : Nat) (h : 126 + 4 * m ≤ n) : PgS (newD n).A (List.replicate m (zs 256)) := by
  intro k s hs j hj
  rw [List.getElem?_replicate] at hs
  split at hs
  · rename_i hk
    obtain rfl : zs 256 = s := Option.some.inj hs
    unfold newD
    rw [List.getElem?_replicate, if_pos (by omega), zs_chunk hj, pad_zs]
  · cases hs
theorem new_fit (m n : Nat) (h1 : 1 ≤ m) (h2 : m ≤ 160) (h : 126 + 4 * m ≤ n) : Fit (newD n).A (List.replicate m (zs 256)) :=
  ⟨by unfold newD; simp; exact h, fun s hs => by rw [List.eq_of_mem_replicate hs]; exact zs_size 256, by simpa using h1, by simpa using h2⟩
end Go.Proofs.YtongpnolikkknaaGreatDoor

set_option maxRecDepth 20000
set_option maxHeartbeats 4000000
namespace Go.Proofs.YtongpnolikkknaaGreatDoor
open Sh RowKit Go.MapKept
section
variable {B : Nat} {W w : World} {Q : Value → World → Prop}
end
end Go.Proofs.YtongpnolikkknaaGreatDoor

set_option maxRecDepth 20000
set_option maxHeartbeats 4000000
namespace Go.Proofs.YtongpnolikkknaaGreatDoor
open Sh RowKit Go.MapKept
theorem w8 {i : Int} : IntKind.u8.wrap i = i % 256 := by
  unfold IntKind.wrap
  simp [IntKind.signed, IntKind.bits]
section
variable {B : Nat} {W w : World} {Q : Value → World → Prop}
theorem rdI_lnl {k : IntKind} {v : Value} {l : List Int} (h : rdI k w v l) : ∀ (K : Value → M) (w1 : World) (Q : Value → World → Prop), lnl v K w1 Q = K (.int .i64 ((l.length : Nat) : Int)) w1 Q := by
  intro K w1 Q
  obtain ⟨p, c, rfl, _⟩ := h
  rw [lnl_e]
end
end Go.Proofs.YtongpnolikkknaaGreatDoor

namespace Go.Proofs.YtongpnolikkknaaGreatDoor
open Sh RowKit Go.MapKept
structure Bat where
  ps : List Int
  bs : List Int
  vp : Value
  vb : Value
end Go.Proofs.YtongpnolikkknaaGreatDoor

set_option maxRecDepth 20000
set_option maxHeartbeats 4000000
namespace Go.Proofs.YtongpnolikkknaaGreatDoor
open Sh RowKit Go.MapKept
/-- a device that is sure, its mark says no -/
structure Rdy (D : Dv) (L : List ByteArray) : Prop where
  fit : Fit D.A L
  mark : Mk D.A false
  pg : PgS D.A L
theorem open_rdy {D : Dv} {L : List ByteArray} (h : Rdy D L) : openB D (L.length : Nat) = (0, D, L) := open_no h.fit h.mark h.pg
theorem rdy_new {m N : Nat} (h1 : 1 ≤ m) (h2 : m ≤ 160) (h : 126 + 4 * m ≤ N) : Rdy (newD N) (List.replicate m (zs 256)) := ⟨new_fit m N h1 h2 h, new_mk N (by omega), new_pgs m N h⟩
theorem open_new {m N : Nat} (h1 : 1 ≤ m) (h2 : m ≤ 160) (h : 126 + 4 * m ≤ N) : openB (newD N) (m : Nat) = (0, newD N, List.replicate m (zs 256)) := by
  have := open_rdy (rdy_new h1 h2 h)
  rwa [List.length_replicate] at this
structure PgAt (B : Nat) (w : World) (q p b : Nat) (v u : Value) (G : Pg) (D : Dv) : Prop where
  dev : DevAt B w p v b D
  qB : B ≤ q
  hq : w.heap[q]? = some (.cells #[pv p, u, .bool G.st, .int .i64 G.c] 133 (0, 0))
  hu : ownV B 9 w u (G.L.map .string)
def fpP (q p b : Nat) (v u : Value) : Nat → Prop := fun k => k = q ∨ u.ownBlock = some k ∨ fpD p v b k
section
variable {B : Nat} {W w w' : World} {q p b : Nat} {v u : Value} {G : Pg} {D : Dv} {Q : Value → World → Prop}
theorem PgAt.below (h : PgAt B w q p b v u G D) (hb : Below w.heap.size w w') : PgAt B w' q p b v u G D := ⟨h.dev.below hb, h.qB, stay hb h.hq, ownV_below h.hu hb⟩
theorem PgAt.fpB (h : PgAt B w q p b v u G D) : ∀ k, fpP q p b v u k → B ≤ k := by
  rintro k (rfl | hk | hk)
  · exact h.qB
  · exact (ownV_lt h.hu k hk).1
  · exact fpD_B h.dev k hk
theorem PgAt.lt (h : PgAt B w q p b v u G D) : ∀ k, fpP q p b v u k → k < w.heap.size := by
  rintro k (rfl | hk | hk)
  · exact blk_lt h.hq
  · exact (ownV_lt h.hu k hk).2.1
  · exact h.dev.lt k hk
theorem PgAt.chg {S : Nat → Prop} (h : PgAt B w q p b v u G D) (hc : ChgS S w w') (hS : ∀ k, fpP q p b v u k → ¬ S k) : PgAt B w' q p b v u G D :=
  ⟨h.dev.chg hc fun k hk => hS k (.inr (.inr hk)), h.qB, hc.keep h.hq (hS q (.inl rfl)), ownV_chg h.hu hc fun g hg => hS g (.inr (.inl hg))⟩
theorem PgAt.bs {B0 : Nat} (h : PgAt B w q p b v u G D) (hc : ChgS (fpP q p b v u) w w') (h0 : B0 ≤ B) (hB : B0 ≤ w.heap.size) : Below B0 w w' := hc.below (fun k hk => Nat.le_trans h0 (h.fpB k hk)) hB
theorem commit_at {Bc : Nat} {lv : Value} {cs : List Ch} (h : PgAt B w q p b v u G D) (hcs : ownE Bc 48 2 encC w lv cs) (h0 : 0 ≤ D.c) (h1 : D.c + 300 ≤ 1000000) (hG0 : 0 ≤ G.c) (hG1 : G.c ≤ 1000000) (hL : G.L.length ≤ 1000)
    (kk : ∀ w', PgAt B w' q p b v u (commitB G D cs).2.2 (commitB G D cs).2.1 → ChgS (fpP q p b v u) w w' → Q (.int .i64 (commitB G D cs).1) w') : f44 (pv q) lv w Q :=
  f44_s h.dev h.hq h.hu hcs h0 h1 hG0 hG1 hL fun w' hd hq hu hc => kk w' ⟨hd, h.qB, hq, hu⟩ hc
/-- opened, without an error -/
theorem open_at {B0 : Nat} {n : Int} {D' : Dv} {L : List ByteArray} (hd : DevAt B w p v b D) (h0 : 0 ≤ D.c) (h1 : D.c + 200 ≤ 1000000) (hB0 : B0 ≤ B) (hBw : B0 ≤ w.heap.size) (e : openB D n = (0, D', L))
    (kk : ∀ w' q u, w.heap.size ≤ q → PgAt B0 w' q p b v u ⟨L, false, 0⟩ D' → DevAt B w' p v b D' → ownV w.heap.size 9 w' u (L.map .string) → ChgS (fpD p v b) w w' → Q (.tuple #[pv q, .int .i64 0]) w') : f40 (pv p) (.int .i64 n) w Q := by
  have e1 : (openB D n).1 = 0 := by rw [e]
  have e2 : (openB D n).2.1 = D' := by rw [e]
  have e3 : (openB D n).2.2 = L := by rw [e]
  refine f40_s hd h0 h1 (fun h => absurd e1 h) (fun _ w' q u hqw hq hu hd' hc => ?_)
  rw [e2] at hd'
  rw [e3] at hu
  refine kk w' q u hqw ⟨?_, Nat.le_trans hBw hqw, hq, ownV_weak hu hBw⟩ hd' hu hc
  obtain ⟨L', hm, hl⟩ := hd'.mp
  exact ⟨Nat.le_trans hB0 hd'.pB, Nat.le_trans hB0 hd'.bB, hd'.n, hd'.hp, ownE_weak hd'.own hB0, L', hm, hl⟩
end
end Go.Proofs.YtongpnolikkknaaGreatDoor

set_option maxRecDepth 20000
namespace Go.Proofs.YtongpnolikkknaaGreatDoor
open Sh RowKit Go.MapKept
structure Ca where
  sz : Nat
  K : List Ch
  h : Int
  m : Int
/-- one used -/
def useK (sz : Nat) (x : Ch) (K : List Ch) : List Ch := (x :: K).take sz
def rdC (C : Ca) (L : List ByteArray) (n : Int) : (ByteArray × Int) × Ca :=
  match C.K.find? (fun x => decide (x.1 = n)) with
  | some x => ((x.2, 0), { C with K := useK C.sz x (C.K.filter fun y => decide (y.1 ≠ n)), h := C.h + 1 })
  | none => if (pgR L n).2 = 0 then (((pgR L n).1, 0), { C with K := useK C.sz (n, (pgR L n).1) C.K, m := C.m + 1 }) else ((⟨#[]⟩, (pgR L n).2), C)
def nums (K : List Ch) : List Int := K.map (·.1)
/-- numbers: the one used last first -/
def upN (T : List Int) (n : Int) : List Int := n :: T.filter fun y => decide (y ≠ n)
theorem filter_same {T : List Int} {n : Int} (h : n ∉ T) : (T.filter fun y => decide (y ≠ n)) = T := List.filter_eq_self.2 fun a ha => by
  simp only [decide_eq_true_eq]
  rintro rfl
  exact h ha
theorem filter_take {n : Int} : ∀ (T : List Int) (k : Nat), T.Nodup → ((T.take (k + 1)).filter fun y => decide (y ≠ n)).take k = (T.filter fun y => decide (y ≠ n)).take k
  | [], k, _ => by simp
  | a :: T, k, h => by
    obtain ⟨h1, h2⟩ := List.nodup_cons.1 h
    rw [List.take_succ_cons]
    by_cases e : a = n
    · subst e
      have c : decide (a ≠ a) = false := by simp
      rw [List.filter_cons_of_neg (by simp), List.filter_cons_of_neg (by simp), filter_same (fun hc => h1 (List.mem_of_mem_take hc)), filter_same h1, List.take_take, Nat.min_self]
    · rw [List.filter_cons_of_pos (by simpa using e), List.filter_cons_of_pos (by simpa using e)]
      cases k with
      | zero => rfl
      | succ k => rw [List.take_succ_cons, List.take_succ_cons, filter_take T k h2]
/-- a cache keeps a beginning of what was used -/
theorem upN_take {n : Int} {T : List Int} (h : T.Nodup) (sz : Nat) : (n :: (T.take sz).filter fun y => decide (y ≠ n)).take sz = (upN T n).take sz := by
  cases sz with
  | zero => rfl
  | succ k =>
    unfold upN
    rw [List.take_succ_cons, List.take_succ_cons, filter_take T k h]
theorem upN_nodup {T : List Int} {n : Int} (h : T.Nodup) : (upN T n).Nodup := List.nodup_cons.2 ⟨by simp, h.filter _⟩
theorem nums_filter (K : List Ch) (n : Int) : nums (K.filter fun y => decide (y.1 ≠ n)) = (nums K).filter fun y => decide (y ≠ n) := by
  unfold nums
  rw [List.filter_map]; rfl
theorem find_mem {K : List Ch} {n : Int} {x : Ch} (h : K.find? (fun x => decide (x.1 = n)) = some x) : x ∈ K ∧ x.1 = n := by
  have h1 := List.find?_some h
  exact ⟨List.mem_of_find?_eq_some h, by simpa using h1⟩
theorem find_not {K : List Ch} {n : Int} (h : K.find? (fun x => decide (x.1 = n)) = none) : n ∉ nums K := by
  intro hc
  obtain ⟨x, hx, rfl⟩ := List.mem_map.1 hc
  have := List.find?_eq_none.1 h x hx
  simp at this
/-- what is kept behind a read -/
theorem rdC_nums {C : Ca} {L : List ByteArray} {n : Int} {T : List Int} (hT : T.Nodup) (hK : nums C.K = T.take C.sz) (hb : ∀ t ∈ T, 0 ≤ t ∧ t < (L.length : Int)) :
    if 0 ≤ n ∧ n < (L.length : Int) then (rdC C L n).1.2 = 0 ∧ nums (rdC C L n).2.K = (upN T n).take C.sz ∧ (rdC C L n).2.sz = C.sz ∧ (rdC C L n).2.h = C.h + (if n ∈ T.take C.sz then 1 else 0) ∧ (rdC C L n).2.m = C.m + (if n ∈ T.take C.sz then 0 else 1)
    else (rdC C L n).1 = (⟨#[]⟩, 7) ∧ (rdC C L n).2 = C := by
  unfold rdC
  cases hf : C.K.find? (fun x => decide (x.1 = n)) with
  | some x =>
    obtain ⟨h1, h2⟩ := find_mem hf
    have hm : n ∈ T.take C.sz := by rw [← hK, ← h2]; exact List.mem_map.2 ⟨x, h1, rfl⟩
    have := hb n (List.mem_of_mem_take hm)
    rw [if_pos this, if_pos hm, if_pos hm]
    refine ⟨rfl, ?_, rfl, rfl, by show C.m = C.m + 0; omega⟩
    show nums (useK C.sz x (C.K.filter fun y => decide (y.1 ≠ n))) = _
    unfold useK
    have e : nums ((x :: C.K.filter fun y => decide (y.1 ≠ n)).take C.sz) = (nums (x :: C.K.filter fun y => decide (y.1 ≠ n))).take C.sz := by unfold nums; rw [List.map_take]
    rw [e, show nums (x :: C.K.filter fun y => decide (y.1 ≠ n)) = x.1 :: nums (C.K.filter fun y => decide (y.1 ≠ n)) from rfl, nums_filter, hK, h2, upN_take hT]
  | none =>
    have h1 := find_not hf
    rw [hK] at h1
    by_cases c : 0 ≤ n ∧ n < (L.length : Int)
    · have e0 : (pgR L n).2 = 0 := by unfold pgR; rw [if_pos c]
      simp only [e0, if_true]
      rw [if_pos c, if_neg h1, if_neg h1]
      refine ⟨trivial, ?_, trivial, by show C.h = C.h + 0; omega, rfl⟩
      show nums (useK C.sz (n, (pgR L n).1) C.K) = _
      unfold useK
      have e : nums (((n, (pgR L n).1) :: C.K).take C.sz) = (nums ((n, (pgR L n).1) :: C.K)).take C.sz := by unfold nums; rw [List.map_take]
      rw [e, show nums ((n, (pgR L n).1) :: C.K) = n :: nums C.K from rfl, hK]
      have : T.take C.sz = (T.take C.sz).filter fun y => decide (y ≠ n) := (filter_same h1).symm
      rw [this, upN_take hT]
    · have e7 : pgR L n = (⟨#[]⟩, 7) := by unfold pgR; rw [if_neg c]
      simp only [e7]
      rw [if_neg c]
      exact ⟨rfl, rfl⟩
theorem upN_mem {T : List Int} {n t : Int} (h : t ∈ upN T n) : t = n ∨ t ∈ T := by
  rcases List.mem_cons.1 h with rfl | h
  · exact .inl rfl
  · exact .inr ((List.mem_filter.1 h).1)
end Go.Proofs.YtongpnolikkknaaGreatDoor

set_option maxRecDepth 20000
namespace Go.Proofs.YtongpnolikkknaaGreatDoor
open Sh RowKit Go.MapKept
/-- a link; none: the head -/
abbrev Nd := Option Nat
def setP (f : Nd → Nd × Nd) (y v : Nd) : Nd → Nd × Nd := fun n => if n = y then (v, (f n).2) else f n
def setN (f : Nd → Nd × Nd) (y v : Nd) : Nd → Nd × Nd := fun n => if n = y then ((f n).1, v) else f n
/-- neighbours -/
def sg (a : Nd) : List Nd → List (Nd × Nd)
  | [] => []
  | b :: l => (a, b) :: sg b l
def lastD (a : Nd) : List Nd → Nd
  | [] => a
  | b :: l => lastD b l
def Ring (f : Nd → Nd × Nd) (l : List Nd) : Prop := ∀ p ∈ sg none (l ++ [none]), (f p.1).2 = p.2 ∧ (f p.2).1 = p.1
theorem sg_app : ∀ (l1 l2 : List Nd) (a : Nd), sg a (l1 ++ l2) = sg a l1 ++ sg (lastD a l1) l2
  | [], _, _ => rfl
  | b :: l1, l2, a => by
    show (a, b) :: sg b (l1 ++ l2) = (a, b) :: (sg b l1 ++ sg (lastD b l1) l2)
    rw [sg_app l1 l2 b]
theorem sg_snd : ∀ (l : List Nd) (a : Nd), (sg a l).map (·.2) = l
  | [], _ => rfl
  | b :: l, a => by
    show b :: (sg b l).map (·.2) = _
    rw [sg_snd l b]
theorem sg_fst : ∀ (l : List Nd) (a b : Nd), (sg a (l ++ [b])).map (·.1) = a :: l
  | [], _, _ => rfl
  | c :: l, a, b => by
    show a :: (sg c (l ++ [b])).map (·.1) = _
    rw [sg_fst l c b]
theorem lastD_mem : ∀ (l : List Nd) (a : Nd), lastD a l ∈ a :: l
  | [], a => List.mem_cons_self ..
  | b :: l, a => List.mem_cons_of_mem _ (lastD_mem l b)
theorem lastD_snoc : ∀ (l : List Nd) (a b : Nd), lastD a (l ++ [b]) = b
  | [], _, _ => rfl
  | c :: l, a, b => lastD_snoc l c b
theorem tail_split (l : List Nd) : ∃ n c, l ++ [none] = n :: c ∧ n ∈ none :: l := by
  cases l with
  | nil => exact ⟨none, [], rfl, List.mem_cons_self ..⟩
  | cons a l => exact ⟨a, l ++ [none], rfl, by simp⟩
section
variable {f : Nd → Nd × Nd} {l l1 l2 : List Nd} {x : Nd}
/-- a link's neighbours -/
theorem ring_at (h : Ring f (l1 ++ x :: l2)) : (f x).1 = lastD none l1 ∧ ∀ n c, l2 ++ [none] = n :: c → (f x).2 = n := by
  have e : ∀ n c, l2 ++ [none] = n :: c → sg none ((l1 ++ x :: l2) ++ [none]) = sg none l1 ++ (lastD none l1, x) :: (x, n) :: sg n c := by
    intro n c hc
    rw [List.append_assoc, List.cons_append, hc, sg_app]
    rfl
  refine ⟨?_, fun n c hc => ?_⟩
  · obtain ⟨n, c, hc, _⟩ := tail_split l2
    exact (h (lastD none l1, x) (by rw [e n c hc]; simp)).2
  · exact (h (x, n) (by rw [e n c hc]; simp)).1
theorem ring_head (h : Ring f l) : ∀ n c, l ++ [none] = n :: c → (f none).2 = n := by
  intro n c hc
  exact (h (none, n) (by rw [hc]; exact List.mem_cons_self ..)).1
theorem ring_last (h : Ring f l) : (f none).1 = lastD none l := by
  refine (h (lastD none l, none) ?_).2
  rw [sg_app]
  exact List.mem_append_right _ (List.mem_cons_self ..)
/-- one taken out -/
theorem ring_out (h : Ring f (l1 ++ x :: l2)) (hn : (none :: (l1 ++ x :: l2)).Nodup) :
    (f x).1 ∈ none :: (l1 ++ l2) ∧ (f x).2 ∈ none :: (l1 ++ l2) ∧ Ring (setP (setN f (f x).1 (f x).2) (f x).2 (f x).1) (l1 ++ l2) := by
  obtain ⟨n, c, hc, hm⟩ := tail_split l2
  obtain ⟨ep, en⟩ := ring_at h
  have en := en n c hc
  have e1 : sg none ((l1 ++ x :: l2) ++ [none]) = sg none l1 ++ (lastD none l1, x) :: (x, n) :: sg n c := by
    rw [List.append_assoc, List.cons_append, hc, sg_app]
    rfl
  have e2 : sg none ((l1 ++ l2) ++ [none]) = sg none l1 ++ (lastD none l1, n) :: sg n c := by
    rw [List.append_assoc, hc, sg_app]
    rfl
  have hF : ((sg none l1 ++ (lastD none l1, x) :: (x, n) :: sg n c).map (·.1)).Nodup := by rw [← e1, sg_fst]; exact hn
  have hS : ((sg none l1 ++ (lastD none l1, x) :: (x, n) :: sg n c).map (·.2)).Nodup := by
    rw [← e1, sg_snd]
    have hp : ((l1 ++ x :: l2) ++ [none]).Perm (none :: (l1 ++ x :: l2)) := List.perm_append_comm.trans (List.Perm.refl _)
    exact hp.nodup_iff.2 hn
  rw [ep, en]
  refine ⟨?_, ?_, ?_⟩
  · have := lastD_mem l1 none
    rcases List.mem_cons.1 this with h | h
    · rw [h]; exact List.mem_cons_self ..
    · exact List.mem_cons_of_mem _ (List.mem_append_left _ h)
  · rcases List.mem_cons.1 hm with h | h
    · rw [h]; exact List.mem_cons_self ..
    · exact List.mem_cons_of_mem _ (List.mem_append_right _ h)
  · generalize lastD none l1 = p at *
    rw [List.map_append, List.nodup_append] at hF hS
    have hh := h
    unfold Ring at h ⊢
    rw [e1] at h
    rw [e2]
    have keyF : ∀ a ∈ sg none l1 ++ sg n c, a.1 ≠ p := by
      intro a ha e
      rcases List.mem_append.1 ha with ha | ha
      · exact hF.2.2 a.1 (List.mem_map.2 ⟨a, ha, rfl⟩) p (by simp) e
      · have := hF.2.1
        simp only [List.map_cons, List.nodup_cons] at this
        exact this.1 (List.mem_cons_of_mem _ (List.mem_map.2 ⟨a, ha, e⟩))
    have keyS : ∀ a ∈ sg none l1 ++ sg n c, a.2 ≠ n := by
      intro a ha e
      rcases List.mem_append.1 ha with ha | ha
      · exact hS.2.2 a.2 (List.mem_map.2 ⟨a, ha, rfl⟩) n (by simp) e
      · have := hS.2.1
        simp only [List.map_cons, List.nodup_cons] at this
        exact this.2.1 (List.mem_map.2 ⟨a, ha, e⟩)
    have same : ∀ a ∈ sg none l1 ++ sg n c, ((setP (setN f p n) n p) a.1).2 = a.2 ∧ ((setP (setN f p n) n p) a.2).1 = a.1 := by
      intro a ha
      have hfa := h a (by
        rcases List.mem_append.1 ha with ha | ha
        · exact List.mem_append_left _ ha
        · exact List.mem_append_right _ (List.mem_cons_of_mem _ (List.mem_cons_of_mem _ ha)))
      have k1 := keyF a ha
      have k2 := keyS a ha
      constructor
      · have : ((setP (setN f p n) n p) a.1).2 = (f a.1).2 := by
          unfold setP setN
          by_cases c1 : a.1 = n
          · rw [if_pos c1]; simp only; rw [if_neg k1]
          · rw [if_neg c1, if_neg k1]
        rw [this]; exact hfa.1
      · have : ((setP (setN f p n) n p) a.2).1 = (f a.2).1 := by
          unfold setP setN
          rw [if_neg k2]
          by_cases c1 : a.2 = p
          · rw [if_pos c1]
          · rw [if_neg c1]
        rw [this]; exact hfa.2
    intro a ha
    rcases List.mem_append.1 ha with ha | ha
    · exact same a (List.mem_append_left _ ha)
    · rcases List.mem_cons.1 ha with rfl | ha
      · constructor
        · show ((setP (setN f p n) n p) p).2 = n
          unfold setP setN
          by_cases c1 : p = n
          · simp [c1]
          · simp [c1]
        · show ((setP (setN f p n) n p) n).1 = p
          unfold setP
          simp
      · exact same a (List.mem_append_right _ ha)
/-- one put first -/
theorem ring_first (h : Ring f l) (hn : (none :: x :: l).Nodup) :
    (f none).2 ∈ none :: l ∧ Ring (setP (setN (setN (setP f x none) x (f none).2) none x) (f none).2 x) (x :: l) := by
  obtain ⟨n, c, hc, hm⟩ := tail_split l
  have en := ring_head h n c hc
  rw [en]
  refine ⟨hm, ?_⟩
  obtain ⟨hn1, hn2⟩ := List.nodup_cons.1 hn
  obtain ⟨hn3, hn4⟩ := List.nodup_cons.1 hn2
  have x0 : x ≠ none := fun e => hn1 (by rw [← e]; exact List.mem_cons_self ..)
  have e1 : sg none (l ++ [none]) = (none, n) :: sg n c := by rw [hc]; rfl
  have e2 : sg none ((x :: l) ++ [none]) = (none, x) :: (x, n) :: sg n c := by
    show (none, x) :: sg x (l ++ [none]) = _
    rw [hc]; rfl
  have hF : (((none, n) :: sg n c).map (·.1)).Nodup := by
    rw [← e1, sg_fst]
    exact List.nodup_cons.2 ⟨fun hm => hn1 (List.mem_cons_of_mem _ hm), hn4⟩
  have hS : (((none, n) :: sg n c).map (·.2)).Nodup := by
    rw [← e1, sg_snd]
    have hp : (l ++ [none]).Perm (none :: l) := List.perm_append_comm.trans (List.Perm.refl _)
    exact hp.nodup_iff.2 (List.nodup_cons.2 ⟨fun hm => hn1 (List.mem_cons_of_mem _ hm), hn4⟩)
  have hxn : x ≠ n := fun e => by
    rcases List.mem_cons.1 hm with h | h
    · exact x0 (e.trans h)
    · exact hn3 (by rw [e]; exact h)
  unfold Ring at h ⊢
  rw [e1] at h
  rw [e2]
  simp only [List.map_cons, List.nodup_cons] at hF hS
  intro a ha
  rcases List.mem_cons.1 ha with rfl | ha
  · constructor
    · show ((setP (setN (setN (setP f x none) x n) none x) n x) none).2 = x
      unfold setP setN
      by_cases c1 : none = n
      · simp [← c1]
      · simp [c1]
    · show ((setP (setN (setN (setP f x none) x n) none x) n x) x).1 = none
      unfold setP setN
      simp [hxn, x0]
  · rcases List.mem_cons.1 ha with rfl | ha
    · constructor
      · show ((setP (setN (setN (setP f x none) x n) none x) n x) x).2 = n
        unfold setP setN
        simp [hxn, x0]
      · show ((setP (setN (setN (setP f x none) x n) none x) n x) n).1 = x
        unfold setP
        simp
    · have hfa := h a (List.mem_cons_of_mem _ ha)
      have a1 : a.1 ≠ none := fun e => hF.1 (List.mem_map.2 ⟨a, ha, e⟩)
      have a2 : a.2 ≠ n := fun e => hS.1 (List.mem_map.2 ⟨a, ha, e⟩)
      have hsub1 : a.1 ∈ none :: l := by
        have : a.1 ∈ (sg none (l ++ [none])).map (·.1) := List.mem_map.2 ⟨a, by rw [e1]; exact List.mem_cons_of_mem _ ha, rfl⟩
        rwa [sg_fst] at this
      have hsub2 : a.2 ∈ l ++ [none] := by
        have : a.2 ∈ (sg none (l ++ [none])).map (·.2) := List.mem_map.2 ⟨a, by rw [e1]; exact List.mem_cons_of_mem _ ha, rfl⟩
        rwa [sg_snd] at this
      have a3 : a.1 ≠ x := fun e => by
        rcases List.mem_cons.1 hsub1 with h | h
        · exact a1 h
        · exact hn3 (by rw [← e]; exact h)
      have a4 : a.2 ≠ x := fun e => by
        rcases List.mem_append.1 hsub2 with h | h
        · exact hn3 (by rw [← e]; exact h)
        · exact x0 (by rw [← e]; exact List.mem_singleton.1 h)
      constructor
      · have : ((setP (setN (setN (setP f x none) x n) none x) n x) a.1).2 = (f a.1).2 := by
          unfold setP setN
          by_cases c1 : a.1 = n
          · simp only [c1, if_pos rfl]
            rw [c1] at a1 a3
            simp [a1, a3]
          · simp [c1, a1, a3]
        rw [this]; exact hfa.1
      · have : ((setP (setN (setN (setP f x none) x n) none x) n x) a.2).1 = (f a.2).1 := by
          unfold setP setN
          by_cases c1 : a.2 = none
          · simp [a2, a4, c1]
            rw [c1] at a2 a4
            simp [a2, a4]
          · simp [a2, a4, c1]
        rw [this]; exact hfa.2
end
end Go.Proofs.YtongpnolikkknaaGreatDoor

set_option maxRecDepth 20000
set_option maxHeartbeats 4000000
namespace Go.Proofs.YtongpnolikkknaaGreatDoor
open Sh RowKit Go.MapKept
def ptc (c : Nat) : Nd → Addr
  | none => ⟨c, 2, none⟩
  | some a => ⟨a, 0, none⟩
def ptn (c : Nat) : Nd → Addr
  | none => ⟨c, 3, none⟩
  | some a => ⟨a, 1, none⟩
theorem pta0 (c : Nat) (y : Nd) : (ptc c y).add 0 = ptc c y := by cases y <;> rfl
theorem pta1 (c : Nat) (y : Nd) : (ptc c y).add 1 = ptn c y := by cases y <;> rfl
abbrev Pp (c : Nat) (y : Nd) : Value := .pointer (some (ptc c y))
def cCell (c q : Nat) (sz n : Int) (mb : Nat) (h m : Int) (f : Nd → Nd × Nd) : Array Value :=
  #[pv q, .int .i64 sz, Pp c (f none).1, Pp c (f none).2, .int .i64 0, .string ⟨#[]⟩, .int .i64 n, .map (some mb), .int .i64 h, .int .i64 m]
def lCell (c : Nat) (f : Nd → Nd × Nd) (e : Nat × Ch) : Array Value := #[Pp c (f (some e.1)).1, Pp c (f (some e.1)).2, .int .i64 e.2.1, .string e.2.2]
structure Mm (B : Nat) (w : World) (c q : Nat) (sz n : Int) (mb : Nat) (h m : Int) (f : Nd → Nd × Nd) (E : List (Nat × Ch)) : Prop where
  cB : B ≤ c
  eB : ∀ e ∈ E, B ≤ e.1
  cb : w.heap[c]? = some (.cells (cCell c q sz n mb h m f) 124 (0, 0))
  lk : ∀ e ∈ E, w.heap[e.1]? = some (.cells (lCell c f e) 120 (0, 0))
  nd : (E.map (·.1)).Nodup
def InE (E : List (Nat × Ch)) (y : Nd) : Prop := y = none ∨ ∃ e ∈ E, y = some e.1
/-- the blocks of it -/
def fpM (c : Nat) (E : List (Nat × Ch)) : Nat → Prop := fun k => k = c ∨ ∃ e ∈ E, k = e.1
theorem setP_eq {f : Nd → Nd × Nd} {y v : Nd} : setP f y v y = (v, (f y).2) := by unfold setP; rw [if_pos rfl]
theorem setP_ne {f : Nd → Nd × Nd} {y v n : Nd} (h : n ≠ y) : setP f y v n = f n := by unfold setP; rw [if_neg h]
theorem setN_eq {f : Nd → Nd × Nd} {y v : Nd} : setN f y v y = ((f y).1, v) := by unfold setN; rw [if_pos rfl]
theorem setN_ne {f : Nd → Nd × Nd} {y v n : Nd} (h : n ≠ y) : setN f y v n = f n := by unfold setN; rw [if_neg h]
theorem nd_inj {E : List (Nat × Ch)} (hn : (E.map (·.1)).Nodup) {e e' : Nat × Ch} (h : e ∈ E) (h' : e' ∈ E) (he : e.1 = e'.1) : e = e' := by
  induction E with
  | nil => cases h
  | cons x E ih =>
    rw [List.map_cons] at hn
    obtain ⟨h1, h2⟩ := List.nodup_cons.1 hn
    rcases List.mem_cons.1 h with k | k
    · rcases List.mem_cons.1 h' with k' | k'
      · rw [k, k']
      · exact absurd (List.mem_map.2 ⟨e', k', by rw [← he, k]⟩) h1
    · rcases List.mem_cons.1 h' with k' | k'
      · exact absurd (List.mem_map.2 ⟨e, k, by rw [he, k']⟩) h1
      · exact ih h2 k k'
section
variable {B : Nat} {w w' : World} {c q mb : Nat} {sz n h m : Int} {f : Nd → Nd × Nd} {E : List (Nat × Ch)} {y v : Nd} {K0 : M} {Q : Value → World → Prop}
theorem Mm.ne (hm : Mm B w c q sz n mb h m f E) : ∀ e ∈ E, e.1 ≠ c := fun e he hc => by
  have h1 := hm.lk e he
  rw [hc, hm.cb] at h1
  have h2 := Option.some.inj h1
  injection h2 with _ h3 _
  exact absurd h3 (by decide)
theorem Mm.below (hm : Mm B w c q sz n mb h m f E) (hb : Below w.heap.size w w') : Mm B w' c q sz n mb h m f E := ⟨hm.cB, hm.eB, stay hb hm.cb, fun e he => stay hb (hm.lk e he), hm.nd⟩
theorem Mm.chg {S : Nat → Prop} (hm : Mm B w c q sz n mb h m f E) (hc : ChgS S w w') (hS : ∀ k, fpM c E k → ¬ S k) : Mm B w' c q sz n mb h m f E := ⟨hm.cB, hm.eB, hc.keep hm.cb (hS c (.inl rfl)), fun e he => hc.keep (hm.lk e he) (hS e.1 (.inr ⟨e, he, rfl⟩)), hm.nd⟩
theorem Mm.sub {E' : List (Nat × Ch)} (hm : Mm B w c q sz n mb h m f E) (hs : E'.Sublist E) : Mm B w c q sz n mb h m f E' := ⟨hm.cB, fun e he => hm.eB e (hs.subset he), hm.cb, fun e he => hm.lk e (hs.subset he), hm.nd.sublist (hs.map _)⟩
theorem Mm.fpB (hm : Mm B w c q sz n mb h m f E) : ∀ k, fpM c E k → B ≤ k := by
  rintro k (rfl | ⟨e, he, rfl⟩)
  · exact hm.cB
  · exact hm.eB e he
theorem Mm.lt (hm : Mm B w c q sz n mb h m f E) : ∀ k, fpM c E k → k < w.heap.size := by
  rintro k (rfl | ⟨e, he, rfl⟩)
  · exact blk_lt hm.cb
  · exact blk_lt (hm.lk e he)
theorem Mm.gP (hm : Mm B w c q sz n mb h m f E) (hy : InE E y) : w.cell? (ptc c y) = some (Pp c (f y).1) := by
  rcases hy with rfl | ⟨e, he, rfl⟩
  · show w.cell? ⟨c, 2, none⟩ = _
    rw [cell_of_blk hm.cb]; rfl
  · show w.cell? ⟨e.1, 0, none⟩ = _
    rw [cell_of_blk (hm.lk e he)]; rfl
theorem Mm.gN (hm : Mm B w c q sz n mb h m f E) (hy : InE E y) : w.cell? (ptn c y) = some (Pp c (f y).2) := by
  rcases hy with rfl | ⟨e, he, rfl⟩
  · show w.cell? ⟨c, 3, none⟩ = _
    rw [cell_of_blk hm.cb]; rfl
  · show w.cell? ⟨e.1, 1, none⟩ = _
    rw [cell_of_blk (hm.lk e he)]; rfl
theorem Mm.c6 (hm : Mm B w c q sz n mb h m f E) : w.cell? ⟨c, 6, none⟩ = some (.int .i64 n) := by rw [cell_of_blk hm.cb]; rfl
theorem Mm.sP (hm : Mm B w c q sz n mb h m f E) (hy : InE E y) (kk : ∀ w', Mm B w' c q sz n mb h m (setP f y v) E → (∀ S : Nat → Prop, (∀ k, fpM c E k → S k) → ChgS S w w') → K0 w' Q) : st (.pointer (some (ptc c y))) (Pp c v) K0 w Q := by
  rcases hy with rfl | ⟨e, he, rfl⟩
  · refine st_box (o := 2) (v := Pp c v) hm.cb (by show 2 < 10; decide) rfl fun w1 h1 u1 => kk w1 ⟨hm.cB, hm.eB, ?_, fun e he => ?_, hm.nd⟩ fun S hS => ChgS.of_upd u1 (hS _ (.inl rfl))
    · rw [h1]
      unfold cCell
      rw [setP_eq]
      rfl
    · rw [u1.block e.1 (hm.ne e he), hm.lk e he]
      unfold lCell
      rw [setP_ne (by simp)]
  · refine st_box (o := 0) (v := Pp c v) (hm.lk e he) (by show 0 < 4; decide) rfl fun w1 h1 u1 => kk w1 ⟨hm.cB, hm.eB, ?_, fun e' he' => ?_, hm.nd⟩ fun S hS => ChgS.of_upd u1 (hS _ (.inr ⟨e, he, rfl⟩))
    · rw [u1.block c (hm.ne e he).symm, hm.cb]
      unfold cCell
      rw [setP_ne (by simp)]
    · by_cases hee : e'.1 = e.1
      · obtain rfl := nd_inj hm.nd he' he hee
        rw [h1]
        unfold lCell
        rw [setP_eq]
        rfl
      · rw [u1.block e'.1 hee, hm.lk e' he']
        unfold lCell
        rw [setP_ne (by simpa using hee)]
theorem Mm.sN (hm : Mm B w c q sz n mb h m f E) (hy : InE E y) (kk : ∀ w', Mm B w' c q sz n mb h m (setN f y v) E → (∀ S : Nat → Prop, (∀ k, fpM c E k → S k) → ChgS S w w') → K0 w' Q) : st (.pointer (some (ptn c y))) (Pp c v) K0 w Q := by
  rcases hy with rfl | ⟨e, he, rfl⟩
  · refine st_box (o := 3) (v := Pp c v) hm.cb (by show 3 < 10; decide) rfl fun w1 h1 u1 => kk w1 ⟨hm.cB, hm.eB, ?_, fun e he => ?_, hm.nd⟩ fun S hS => ChgS.of_upd u1 (hS _ (.inl rfl))
    · rw [h1]
      unfold cCell
      rw [setN_eq]
      rfl
    · rw [u1.block e.1 (hm.ne e he), hm.lk e he]
      unfold lCell
      rw [setN_ne (by simp)]
  · refine st_box (o := 1) (v := Pp c v) (hm.lk e he) (by show 1 < 4; decide) rfl fun w1 h1 u1 => kk w1 ⟨hm.cB, hm.eB, ?_, fun e' he' => ?_, hm.nd⟩ fun S hS => ChgS.of_upd u1 (hS _ (.inr ⟨e, he, rfl⟩))
    · rw [u1.block c (hm.ne e he).symm, hm.cb]
      unfold cCell
      rw [setN_ne (by simp)]
    · by_cases hee : e'.1 = e.1
      · obtain rfl := nd_inj hm.nd he' he hee
        rw [h1]
        unfold lCell
        rw [setN_eq]
        rfl
      · rw [u1.block e'.1 hee, hm.lk e' he']
        unfold lCell
        rw [setN_ne (by simpa using hee)]
/-- one of the cache's own numbers stored -/
theorem Mm.sI {o : Nat} {x : Int} {n' h' m' : Int} (hm : Mm B w c q sz n mb h m f E) (ho : o < 10) (he : (cCell c q sz n mb h m f).setIfInBounds o (.int .i64 x) = cCell c q sz n' mb h' m' f) (kk : ∀ w', Mm B w' c q sz n' mb h' m' f E → (∀ S : Nat → Prop, (∀ k, fpM c E k → S k) → ChgS S w w') → K0 w' Q) : st (.pointer (some ⟨c, o, none⟩)) (.int .i64 x) K0 w Q := by
  refine st_box (o := o) (v := .int .i64 x) hm.cb (by show o < 10; exact ho) rfl fun w1 h1 u1 => kk w1 ⟨hm.cB, hm.eB, by rw [h1, he], fun e he => by rw [u1.block e.1 (hm.ne e he), hm.lk e he], hm.nd⟩ fun S hS => ChgS.of_upd u1 (hS _ (.inl rfl))
theorem f76_s {e : Nat × Ch} (hm : Mm B w c q sz n mb h m f E) (he : e ∈ E) (hp : InE E (f (some e.1)).1) (hx : InE E (f (some e.1)).2) (hn : 0 ≤ n) (hn2 : n ≤ 1000)
    (kk : ∀ w', Mm B w' c q sz (n - 1) mb h m (setP (setN f (f (some e.1)).1 (f (some e.1)).2) (f (some e.1)).2 (f (some e.1)).1) E → ChgS (fpM c E) w w' → Q (.tuple #[]) w') :
    f76 (.pointer (some ⟨c, 2, none⟩)) (pv e.1) w Q := by
  unfold f76
  have hmd : Mm B (drw w) c q sz n mb h m f E := ⟨hm.cB, hm.eB, hm.cb, hm.lk, hm.nd⟩
  have c0 : (drw w).cell? ⟨e.1, 0, none⟩ = some (Pp c (f (some e.1)).1) := hmd.gP (y := some e.1) (.inr ⟨e, he, rfl⟩)
  have c1 : (drw w).cell? ⟨e.1, 1, none⟩ = some (Pp c (f (some e.1)).2) := hmd.gN (y := some e.1) (.inr ⟨e, he, rfl⟩)
  have c0' : w.cell? ⟨e.1, 0, none⟩ = some (Pp c (f (some e.1)).1) := c0
  have c1' : w.cell? ⟨e.1, 1, none⟩ = some (Pp c (f (some e.1)).2) := c1
  have ew : IntKind.i64.wrap (n - 1) = n - 1 := w64 (by omega) (by omega)
  try simp only [↓reduceIte, ↓LL, LM, Value.cells, Nat.reduceAdd, Option.some.injEq, exists_eq_left', decide_true, decide_false, if_true, if_false, reduceCtorEq, cond_true, cond_false, c0, c1, c0', c1', pta0, pta1]
  generalize (f (some e.1)).1 = p at *
  generalize (f (some e.1)).2 = x at *
  refine hmd.sN hp fun w1 m1 g1 => ?_
  try simp only [↓reduceIte, ↓LL, LM, Value.cells, Nat.reduceAdd, Option.some.injEq, exists_eq_left', decide_true, decide_false, if_true, if_false, reduceCtorEq, cond_true, cond_false, pta0, pta1]
  refine m1.sP hx fun w2 m2 g2 => ?_
  have c6 := m2.c6
  try simp only [↓reduceIte, ↓LL, LM, Value.cells, Nat.reduceAdd, Option.some.injEq, exists_eq_left', decide_true, decide_false, if_true, if_false, reduceCtorEq, cond_true, cond_false, c6, ew]
  refine m2.sI (by decide) rfl fun w3 m3 g3 => ?_
  try simp only [↓reduceIte, ↓LL, LM, Value.cells, Nat.reduceAdd, Option.some.injEq, exists_eq_left', decide_true, decide_false, if_true, if_false, reduceCtorEq, cond_true, cond_false]
  refine kk w3 m3 ?_
  have s1 : ChgS (fpM c E) (drw w) w1 := g1 _ fun _ h => h
  exact ((s1.trans (g2 _ fun _ h => h) fun _ _ h => h).trans (g3 _ fun _ h => h) fun _ _ h => h).of_drw
theorem f107_s {e : Nat × Ch} {va vb : Value} (hm : Mm B w c q sz n mb h m f E) (hne : e.1 ∉ E.map (·.1)) (heB : B ≤ e.1) (hblk : w.heap[e.1]? = some (.cells #[va, vb, .int .i64 e.2.1, .string e.2.2] 120 (0, 0))) (hx : InE E (f none).2) (hn : 0 ≤ n) (hn2 : n ≤ 1000)
    (kk : ∀ w', Mm B w' c q sz (n + 1) mb h m (setP (setN (setN (setP f (some e.1) none) (some e.1) (f none).2) none (some e.1)) (f none).2 (some e.1)) (e :: E) → ChgS (fpM c (e :: E)) w w' → Q (.tuple #[]) w') :
    f107 (.pointer (some ⟨c, 2, none⟩)) (pv e.1) w Q := by
  unfold f107
  have hmd : Mm B (drw w) c q sz n mb h m f E := ⟨hm.cB, hm.eB, hm.cb, hm.lk, hm.nd⟩
  have hie : InE (e :: E) (some e.1) := .inr ⟨e, List.mem_cons_self .., rfl⟩
  have hec : e.1 ≠ c := fun hc => by
    rw [hc, hm.cb] at hblk
    have h2 := Option.some.inj hblk
    injection h2 with _ h3 _
    exact absurd h3 (by decide)
  have c3 : (drw w).cell? ⟨c, 3, none⟩ = some (Pp c (f none).2) := hmd.gN (y := none) (.inl rfl)
  have c3' : w.cell? ⟨c, 3, none⟩ = some (Pp c (f none).2) := c3
  have ew : IntKind.i64.wrap (n + 1) = n + 1 := w64 (by omega) (by omega)
  try simp only [↓reduceIte, ↓LL, LM, Value.cells, Nat.reduceAdd, Option.some.injEq, exists_eq_left', decide_true, decide_false, if_true, if_false, reduceCtorEq, cond_true, cond_false, c3, c3', pta0, pta1]
  generalize hxx : (f none).2 = x at *
  refine st_box (w := drw w) (o := 0) (v := Pp c none) (show (drw w).heap[e.1]? = _ from hblk) (by show 0 < 4; decide) rfl fun w1 h1 u1 => ?_
  try simp only [↓reduceIte, ↓LL, LM, Value.cells, Nat.reduceAdd, Option.some.injEq, exists_eq_left', decide_true, decide_false, if_true, if_false, reduceCtorEq, cond_true, cond_false]
  refine st_box (o := 1) (v := Pp c x) h1 (by show 1 < 4; decide) rfl fun w2 h2 u2 => ?_
  have hk : ∀ k, k ≠ e.1 → w2.heap[k]? = (drw w).heap[k]? := fun k hk => by rw [u2.block k hk, u1.block k hk]
  have m2 : Mm B w2 c q sz n mb h m (setN (setP f (some e.1) none) (some e.1) x) (e :: E) := by
    refine ⟨hm.cB, fun a ha => ?_, ?_, fun a ha => ?_, ?_⟩
    · rcases List.mem_cons.1 ha with rfl | ha
      · exact heB
      · exact hm.eB a ha
    · rw [hk c hec.symm]
      show w.heap[c]? = _
      rw [hm.cb]
      unfold cCell
      rw [setN_ne (by simp), setP_ne (by simp)]
    · rcases List.mem_cons.1 ha with rfl | ha
      · rw [h2]
        unfold lCell
        rw [setN_eq, setP_eq]
        rfl
      · have hae : a.1 ≠ e.1 := fun hc => hne (List.mem_map.2 ⟨a, ha, hc⟩)
        rw [hk a.1 hae]
        show w.heap[a.1]? = _
        rw [hm.lk a ha]
        unfold lCell
        rw [setN_ne (by simpa using hae), setP_ne (by simpa using hae)]
    · rw [List.map_cons]
      exact List.nodup_cons.2 ⟨hne, hm.nd⟩
  have m2d : Mm B (drw w2) c q sz n mb h m _ (e :: E) := ⟨m2.cB, m2.eB, m2.cb, m2.lk, m2.nd⟩
  have hx' : InE (e :: E) x := by
    rcases hx with h | ⟨a, ha, h⟩
    · exact .inl h
    · exact .inr ⟨a, List.mem_cons_of_mem _ ha, h⟩
  have d0 : (drw w2).cell? ⟨e.1, 0, none⟩ = some (Pp c none) := by
    have := m2d.gP (y := some e.1) hie
    rw [setN_eq, setP_eq] at this
    exact this
  have d1 : (drw w2).cell? ⟨e.1, 1, none⟩ = some (Pp c x) := by
    have := m2d.gN (y := some e.1) hie
    rw [setN_eq] at this
    exact this
  have d0' : w2.cell? ⟨e.1, 0, none⟩ = some (Pp c none) := d0
  have d1' : w2.cell? ⟨e.1, 1, none⟩ = some (Pp c x) := d1
  try simp only [↓reduceIte, ↓LL, LM, Value.cells, Nat.reduceAdd, Option.some.injEq, exists_eq_left', decide_true, decide_false, if_true, if_false, reduceCtorEq, cond_true, cond_false, d0, d1, d0', d1', pta0, pta1]
  refine m2d.sN (y := none) (v := some e.1) (.inl rfl) fun w3 m3 g3 => ?_
  try simp only [↓reduceIte, ↓LL, LM, Value.cells, Nat.reduceAdd, Option.some.injEq, exists_eq_left', decide_true, decide_false, if_true, if_false, reduceCtorEq, cond_true, cond_false, pta0, pta1]
  refine m3.sP (v := some e.1) hx' fun w4 m4 g4 => ?_
  have c6 := m4.c6
  try simp only [↓reduceIte, ↓LL, LM, Value.cells, Nat.reduceAdd, Option.some.injEq, exists_eq_left', decide_true, decide_false, if_true, if_false, reduceCtorEq, cond_true, cond_false, c6, ew]
  refine m4.sI (by decide) rfl fun w5 m5 g5 => ?_
  try simp only [↓reduceIte, ↓LL, LM, Value.cells, Nat.reduceAdd, Option.some.injEq, exists_eq_left', decide_true, decide_false, if_true, if_false, reduceCtorEq, cond_true, cond_false]
  refine kk w5 m5 ?_
  have s1 : ChgS (fpM c (e :: E)) (drw w) w1 := ChgS.of_upd u1 (.inr ⟨e, List.mem_cons_self .., rfl⟩)
  have s2 : ChgS (fpM c (e :: E)) (drw w) w2 := s1.trans (ChgS.of_upd u2 (S := fpM c (e :: E)) (.inr ⟨e, List.mem_cons_self .., rfl⟩)) fun _ _ h => h
  have s3 : ChgS (fpM c (e :: E)) w2 w3 := (g3 (fpM c (e :: E)) fun _ h => h).of_drw
  exact ((((s2.trans s3 fun _ _ h => h).trans (g4 _ fun _ h => h) fun _ _ h => h).trans (g5 _ fun _ h => h) fun _ _ h => h)).of_drw
end
end Go.Proofs.YtongpnolikkknaaGreatDoor

set_option maxRecDepth 20000
set_option maxHeartbeats 4000000
namespace Go.Proofs.YtongpnolikkknaaGreatDoor
open Sh RowKit Go.MapKept
section
variable {P : Program} {w : World} {Q : Value → World → Prop} {K : Value → M}
theorem run_neq_ptr_same {tp te : TypeId} {j : TypeInfo} (a : Addr) (hp : P.underlying tp = some (.pointer te)) (hte : P.info? te = some j) :
    (binOp .neq tp (.pointer (some a)) (.pointer (some a))).run P w = .ok (.bool false) w := by
  have h : ∀ d : Nat, (Op.equalIn (d + 1) tp (.pointer (some a)) (.pointer (some a))).run P w = .ok true w := fun d => by
    simp [Op.equalIn, run_underlying hp, sizeOf, typeInfo, hte, run_sameAddr_same]
  simp only [binOp]
  simp [Op.equal, Op.maxDepth, h 9999]
theorem run_neq_ptr_other {tp te : TypeId} {j : TypeInfo} {a b : Addr} {ca cb : Array Value} {ta tb : TypeId} (hp : P.underlying tp = some (.pointer te)) (hte : P.info? te = some j) (hsz : j.size ≠ 0)
    (hne : a ≠ b) (ha : w.heap[a.block]? = some (.cells ca ta (0, 0))) (hb : w.heap[b.block]? = some (.cells cb tb (0, 0))) :
    (binOp .neq tp (.pointer (some a)) (.pointer (some b))).run P w = .ok (.bool true) w := by
  have h : ∀ d : Nat, (Op.equalIn (d + 1) tp (.pointer (some a)) (.pointer (some b))).run P w = .ok false w := fun d => by
    simp [Op.equalIn, run_underlying hp, sizeOf, typeInfo, hte, hsz, run_sameAddr_other w hne ha hb]
  simp only [binOp]
  simp [Op.equal, Op.maxDepth, h 9999]
theorem ptr_ne {tp te : TypeId} {j : TypeInfo} {a b : Addr} {x y : Operand} {ca cb : Array Value} {ta tb : TypeId} (hp : P.underlying tp = some (.pointer te)) (hte : P.info? te = some j) (hsz : j.size ≠ 0)
    (ha : w.heap[a.block]? = some (.cells ca ta (0, 0))) (hb : w.heap[b.block]? = some (.cells cb tb (0, 0))) :
    smr P (do eqGuard .neq tp x y (.pointer (some a)) (.pointer (some b)); binOp .neq tp (.pointer (some a)) (.pointer (some b))) K w Q = K (.bool (decide (a ≠ b))) w Q := by
  refine smr_run ?_
  by_cases e : a = b
  · subst e
    have h := run_neq_ptr_same (w := w) a hp hte
    simp [eqGuard, h]
  · have h := run_neq_ptr_other hp hte hsz e ha hb
    simp [eqGuard, h, e]
end
section
variable {α : Type} [DecidableEq α]
theorem lk_del {L : List (α × Value)} {k k' : α} : lk (del L k) k' = if k' = k then none else lk L k' := by
  induction L with
  | nil => simp [del, lk]
  | cons p L ih =>
    obtain ⟨a, u⟩ := p
    by_cases ha : a = k
    · have e : del ((a, u) :: L) k = del L k := by unfold del; rw [List.filter_cons_of_neg (by simp [ha])]
      rw [e, ih, lk_cons]
      by_cases hk : k' = k
      · rw [if_pos hk, if_pos hk]
      · rw [if_neg hk, if_neg hk, if_neg (fun e => hk (by rw [← e, ha]))]
    · have e : del ((a, u) :: L) k = (a, u) :: del L k := by unfold del; rw [List.filter_cons_of_pos (by simpa using ha)]
      rw [e, lk_cons, lk_cons, ih]
      by_cases hk : k' = k
      · rw [if_pos hk, if_neg (fun e => ha (by rw [e, hk])), if_pos hk]
      · rw [if_neg hk, if_neg hk]
end
theorem KKc : KeyK Tryz.prog 115 3 116 (.int .i64) kI := ⟨by kernel_rfl, by kernel_rfl, fun a => by simp [kI, IsKey], fun a b h => by simpa [kI] using h⟩
theorem zC : zeroIs Tryz.prog 116 (.pointer none) := by unfold zeroIs; kernel_rfl
theorem ptK : Tryz.prog.underlying 29 = some (.pointer (Tryz.prog.pointee 29)) := by kernel_rfl
theorem ptL : Tryz.prog.underlying 116 = some (.pointer 120) := by kernel_rfl
theorem infL : (Tryz.prog.info? 120).map (·.size) = some 4 := by kernel_rfl
end Go.Proofs.YtongpnolikkknaaGreatDoor

set_option maxRecDepth 20000
set_option maxHeartbeats 4000000
namespace Go.Proofs.YtongpnolikkknaaGreatDoor
open Sh RowKit Go.MapKept
def fnd (E : List (Nat × Ch)) (n : Int) : Option (Nat × Ch) := E.find? fun e => decide (e.2.1 = n)
def nds (E : List (Nat × Ch)) : List Nd := E.map fun e => some e.1
structure CaAt (B : Nat) (w : World) (c q mb : Nat) (C : Ca) (E : List (Nat × Ch)) : Prop where
  K : C.K = E.map (·.2)
  rg : ∃ f, Mm B w c q C.sz E.length mb C.h C.m f E ∧ Ring f (nds E)
  mB : B ≤ mb
  mp : ∃ ML, MapAt kI w mb ML ∧ ∀ n, lk ML n = (fnd E n).map fun e => pv e.1
  nk : (nums C.K).Nodup
  le : E.length ≤ C.sz
  l64 : C.sz ≤ 64
def fpA (c mb : Nat) (E : List (Nat × Ch)) : Nat → Prop := fun k => fpM c E k ∨ k = mb
theorem fnd_cons {e : Nat × Ch} {E : List (Nat × Ch)} {n : Int} : fnd (e :: E) n = if e.2.1 = n then some e else fnd E n := by
  unfold fnd
  by_cases h : e.2.1 = n
  · rw [List.find?_cons_of_pos (by simpa using h), if_pos h]
  · rw [List.find?_cons_of_neg (by simpa using h), if_neg h]
theorem fnd_app {E1 E2 : List (Nat × Ch)} {n : Int} : fnd (E1 ++ E2) n = (fnd E1 n).or (fnd E2 n) := by unfold fnd; rw [List.find?_append]
theorem fnd_none {E : List (Nat × Ch)} {n : Int} (h : n ∉ E.map (·.2.1)) : fnd E n = none := by
  unfold fnd
  refine List.find?_eq_none.2 fun e he hn => h (List.mem_map.2 ⟨e, he, by simpa using hn⟩)
theorem nds_none {E : List (Nat × Ch)} (h : (E.map (·.1)).Nodup) : (none :: nds E).Nodup := by
  refine List.nodup_cons.2 ⟨fun hc => ?_, ?_⟩
  · obtain ⟨e, _, h⟩ := List.mem_map.1 hc
    cases h
  · have e : nds E = (E.map (·.1)).map some := by unfold nds; rw [List.map_map]; rfl
    rw [e]
    exact nodup_map_inj h fun a _ b _ hab => Option.some.inj hab
theorem inE_of {E : List (Nat × Ch)} {y : Nd} (h : y ∈ none :: nds E) : InE E y := by
  rcases List.mem_cons.1 h with h | h
  · exact .inl h
  · obtain ⟨e, he, hx⟩ := List.mem_map.1 h
    exact .inr ⟨e, he, hx.symm⟩
theorem find_fnd {E : List (Nat × Ch)} {n : Int} : (E.map (·.2)).find? (fun x => decide (x.1 = n)) = (fnd E n).map (·.2) := by
  unfold fnd
  rw [List.find?_map]; rfl
theorem fnd_mem {E : List (Nat × Ch)} {n : Int} {e : Nat × Ch} (h : fnd E n = some e) : e ∈ E ∧ e.2.1 = n := by
  unfold fnd at h
  have h1 := List.find?_some h
  exact ⟨List.mem_of_find?_eq_some h, by simpa using h1⟩
theorem nums_map (E : List (Nat × Ch)) : nums (E.map (·.2)) = E.map (·.2.1) := by unfold nums; rw [List.map_map]; rfl
section
variable {B : Nat} {w w' : World} {c q mb : Nat} {sz : Nat} {h m n : Int} {f : Nd → Nd × Nd} {E : List (Nat × Ch)} {C : Ca} {L : List ByteArray} {p : Nat} {u st cc : Value} {Bp : Nat} {Q : Value → World → Prop}
theorem CaAt.below (hc : CaAt B w c q mb C E) (hb : Below w.heap.size w w') : CaAt B w' c q mb C E := by
  obtain ⟨f, hm, hr⟩ := hc.rg
  obtain ⟨ML, h1, h2⟩ := hc.mp
  exact ⟨hc.K, ⟨f, hm.below hb, hr⟩, hc.mB, ⟨ML, h1.below hb, h2⟩, hc.nk, hc.le, hc.l64⟩
theorem CaAt.chg {S : Nat → Prop} (hc : CaAt B w c q mb C E) (hg : ChgS S w w') (hS : ∀ k, fpA c mb E k → ¬ S k) : CaAt B w' c q mb C E := by
  obtain ⟨f, hm, hr⟩ := hc.rg
  obtain ⟨ML, h1, h2⟩ := hc.mp
  exact ⟨hc.K, ⟨f, hm.chg hg fun k hk => hS k (.inl hk), hr⟩, hc.mB, ⟨ML, h1.stay (hg.block mb h1.lt (hS mb (.inr rfl))), h2⟩, hc.nk, hc.le, hc.l64⟩
theorem CaAt.fpB (hc : CaAt B w c q mb C E) : ∀ k, fpA c mb E k → B ≤ k := by
  obtain ⟨f, hm, hr⟩ := hc.rg
  rintro k (hk | rfl)
  · exact hm.fpB k hk
  · exact hc.mB
theorem CaAt.lt (hc : CaAt B w c q mb C E) : ∀ k, fpA c mb E k → k < w.heap.size := by
  obtain ⟨f, hm, hr⟩ := hc.rg
  obtain ⟨ML, h1, h2⟩ := hc.mp
  rintro k (hk | rfl)
  · exact hm.lt k hk
  · exact h1.lt
theorem map_ne {ML : List (Int × Value)} {g : Nat} {cur : Array Value} {e : TypeId} (h : MapAt kI w mb ML) (hg : w.heap[g]? = some (.cells cur e (0, 0))) : g ≠ mb := by
  rintro rfl
  obtain ⟨es, clock, h1, _⟩ := h
  rw [h1] at hg; cases hg
theorem Mm.mne {ML : List (Int × Value)} (hm : Mm B w c q sz n mb h m f E) (hp : MapAt kI w mb ML) : ∀ k, fpM c E k → k ≠ mb := by
  rintro k (rfl | ⟨e, he, rfl⟩)
  · exact map_ne hp hm.cb
  · exact map_ne hp (hm.lk e he)
theorem Mm.of_drw (hm : Mm B w c q sz n mb h m f E) : Mm B (drw w) c q sz n mb h m f E := ⟨hm.cB, hm.eB, hm.cb, hm.lk, hm.nd⟩
/-- a link used: put first, the last one away if they are too many -/
theorem f77_s {e : Nat × Ch} {va vb : Value} {ML : List (Int × Value)} (hm : Mm B w c q sz E.length mb h m f E) (hr : Ring f (nds E)) (hne : e.1 ∉ E.map (·.1)) (heB : B ≤ e.1)
    (hblk : w.heap[e.1]? = some (.cells #[va, vb, .int .i64 e.2.1, .string e.2.2] 120 (0, 0))) (hmB : B ≤ mb) (hmp : MapAt kI w mb ML) (hlk : ∀ n, n ≠ e.2.1 → lk ML n = (fnd E n).map fun e => pv e.1)
    (hle : E.length ≤ sz) (h64 : sz ≤ 64) (hnk : ((e :: E).map (·.2.1)).Nodup)
    (kk : ∀ w', CaAt B w' c q mb ⟨sz, useK sz e.2 (E.map (·.2)), h, m⟩ ((e :: E).take sz) → ChgS (fpA c mb (e :: E)) w w' → Q (.tuple #[]) w') : f77 (pv c) (pv e.1) w Q := by
  unfold f77
  have hndn : (none :: some e.1 :: nds E).Nodup := nds_none (E := e :: E) (by rw [List.map_cons]; exact List.nodup_cons.2 ⟨hne, hm.nd⟩)
  obtain ⟨g1, g2⟩ := ring_first hr hndn
  try simp only [↓reduceIte, ↓LL, LM, Value.cells, Nat.reduceAdd, Option.some.injEq, exists_eq_left', decide_true, decide_false, if_true, if_false, reduceCtorEq, cond_true, cond_false]
  refine f107_s hm hne heB hblk (inE_of g1) (by omega) (by omega) fun w1 m1 hc1 => ?_
  generalize setP (setN (setN (setP f (some e.1) none) (some e.1) (f none).2) none (some e.1)) (f none).2 (some e.1) = f1 at *
  have emb : ∀ k, fpM c (e :: E) k → k ≠ mb := by
    rintro k (rfl | ⟨a, ha, rfl⟩)
    · exact map_ne hmp hm.cb
    · rcases List.mem_cons.1 ha with rfl | ha
      · exact map_ne hmp hblk
      · exact map_ne hmp (hm.lk a ha)
  have hmp1 : MapAt kI w1 mb ML := hmp.stay (hc1.block mb hmp.lt fun hk => emb mb hk rfl)
  have hcA : ChgS (fpA c mb (e :: E)) w w1 := hc1.mono fun k hk => .inl hk
  have c7 : (drw w1).cell? ⟨c, 7, none⟩ = some (.map (some mb)) := by show w1.cell? _ = _; rw [cell_of_blk m1.cb]; rfl
  have ce2 : (drw w1).cell? ⟨e.1, 2, none⟩ = some (.int .i64 e.2.1) := by show w1.cell? _ = _; rw [cell_of_blk (m1.lk e (List.mem_cons_self ..))]; rfl
  have c7' : w1.cell? ⟨c, 7, none⟩ = some (.map (some mb)) := c7
  have ce2' : w1.cell? ⟨e.1, 2, none⟩ = some (.int .i64 e.2.1) := ce2
  try simp only [↓reduceIte, ↓LL, LM, Value.cells, Nat.reduceAdd, Option.some.injEq, exists_eq_left', decide_true, decide_false, if_true, if_false, reduceCtorEq, cond_true, cond_false, c7, ce2, c7', ce2']
  refine upd_map (kv := kI) KKc (show MapAt kI (drw w1) mb ML from hmp1) e.2.1 (pv e.1) fun w2 hmp2 u2 => ?_
  have hc2 : ChgS (fpA c mb (e :: E)) w w2 := hcA.trans (T := fpA c mb (e :: E)) ((ChgS.of_upd u2 (S := fpA c mb (e :: E)) (.inr rfl)).of_drw) fun _ _ h => h
  have m2 : Mm B w2 c q sz (E.length + 1) mb h m f1 (e :: E) := m1.of_drw.chg (ChgS.of_upd u2 (S := fun k => k = mb) rfl) fun k hk hn => emb k hk hn
  have lk2 : ∀ n, lk (put ML e.2.1 (pv e.1)) n = (fnd (e :: E) n).map fun e => pv e.1 := by
    intro n
    rw [lk_put, fnd_cons]
    by_cases hn : n = e.2.1
    · rw [if_pos hn, if_pos hn.symm]; rfl
    · rw [if_neg hn, if_neg (fun h => hn h.symm), hlk n hn]
  generalize put ML e.2.1 (pv e.1) = ML2 at *
  have c6 : (drw w2).cell? ⟨c, 6, none⟩ = some (.int .i64 ((E.length : Int) + 1)) := m2.c6
  have c1 : (drw w2).cell? ⟨c, 1, none⟩ = some (.int .i64 (sz : Int)) := by show w2.cell? _ = _; rw [cell_of_blk m2.cb]; rfl
  have c6' : w2.cell? ⟨c, 6, none⟩ = some (.int .i64 ((E.length : Int) + 1)) := c6
  have c1' : w2.cell? ⟨c, 1, none⟩ = some (.int .i64 (sz : Int)) := c1
  have m2d := m2.of_drw
  by_cases cg : sz < E.length + 1
  · have cg1 : (E.length : Int) + 1 > (sz : Int) := by omega
    have cg2 : (sz : Int) < (E.length : Int) + 1 := by omega
    obtain ⟨E2, z, hz⟩ : ∃ E2 z, e :: E = E2 ++ [z] := ⟨(e :: E).dropLast, (e :: E).getLast (by simp), (List.dropLast_concat_getLast (by simp)).symm⟩
    have hzl : E2.length = sz := by
      have := congrArg List.length hz
      rw [List.length_append, List.length_cons] at this
      simp only [List.length_cons, List.length_nil] at this
      omega
    have htk : (e :: E).take sz = E2 := by rw [hz, ← hzl, List.take_left']; rfl
    rw [htk] at kk
    have g2' : Ring f1 (nds E2 ++ [some z.1]) := by
      have : (some e.1 :: nds E : List Nd) = nds E2 ++ [some z.1] := by
        show nds (e :: E) = _
        rw [hz]; unfold nds; rw [List.map_append]; rfl
      rw [← this]; exact g2
    have hlast : (f1 none).1 = some z.1 := by rw [ring_last g2', lastD_snoc]
    have hnd3 : (none :: (nds E2 ++ some z.1 :: [])).Nodup := by
      have : (nds E2 ++ some z.1 :: [] : List Nd) = nds (e :: E) := by rw [hz]; unfold nds; rw [List.map_append]; rfl
      rw [this]
      exact nds_none m2.nd
    have zmem : z ∈ e :: E := by rw [hz]; simp
    have c2 : (drw w2).cell? ⟨c, 2, none⟩ = some (pv z.1) := by
      have := m2d.gP (y := none) (.inl rfl)
      rw [hlast] at this
      exact this
    have c2' : w2.cell? ⟨c, 2, none⟩ = some (pv z.1) := c2
    try simp only [↓reduceIte, ↓LL, LM, Value.cells, Nat.reduceAdd, Option.some.injEq, exists_eq_left', decide_true, decide_false, if_true, if_false, reduceCtorEq, cond_true, cond_false, c6, c1, c6', c1', cg1, cg2, c2, c2']
    obtain ⟨o1, o2, o3⟩ := ring_out (l1 := nds E2) (l2 := []) (x := some z.1) g2' hnd3
    have sub : ∀ y : Nd, y ∈ none :: (nds E2 ++ []) → InE (e :: E) y := fun y hy => by
      rw [List.append_nil] at hy
      rcases inE_of hy with h | ⟨a, ha, h⟩
      · exact .inl h
      · exact .inr ⟨a, by rw [hz]; exact List.mem_append_left _ ha, h⟩
    refine f76_s (e := z) m2d zmem (sub _ o1) (sub _ o2) (by omega) (by omega) fun w3 m3 hc3 => ?_
    rw [List.append_nil] at o3
    generalize setP (setN f1 (f1 (some z.1)).1 (f1 (some z.1)).2) (f1 (some z.1)).2 (f1 (some z.1)).1 = f3 at *
    have hmp3 : MapAt kI w3 mb ML2 := MapAt.stay (w := drw w2) hmp2 (hc3.block mb hmp2.lt fun hk => emb mb hk rfl)
    have hc3' : ChgS (fpA c mb (e :: E)) w w3 := hc2.trans ((hc3.mono fun k hk => .inl hk : ChgS (fpA c mb (e :: E)) (drw w2) w3).of_drw) fun _ _ h => h
    have d7 : (drw w3).cell? ⟨c, 7, none⟩ = some (.map (some mb)) := by show w3.cell? _ = _; rw [cell_of_blk m3.cb]; rfl
    have dz2 : (drw w3).cell? ⟨z.1, 2, none⟩ = some (.int .i64 z.2.1) := by show w3.cell? _ = _; rw [cell_of_blk (m3.lk z zmem)]; rfl
    have d7' : w3.cell? ⟨c, 7, none⟩ = some (.map (some mb)) := d7
    have dz2' : w3.cell? ⟨z.1, 2, none⟩ = some (.int .i64 z.2.1) := dz2
    try simp only [↓reduceIte, ↓LL, LM, Value.cells, Nat.reduceAdd, Option.some.injEq, exists_eq_left', decide_true, decide_false, if_true, if_false, reduceCtorEq, cond_true, cond_false, d7, dz2, d7', dz2']
    refine del_map (kv := kI) KKc (show MapAt kI (drw w3) mb ML2 from hmp3) z.2.1 fun w4 hmp4 u4 => ?_
    try simp only [↓reduceIte, ↓LL, LM, Value.cells, Nat.reduceAdd, Option.some.injEq, exists_eq_left', decide_true, decide_false, if_true, if_false, reduceCtorEq, cond_true, cond_false]
    have hnum : ((E2 ++ [z]).map (·.2.1)).Nodup := by rw [← hz]; exact hnk
    have m4 : Mm B w4 c q sz (E.length + 1 - 1) mb h m f3 (e :: E) := m3.of_drw.chg (ChgS.of_upd u4 (S := fun k => k = mb) rfl) fun k hk hn => emb k hk hn
    refine kk w4 ⟨?_, ⟨f3, ?_, o3⟩, hmB, ⟨_, hmp4, fun n => ?_⟩, ?_, by show E2.length ≤ sz; omega, h64⟩ (hc3'.trans ((ChgS.of_upd u4 (S := fpA c mb (e :: E)) (.inr rfl)).of_drw) fun _ _ h => h)
    · show useK sz e.2 (E.map (·.2)) = _
      unfold useK
      rw [show (e.2 :: E.map (·.2) : List Ch) = (e :: E).map (·.2) from rfl, ← List.map_take, htk]
    · have el : (E.length : Int) + 1 - 1 = ((E2.length : Nat) : Int) := by omega
      rw [el] at m4
      refine m4.sub ?_
      rw [hz]
      exact List.sublist_append_left _ _
    · rw [lk_del, lk2, hz, fnd_app]
      rw [List.map_append, List.nodup_append] at hnum
      by_cases hn : n = z.2.1
      · rw [if_pos hn, fnd_none (E := E2) (n := n) (fun hc => hnum.2.2 _ hc z.2.1 (by simp) hn)]; rfl
      · rw [if_neg hn]
        have : fnd [z] n = none := fnd_none (by simpa using hn)
        rw [this, Option.or_none]
    · show (nums (useK sz e.2 (E.map (·.2)))).Nodup
      unfold useK
      rw [show (e.2 :: E.map (·.2) : List Ch) = (e :: E).map (·.2) from rfl, ← List.map_take, nums_map]
      rw [List.map_take]
      exact hnk.sublist (List.take_sublist _ _)
  · have cg1 : ¬ (E.length : Int) + 1 > (sz : Int) := by omega
    have cg2 : ¬ (sz : Int) < (E.length : Int) + 1 := by omega
    have htk : (e :: E).take sz = e :: E := List.take_of_length_le (by rw [List.length_cons]; omega)
    rw [htk] at kk
    try simp only [↓reduceIte, ↓LL, LM, Value.cells, Nat.reduceAdd, Option.some.injEq, exists_eq_left', decide_true, decide_false, if_true, if_false, reduceCtorEq, cond_true, cond_false, c6, c1, c6', c1', cg1, cg2]
    have el : (E.length : Int) + 1 = (((e :: E).length : Nat) : Int) := by rw [List.length_cons]; omega
    rw [el] at m2d
    refine kk (drw w2) ⟨?_, ⟨f1, m2d, g2⟩, hmB, ⟨ML2, hmp2, lk2⟩, ?_, by rw [List.length_cons]; show E.length + 1 ≤ sz; omega, h64⟩ hc2.drw
    · show useK sz e.2 (E.map (·.2)) = _
      unfold useK
      rw [show (e.2 :: E.map (·.2) : List Ch) = (e :: E).map (·.2) from rfl, ← List.map_take, htk]
    · show (nums (useK sz e.2 (E.map (·.2)))).Nodup
      unfold useK
      rw [show (e.2 :: E.map (·.2) : List Ch) = (e :: E).map (·.2) from rfl, ← List.map_take, nums_map, htk]
      exact hnk
end
end Go.Proofs.YtongpnolikkknaaGreatDoor

set_option maxRecDepth 20000
set_option maxHeartbeats 4000000
namespace Go.Proofs.YtongpnolikkknaaGreatDoor
open Sh RowKit Go.MapKept
theorem buildP1 (n : Int) (s : ByteArray) (w : World) : (Instr.build 118 #[(0, .int .i64 n), (1, .string s)]).run Tryz.prog w = .ok (.agg #[.int .i64 n, .string s]) w := by
  kernel_rfl
theorem buildL1 (n : Int) (s : ByteArray) (w : World) : (Instr.build 120 #[(2, .agg #[.int .i64 n, .string s])]).run Tryz.prog w = .ok (.agg #[.pointer none, .pointer none, .int .i64 n, .string s]) w := by
  kernel_rfl
theorem buildCa (q mb : Nat) (n : Int) (w : World) : (Instr.build 124 #[(0, pv q), (1, .int .i64 n), (3, .map (some mb))]).run Tryz.prog w = .ok (.agg #[pv q, .int .i64 n, .pointer none, .pointer none, .int .i64 0, .string ⟨#[]⟩, .int .i64 0, .map (some mb), .int .i64 0, .int .i64 0]) w := by
  kernel_rfl
theorem filter_out {l1 l2 : List (Nat × Ch)} {e : Nat × Ch} (h : ((l1 ++ e :: l2).map (·.2.1)).Nodup) : (((l1 ++ e :: l2).map (·.2)).filter fun y => decide (y.1 ≠ e.2.1)) = (l1 ++ l2).map (·.2) := by
  rw [List.map_append, List.map_cons, List.filter_append, List.filter_cons_of_neg (by simp), List.map_append]
  rw [List.map_append, List.map_cons, List.nodup_append, List.nodup_cons] at h
  obtain ⟨_, ⟨h2, _⟩, h3⟩ := h
  congr 1
  · refine List.filter_eq_self.2 fun a ha => ?_
    obtain ⟨x, hx, rfl⟩ := List.mem_map.1 ha
    simp only [decide_eq_true_eq]
    exact fun hc => h3 x.2.1 (List.mem_map.2 ⟨x, hx, rfl⟩) e.2.1 (List.mem_cons_self ..) hc
  · refine List.filter_eq_self.2 fun a ha => ?_
    obtain ⟨x, hx, rfl⟩ := List.mem_map.1 ha
    simp only [decide_eq_true_eq]
    exact fun hc => h2 (List.mem_map.2 ⟨x, hx, hc⟩)
theorem fnd_skip {l1 l2 : List (Nat × Ch)} {e : Nat × Ch} {n : Int} (hn : n ≠ e.2.1) : fnd (l1 ++ e :: l2) n = fnd (l1 ++ l2) n := by
  rw [fnd_app, fnd_app, fnd_cons, if_neg (fun h => hn h.symm)]
section
variable {B : Nat} {W w w' : World} {c q mb : Nat} {sz : Nat} {h m n : Int} {f : Nd → Nd × Nd} {E : List (Nat × Ch)} {C : Ca} {L : List ByteArray} {p : Nat} {u st cc : Value} {Bp : Nat} {Q : Value → World → Prop}
theorem CaAt.cb (hc : CaAt B w c q mb C E) : ∃ f, w.heap[c]? = some (.cells (cCell c q C.sz E.length mb C.h C.m f) 124 (0, 0)) := by
  obtain ⟨f, hm, _⟩ := hc.rg
  exact ⟨f, hm.cb⟩
theorem f31_s (hc : CaAt B w c q mb C E) (kk : Q (.int .i64 C.h) w) : f31 (pv c) w Q := by
  obtain ⟨f, hb⟩ := hc.cb
  unfold f31
  rw [pn_eq ptK]
  have c8 : w.cell? ⟨c, 8, none⟩ = some (.int .i64 C.h) := by rw [cell_of_blk hb]; rfl
  try simp only [↓reduceIte, ↓LL, LM, Value.cells, Nat.reduceAdd, Option.some.injEq, exists_eq_left', decide_true, decide_false, if_true, if_false, reduceCtorEq, cond_true, cond_false, Option.isNone, c8]
  exact kk
theorem f32_s (hc : CaAt B w c q mb C E) (kk : Q (.int .i64 C.m) w) : f32 (pv c) w Q := by
  obtain ⟨f, hb⟩ := hc.cb
  unfold f32
  rw [pn_eq ptK]
  have c9 : w.cell? ⟨c, 9, none⟩ = some (.int .i64 C.m) := by rw [cell_of_blk hb]; rfl
  try simp only [↓reduceIte, ↓LL, LM, Value.cells, Nat.reduceAdd, Option.some.injEq, exists_eq_left', decide_true, decide_false, if_true, if_false, reduceCtorEq, cond_true, cond_false, Option.isNone, c9]
  exact kk
theorem f28_s (hc : CaAt B w c q mb C E) (hq : w.heap[q]? = some (.cells #[pv p, u, st, cc] 133 (0, 0))) (hu : ownV Bp 9 w u (L.map .string)) (kk : Q (.int .i64 (L.length : Nat)) w) : f28 (pv c) w Q := by
  obtain ⟨f, hb⟩ := hc.cb
  unfold f28
  rw [pn_eq ptK]
  have c0 : w.cell? ⟨c, 0, none⟩ = some (pv q) := by rw [cell_of_blk hb]; rfl
  try simp only [↓reduceIte, ↓LL, LM, Value.cells, Nat.reduceAdd, Option.some.injEq, exists_eq_left', decide_true, decide_false, if_true, if_false, reduceCtorEq, cond_true, cond_false, Option.isNone, c0]
  refine f79_s hq hu ?_
  try simp only [↓reduceIte, ↓LL, LM, Value.cells, Nat.reduceAdd, Option.some.injEq, exists_eq_left', decide_true, decide_false, if_true, if_false, reduceCtorEq, cond_true, cond_false]
  exact kk
theorem f27_s (hc : CaAt B w c q mb C E) (hq : w.heap[q]? = some (.cells #[pv p, u, st, cc] 133 (0, 0))) (hu : ownV Bp 9 w u (L.map .string)) (h0 : 0 ≤ C.h) (h1 : C.h ≤ 1000000) (m0 : 0 ≤ C.m) (m1 : C.m ≤ 1000000)
    (kk : ∀ w' E', CaAt B w' c q mb (rdC C L n).2 E' → ChgS (fpA c mb E) w w' → (∀ k, fpA c mb E' k → fpA c mb E k ∨ w.heap.size ≤ k) → Q (.tuple #[.string (rdC C L n).1.1, .int .i64 (rdC C L n).1.2]) w') : f27 (pv c) (.int .i64 n) w Q := by
  unfold f27
  rw [pn_eq ptK]
  obtain ⟨f, hm, hr⟩ := hc.rg
  obtain ⟨ML, hmp, hlk⟩ := hc.mp
  have hmne := hm.mne hmp
  have c7 : w.cell? ⟨c, 7, none⟩ = some (.map (some mb)) := by rw [cell_of_blk hm.cb]; rfl
  have hlook : ∀ (K : Value → M), smr Tryz.prog (Instr.lookup 115 (.map (some mb)) (.int .i64 n) true) K w Q = K (.tuple #[((fnd E n).map fun e => pv e.1).getD (.pointer none), .bool ((fnd E n).map fun e => pv e.1).isSome]) w Q := fun K => by
    rw [show (Value.int .i64 n) = kI n from rfl, look_ok (kv := kI) KKc hmp zC n, hlk n]
  have hKf : C.K.find? (fun x => decide (x.1 = n)) = (fnd E n).map (·.2) := by rw [hc.K, find_fnd]
  have hnn : (E.map (·.2.1)).Nodup := by have := hc.nk; rwa [hc.K, nums_map] at this
  have hl64 := hc.l64
  have hle := hc.le
  cases hf : fnd E n with
  | some e =>
    rw [hf] at hlook hKf
    obtain ⟨hemem, hen⟩ := fnd_mem hf
    obtain ⟨l1, l2, hE⟩ := List.append_of_mem hemem
    have eR : rdC C L n = ((e.2.2, 0), { C with K := useK C.sz e.2 (C.K.filter fun y => decide (y.1 ≠ n)), h := C.h + 1 }) := by unfold rdC; rw [hKf]; rfl
    rw [eR] at kk
    have hfil : (C.K.filter fun y => decide (y.1 ≠ n)) = (l1 ++ l2).map (·.2) := by
      rw [hc.K, hE, ← hen]
      rw [hE] at hnn
      exact filter_out hnn
    rw [hfil] at kk
    have c8 : w.cell? ⟨c, 8, none⟩ = some (.int .i64 C.h) := by rw [cell_of_blk hm.cb]; rfl
    have ew : IntKind.i64.wrap (C.h + 1) = C.h + 1 := w64 (by omega) (by omega)
    have g0 : (((some e).map fun e : Nat × Ch => pv e.1).getD (.pointer none)) = pv e.1 := rfl
    have g1 : ((some e).map fun e : Nat × Ch => pv e.1).isSome = true := rfl
    try simp only [↓reduceIte, ↓LL, LM, Value.cells, Nat.reduceAdd, Option.some.injEq, exists_eq_left', decide_true, decide_false, if_true, if_false, reduceCtorEq, cond_true, cond_false, Option.isNone, c7, hlook, g0, g1, get0, get1, c8, ew]
    refine hm.sI (h' := C.h + 1) (n' := E.length) (m' := C.m) (by decide) rfl fun w1 mm1 gg1 => ?_
    have s1 : ChgS (fpA c mb E) w w1 := gg1 _ fun k hk => .inl hk
    have nds3 : (none :: (nds l1 ++ some e.1 :: nds l2)).Nodup := by
      have : (nds l1 ++ some e.1 :: nds l2 : List Nd) = nds E := by rw [hE]; unfold nds; rw [List.map_append]; rfl
      rw [this]; exact nds_none hm.nd
    have hr' : Ring f (nds l1 ++ some e.1 :: nds l2) := by
      have : (nds l1 ++ some e.1 :: nds l2 : List Nd) = nds E := by rw [hE]; unfold nds; rw [List.map_append]; rfl
      rw [this]; exact hr
    obtain ⟨o1, o2, o3⟩ := ring_out hr' nds3
    have enl : (nds l1 ++ nds l2 : List Nd) = nds (l1 ++ l2) := by unfold nds; rw [List.map_append]
    rw [enl] at o1 o2 o3
    have hsub : (l1 ++ l2).Sublist E := by rw [hE]; exact List.Sublist.append_left (List.sublist_cons_self ..) _
    have sub : ∀ y : Nd, y ∈ none :: nds (l1 ++ l2) → InE E y := fun y hy => by
      rcases inE_of hy with h | ⟨a, ha, h⟩
      · exact .inl h
      · exact .inr ⟨a, hsub.subset ha, h⟩
    try simp only [↓reduceIte, ↓LL, LM, Value.cells, Nat.reduceAdd, Option.some.injEq, exists_eq_left', decide_true, decide_false, if_true, if_false, reduceCtorEq, cond_true, cond_false]
    refine f76_s (e := e) mm1 hemem (sub _ o1) (sub _ o2) (by omega) (by omega) fun w2 mm2 hc2 => ?_
    generalize setP (setN f (f (some e.1)).1 (f (some e.1)).2) (f (some e.1)).2 (f (some e.1)).1 = f2 at *
    have s2 : ChgS (fpA c mb E) w w2 := s1.trans (hc2.mono fun k hk => .inl hk) fun _ _ h => h
    have ss2 : ChgS (fpM c E) w w2 := (gg1 _ fun _ h => h).trans hc2 fun _ _ h => h
    have hmp2 : MapAt kI w2 mb ML := hmp.stay (ss2.block mb hmp.lt fun hk => hmne mb hk rfl)
    have hblk := mm2.lk e hemem
    have el : (E.length : Int) - 1 = (((l1 ++ l2).length : Nat) : Int) := by rw [hE]; simp only [List.length_append, List.length_cons]; omega
    rw [el] at mm2
    have hndE : ((l1 ++ e :: l2).map (·.1)).Nodup := by rw [← hE]; exact hm.nd
    have hne : e.1 ∉ (l1 ++ l2).map (·.1) := by
      rw [List.map_append, List.map_cons, List.nodup_append, List.nodup_cons] at hndE
      obtain ⟨_, ⟨h2, _⟩, h3⟩ := hndE
      rw [List.map_append, List.mem_append]
      rintro (hx | hx)
      · exact h3 _ hx _ (List.mem_cons_self ..) rfl
      · exact h2 hx
    have hperm : (e :: (l1 ++ l2)).Perm E := by rw [hE]; exact List.perm_middle.symm
    try simp only [↓reduceIte, ↓LL, LM, Value.cells, Nat.reduceAdd, Option.some.injEq, exists_eq_left', decide_true, decide_false, if_true, if_false, reduceCtorEq, cond_true, cond_false]
    refine f77_s (e := e) (mm2.sub hsub) o3 hne (hm.eB e hemem) hblk hc.mB hmp2 (fun n' hn' => by rw [hlk n', hE, fnd_skip hn']) (by have := hperm.length_eq; rw [List.length_cons] at this; omega) hl64 (((hperm.map _).nodup_iff).2 hnn) fun w3 ca3 hc3 => ?_
    have hlen : (e :: (l1 ++ l2)).length ≤ C.sz := by rw [hperm.length_eq]; exact hle
    rw [List.take_of_length_le hlen] at ca3
    obtain ⟨f3, mm3, _⟩ := ca3.rg
    have c3 : w3.cell? ⟨e.1, 3, none⟩ = some (.string e.2.2) := by rw [cell_of_blk (mm3.lk e (List.mem_cons_self ..))]; rfl
    have hfp : ∀ k, fpA c mb (e :: (l1 ++ l2)) k → fpA c mb E k := by
      rintro k ((rfl | ⟨a, ha, rfl⟩) | rfl)
      · exact .inl (.inl rfl)
      · exact .inl (.inr ⟨a, hperm.mem_iff.1 ha, rfl⟩)
      · exact .inr rfl
    try simp only [↓reduceIte, ↓LL, LM, Value.cells, Nat.reduceAdd, Option.some.injEq, exists_eq_left', decide_true, decide_false, if_true, if_false, reduceCtorEq, cond_true, cond_false, c3]
    exact kk w3 _ ca3 (s2.trans (hc3.mono hfp) fun _ _ h => h) fun k hk => .inl (hfp k hk)
  | none =>
    rw [hf] at hlook hKf
    have g1 : ((none : Option (Nat × Ch)).map fun e => pv e.1).isSome = false := rfl
    have c0 : w.cell? ⟨c, 0, none⟩ = some (pv q) := by rw [cell_of_blk hm.cb]; rfl
    have c9 : w.cell? ⟨c, 9, none⟩ = some (.int .i64 C.m) := by rw [cell_of_blk hm.cb]; rfl
    have ew : IntKind.i64.wrap (C.m + 1) = C.m + 1 := w64 (by omega) (by omega)
    have eR : rdC C L n = if (pgR L n).2 = 0 then (((pgR L n).1, 0), { C with K := useK C.sz (n, (pgR L n).1) C.K, m := C.m + 1 }) else ((⟨#[]⟩, (pgR L n).2), C) := by unfold rdC; rw [hKf]; rfl
    try simp only [↓reduceIte, ↓LL, LM, Value.cells, Nat.reduceAdd, Option.some.injEq, exists_eq_left', decide_true, decide_false, if_true, if_false, reduceCtorEq, cond_true, cond_false, Option.isNone, c7, hlook, g1, get0, get1, c0]
    refine f78_s hq hu ?_
    by_cases cz : (pgR L n).2 = 0
    · rw [if_pos cz] at eR
      rw [eR] at kk
      generalize (pgR L n).1 = s at *
      try simp only [↓reduceIte, ↓LL, LM, Value.cells, Nat.reduceAdd, Option.some.injEq, exists_eq_left', decide_true, decide_false, if_true, if_false, reduceCtorEq, cond_true, cond_false, get0, get1, ne_eq, cz, c9, ew]
      refine hm.sI (h' := C.h) (n' := E.length) (m' := C.m + 1) (by decide) rfl fun w1 mm1 gg1 => ?_
      try simp only [↓reduceIte, ↓LL, LM, Value.cells, Nat.reduceAdd, Option.some.injEq, exists_eq_left', decide_true, decide_false, if_true, if_false, reduceCtorEq, cond_true, cond_false]
      rw [smr_run (buildP1 n s w1)]
      try simp only [↓reduceIte, ↓LL, LM, Value.cells, Nat.reduceAdd, Option.some.injEq, exists_eq_left', decide_true, decide_false, if_true, if_false, reduceCtorEq, cond_true, cond_false]
      rw [smr_run (buildL1 n s w1)]
      have b2 := b_psh w1 (.cells #[.pointer none, .pointer none, .int .i64 n, .string s] 120)
      have k2 := blk_psh_new (w := w1) (o := .cells #[.pointer none, .pointer none, .int .i64 n, .string s] 120)
      try simp only [↓reduceIte, ↓LL, LM, Value.cells, Nat.reduceAdd, Option.some.injEq, exists_eq_left', decide_true, decide_false, if_true, if_false, reduceCtorEq, cond_true, cond_false]
      generalize psh w1 (.cells #[.pointer none, .pointer none, .int .i64 n, .string s] 120) = w2 at *
      have ss1 : ChgS (fpM c E) w w1 := gg1 _ fun _ h => h
      have s1 : ChgS (fpA c mb E) w w1 := gg1 _ fun k hk => .inl hk
      have z1 : w.heap.size ≤ w1.heap.size := ss1.size
      have hmp2 : MapAt kI w2 mb ML := (hmp.stay (ss1.block mb hmp.lt fun hk => hmne mb hk rfl)).below b2
      have mm2 := mm1.below b2
      have hlt := hm.lt
      have hnew : w1.heap.size ∉ E.map (·.1) := fun hx => by
        obtain ⟨a, ha, hx⟩ := List.mem_map.1 hx
        have := hlt a.1 (.inr ⟨a, ha, rfl⟩)
        omega
      have hcB : B ≤ w.heap.size := Nat.le_trans hm.cB (Nat.le_of_lt (hlt c (.inl rfl)))
      have hnot : n ∉ E.map (·.2.1) := by
        intro hx
        obtain ⟨a, ha, hx⟩ := List.mem_map.1 hx
        have := List.find?_eq_none.1 hf a ha
        simp only [decide_eq_true_eq] at this
        exact this hx
      refine f77_s (e := (w1.heap.size, (n, s))) mm2 hr hnew (Nat.le_trans hcB z1) k2 hc.mB hmp2 (fun n' hn' => hlk n') hle hl64 (List.nodup_cons.2 ⟨hnot, hnn⟩) fun w3 ca3 hc3 => ?_
      try simp only [↓reduceIte, ↓LL, LM, Value.cells, Nat.reduceAdd, Option.some.injEq, exists_eq_left', decide_true, decide_false, if_true, if_false, reduceCtorEq, cond_true, cond_false]
      rw [← hc.K] at ca3
      refine kk w3 _ ca3 ((s1.trans (ChgS.of_below b2) fun _ _ h => h).trans hc3 fun k hk h => ?_) fun k hk => ?_
      · rcases h with (rfl | ⟨a, ha, rfl⟩) | rfl
        · exact .inl (.inl rfl)
        · rcases List.mem_cons.1 ha with rfl | ha
          · exfalso
            have hk : w1.heap.size < w.heap.size := hk
            omega
          · exact .inl (.inr ⟨a, ha, rfl⟩)
        · exact .inr rfl
      · rcases hk with (rfl | ⟨a, ha, rfl⟩) | rfl
        · exact .inl (.inl (.inl rfl))
        · rcases List.mem_cons.1 (List.mem_of_mem_take ha) with rfl | ha
          · exact .inr z1
          · exact .inl (.inl (.inr ⟨a, ha, rfl⟩))
        · exact .inl (.inr rfl)
    · rw [if_neg cz] at eR
      rw [eR] at kk
      try simp only [↓reduceIte, ↓LL, LM, Value.cells, Nat.reduceAdd, Option.some.injEq, exists_eq_left', decide_true, decide_false, if_true, if_false, reduceCtorEq, cond_true, cond_false, get0, get1, ne_eq, cz]
      exact kk w E hc (ChgS.refl _ _) fun k hk => .inl hk
end
end Go.Proofs.YtongpnolikkknaaGreatDoor

set_option maxRecDepth 20000
set_option maxHeartbeats 4000000
namespace Go.Proofs.YtongpnolikkknaaGreatDoor
open Sh RowKit Go.MapKept
def szN (n : Int) : Nat := (min (max n 0) 64).toNat
theorem szN_64 (n : Int) : szN n ≤ 64 := by unfold szN; omega
section
variable {B : Nat} {W w w' : World} {c q mb : Nat} {sz : Nat} {h m n : Int} {f : Nd → Nd × Nd} {E : List (Nat × Ch)} {C : Ca} {L : List ByteArray} {p : Nat} {u st cc : Value} {Bp : Nat} {Q : Value → World → Prop}
theorem f75_s {x : Int} {va vb : Value} (hb : w.heap[c]? = some (.cells #[pv q, .int .i64 x, va, vb, .int .i64 0, .string ⟨#[]⟩, .int .i64 0, .map (some mb), .int .i64 0, .int .i64 0] 124 (0, 0)))
    (kk : ∀ w', w'.heap[c]? = some (.cells (cCell c q x 0 mb 0 0 fun _ => (none, none)) 124 (0, 0)) → ChgS (fun k => k = c) w w' → Q (.tuple #[]) w') : f75 (.pointer (some ⟨c, 2, none⟩)) w Q := by
  unfold f75
  try simp only [↓reduceIte, ↓LL, LM, Value.cells, Nat.reduceAdd, Option.some.injEq, exists_eq_left', decide_true, decide_false, if_true, if_false, reduceCtorEq, cond_true, cond_false]
  refine st_box (w := drw w) (o := 2) (v := Pp c none) (show (drw w).heap[c]? = _ from hb) (by show 2 < 10; decide) rfl fun w1 h1 u1 => ?_
  try simp only [↓reduceIte, ↓LL, LM, Value.cells, Nat.reduceAdd, Option.some.injEq, exists_eq_left', decide_true, decide_false, if_true, if_false, reduceCtorEq, cond_true, cond_false]
  refine st_box (o := 3) (v := Pp c none) h1 (by show 3 < 10; decide) rfl fun w2 h2 u2 => ?_
  try simp only [↓reduceIte, ↓LL, LM, Value.cells, Nat.reduceAdd, Option.some.injEq, exists_eq_left', decide_true, decide_false, if_true, if_false, reduceCtorEq, cond_true, cond_false]
  refine kk w2 h2 ?_
  have s1 : ChgS (fun k => k = c) (drw w) w1 := ChgS.of_upd u1 rfl
  exact (s1.trans (ChgS.of_upd u2 (S := fun k => k = c) rfl) fun _ _ h => h).of_drw
theorem f23_s {n : Int} (kk : ∀ w' c mb, w.heap.size ≤ c → w.heap.size ≤ mb → CaAt w.heap.size w' c q mb ⟨szN n, [], 0, 0⟩ [] → Below w.heap.size w w' → Q (pv c) w') : f23 (pv q) (.int .i64 n) w Q := by
  unfold f23
  rw [pn_eq pt49]
  try simp only [↓reduceIte, ↓LL, LM, Value.cells, Nat.reduceAdd, Option.some.injEq, exists_eq_left', decide_true, decide_false, if_true, if_false, reduceCtorEq, cond_true, cond_false, Option.isNone]
  have e : (if (64 : Int) < (if n < 0 then 0 else n) then 64 else (if n < 0 then 0 else n)) = ((szN n : Nat) : Int) := by unfold szN; omega
  rw [e]
  refine mm_map (kv := kI) fun w1 hm1 b1 => ?_
  try simp only [↓reduceIte, ↓LL, LM, Value.cells, Nat.reduceAdd, Option.some.injEq, exists_eq_left', decide_true, decide_false, if_true, if_false, reduceCtorEq, cond_true, cond_false]
  rw [smr_run (buildCa q w.heap.size _ w1)]
  have b2 := b_psh w1 (.cells #[pv q, .int .i64 ((szN n : Nat) : Int), .pointer none, .pointer none, .int .i64 0, .string ⟨#[]⟩, .int .i64 0, .map (some w.heap.size), .int .i64 0, .int .i64 0] 124)
  have k2 := blk_psh_new (w := w1) (o := .cells #[pv q, .int .i64 ((szN n : Nat) : Int), .pointer none, .pointer none, .int .i64 0, .string ⟨#[]⟩, .int .i64 0, .map (some w.heap.size), .int .i64 0, .int .i64 0] 124)
  try simp only [↓reduceIte, ↓LL, LM, Value.cells, Nat.reduceAdd, Option.some.injEq, exists_eq_left', decide_true, decide_false, if_true, if_false, reduceCtorEq, cond_true, cond_false]
  generalize psh w1 (.cells #[pv q, .int .i64 ((szN n : Nat) : Int), .pointer none, .pointer none, .int .i64 0, .string ⟨#[]⟩, .int .i64 0, .map (some w.heap.size), .int .i64 0, .int .i64 0] 124) = w2 at *
  have hm2 : MapAt kI w2 w.heap.size ([] : List (Int × Value)) := hm1.below b2
  have z1 : w.heap.size ≤ w1.heap.size := b1.size
  have zc : w1.heap.size ≠ w.heap.size := by have := hm1.lt; omega
  refine f75_s k2 fun w3 h3 hc3 => ?_
  try simp only [↓reduceIte, ↓LL, LM, Value.cells, Nat.reduceAdd, Option.some.injEq, exists_eq_left', decide_true, decide_false, if_true, if_false, reduceCtorEq, cond_true, cond_false]
  refine kk w3 w1.heap.size w.heap.size z1 (Nat.le_refl _) ⟨rfl, ⟨fun _ => (none, none), ⟨z1, fun e he => by simp at he, h3, fun e he => by simp at he, List.nodup_nil⟩, ?_⟩, Nat.le_refl _, ⟨[], hm2.stay (hc3.block _ hm2.lt fun h => zc h.symm), fun n => rfl⟩, List.nodup_nil, Nat.zero_le _, szN_64 n⟩ ((bt b1 b2).trans (hc3.below (fun k hk => by rw [hk]; exact z1) (bt b1 b2).size))
  intro p hp
  have hp : p ∈ [((none : Nd), (none : Nd))] := hp
  rw [List.mem_singleton.1 hp]
  exact ⟨rfl, rfl⟩
theorem kept_loop (hm : Mm B W c q sz n mb h m f E) (hr : Ring f (nds E)) (hE : E.length ≤ 1000) : ∀ (l2 l1 : List (Nat × Ch)) (k : Nat) (w : World) (v : Value) (x : Nd) (r : List Nd), E = l1 ++ l2 → nds l2 ++ [none] = x :: r → l2.length < k → Below W.heap.size W w → ownI W.heap.size 3 .i64 w v (l1.map (·.2.1)) →
    (∀ w' v', Below W.heap.size W w' → ownI W.heap.size 3 .i64 w' v' (E.map (·.2.1)) → Q v' w') →
    itr (fun _ _ _ => bot) (f34_b2 f34_j1) k (pv c) v (Pp c x) w Q := by
  obtain ⟨j, hj, hsz⟩ := Option.map_eq_some_iff.1 infL
  have hsz0 : j.size ≠ 0 := by omega
  intro l2
  induction l2 with
  | nil =>
    intro l1 k w v x r hE2 hx hk hb ho kk
    obtain ⟨k, rfl⟩ : ∃ x, k = x + 1 := ⟨k - 1, by omega⟩
    show f34_b2 f34_j1 _ _ _ _ w Q
    unfold f34_b2
    have hx0 : x = none := by
      have : (none : Nd) :: [] = x :: r := hx
      exact (List.cons.inj this).1.symm
    subst hx0
    have hcb := (hm.below hb).cb
    have hne : ∀ (K : Value → M) (x y : Operand), smr Tryz.prog (do eqGuard .neq 116 x y (.pointer (some ⟨c, 2, none⟩)) (.pointer (some ⟨c, 2, none⟩)); binOp .neq 116 (.pointer (some ⟨c, 2, none⟩)) (.pointer (some ⟨c, 2, none⟩))) K w Q = K (.bool false) w Q := fun K x y => by
      rw [ptr_ne (a := ⟨c, 2, none⟩) (b := ⟨c, 2, none⟩) ptL hj hsz0 hcb hcb]; simp
    have ep : Pp c none = .pointer (some ⟨c, 2, none⟩) := rfl
    rw [ep]
    try simp only [↓reduceIte, ↓LL, LM, Value.cells, Nat.reduceAdd, Option.some.injEq, exists_eq_left', decide_true, decide_false, if_true, if_false, reduceCtorEq, cond_true, cond_false, hne]
    unfold f34_j1
    try simp only [↓reduceIte, ↓LL, LM, Value.cells, Nat.reduceAdd, Option.some.injEq, exists_eq_left', decide_true, decide_false, if_true, if_false, reduceCtorEq, cond_true, cond_false]
    rw [List.append_nil] at hE2
    rw [← hE2] at ho
    exact kk w v hb ho
  | cons z l2 ih =>
    intro l1 k w v x r hE2 hx hk hb ho kk
    rw [List.length_cons] at hk
    obtain ⟨k, rfl⟩ : ∃ x, k = x + 1 := ⟨k - 1, by omega⟩
    show f34_b2 f34_j1 _ _ _ _ w Q
    unfold f34_b2
    have hx0 : x = some z.1 := by
      have : some z.1 :: (nds l2 ++ [none]) = x :: r := hx
      exact (List.cons.inj this).1.symm
    subst hx0
    have hmw := hm.below hb
    have zmem : z ∈ E := by rw [hE2]; simp
    have hzc := hmw.lk z zmem
    have hne : ∀ (K : Value → M) (x y : Operand), smr Tryz.prog (do eqGuard .neq 116 x y (.pointer (some ⟨z.1, 0, none⟩)) (.pointer (some ⟨c, 2, none⟩)); binOp .neq 116 (.pointer (some ⟨z.1, 0, none⟩)) (.pointer (some ⟨c, 2, none⟩))) K w Q = K (.bool true) w Q := fun K x y => by
      rw [ptr_ne (a := ⟨z.1, 0, none⟩) (b := ⟨c, 2, none⟩) ptL hj hsz0 hzc hmw.cb]; simp
    have ep : Pp c (some z.1) = .pointer (some ⟨z.1, 0, none⟩) := rfl
    have c2 : w.cell? ⟨z.1, 2, none⟩ = some (.int .i64 z.2.1) := by rw [cell_of_blk hzc]; rfl
    have hlen : (l1.map (·.2.1)).length ≤ 1000 := by
      rw [List.length_map]
      have := congrArg List.length hE2
      rw [List.length_append] at this
      omega
    rw [ep]
    try simp only [↓reduceIte, ↓LL, LM, Value.cells, Nat.reduceAdd, Option.some.injEq, exists_eq_left', decide_true, decide_false, if_true, if_false, reduceCtorEq, cond_true, cond_false, hne, c2]
    refine ap_one slI ho (by omega) (by omega) hb.size fun v2 w2 o2 b2 _ _ => ?_
    have hb2 := hb.trans b2
    have hmw2 := hm.below hb2
    obtain ⟨x', r', hx', _⟩ := tail_split (nds l2)
    have hr' : Ring f (nds l1 ++ some z.1 :: nds l2) := by
      have : (nds l1 ++ some z.1 :: nds l2 : List Nd) = nds E := by rw [hE2]; unfold nds; rw [List.map_append]; rfl
      rw [this]; exact hr
    have hnx := (ring_at hr').2 x' r' hx'
    have c1 : w2.cell? ⟨z.1, 1, none⟩ = some (Pp c x') := by
      have := hmw2.gN (y := some z.1) (.inr ⟨z, zmem, rfl⟩)
      rw [hnx] at this
      exact this
    try simp only [↓reduceIte, ↓LL, LM, Value.cells, Nat.reduceAdd, Option.some.injEq, exists_eq_left', decide_true, decide_false, if_true, if_false, reduceCtorEq, cond_true, cond_false, c1]
    refine ih (l1 ++ [z]) k w2 v2 x' r' (by rw [hE2, List.append_assoc]; rfl) hx' (by omega) hb2 ?_ kk
    rw [List.map_append]
    exact o2
theorem f34_s (hc : CaAt B w c q mb C E) (kk : ∀ w' v', Below w.heap.size w w' → ownI w.heap.size 3 .i64 w' v' (nums C.K) → Q v' w') : f34 (pv c) w Q := by
  unfold f34
  rw [pn_eq ptK]
  obtain ⟨f, hm, hr⟩ := hc.rg
  have hle := hc.le
  have h64 := hc.l64
  obtain ⟨x, r, hx, _⟩ := tail_split (nds E)
  have hn := ring_head hr x r hx
  have c3 : w.cell? ⟨c, 3, none⟩ = some (Pp c x) := by
    have := hm.gN (y := none) (.inl rfl)
    rw [hn] at this
    exact this
  try simp only [↓reduceIte, ↓LL, LM, Value.cells, Nat.reduceAdd, Option.some.injEq, exists_eq_left', decide_true, decide_false, if_true, if_false, reduceCtorEq, cond_true, cond_false, Option.isNone, c3]
  refine ⟨_, kept_loop (W := w) hm hr (by omega) E [] (E.length + 1) w _ x r rfl hx (by omega) (Below.refl _ _) (ownI_nil) fun w' v' hb ho => kk w' v' hb ?_⟩
  rw [hc.K, nums_map]
  exact ho
theorem f24_s {n : Nat} (h1 : 1 ≤ n) (h2 : n ≤ 160) (kk : ∀ w' q p b v u, PgAt w.heap.size w' q p b v u ⟨List.replicate n (zs 256), false, 0⟩ (newD (126 + 4 * n)) → Below w.heap.size w w' → Q (pv q) w') : f24 (.int .i64 ((n : Nat) : Int)) w Q := by
  unfold f24
  refine f39_s ⟨by omega, by omega⟩ ?_
  try simp only [↓reduceIte, ↓LL, LM, Value.cells, Nat.reduceAdd, Option.some.injEq, exists_eq_left', decide_true, decide_false, if_true, if_false, reduceCtorEq, cond_true, cond_false]
  refine f38_s (B := w.heap.size) (126 + 4 * ((n : Nat) : Int)) (k := 126 + 4 * n) (by omega) (Nat.le_refl _) fun w2 p v b pw bw hd hf b2 => ?_
  try simp only [↓reduceIte, ↓LL, LM, Value.cells, Nat.reduceAdd, Option.some.injEq, exists_eq_left', decide_true, decide_false, if_true, if_false, reduceCtorEq, cond_true, cond_false]
  refine open_at (B0 := w.heap.size) hd (Int.le_refl 0) (by show (0 + 200 : Int) ≤ 1000000; decide) (Nat.le_refl _) b2.size (open_new (m := n) (N := 126 + 4 * n) (by omega) (by omega) (by omega)) fun w3 q u q3 h3 _ _ hc3 => ?_
  have b3 := bs b2 (fpD_B hd) b2.size hc3
  try simp only [↓reduceIte, ↓LL, LM, Value.cells, Nat.reduceAdd, Option.some.injEq, exists_eq_left', decide_true, decide_false, if_true, if_false, reduceCtorEq, cond_true, cond_false, get0, get1, ne_eq]
  exact kk w3 q p b v u h3 b3
end
end Go.Proofs.YtongpnolikkknaaGreatDoor

set_option maxRecDepth 20000
set_option maxHeartbeats 4000000
namespace Go.Proofs.YtongpnolikkknaaGreatDoor
open Sh RowKit Go.MapKept
/-- what reads leave: the numbers, the one used last first; hits; misses -/
structure Stk where
  T : List Int
  h : Int
  m : Int
def stp (sz N : Nat) (s : Stk) (n : Int) : Stk := if 0 ≤ n ∧ n < (N : Int) then ⟨upN s.T n, s.h + (if n ∈ s.T.take sz then 1 else 0), s.m + (if n ∈ s.T.take sz then 0 else 1)⟩ else s
structure CInv (C : Ca) (sz N : Nat) (s : Stk) : Prop where
  size : C.sz = sz
  T : nums C.K = s.T.take sz
  nd : s.T.Nodup
  bd : ∀ t ∈ s.T, 0 ≤ t ∧ t < (N : Int)
  h : C.h = s.h
  m : C.m = s.m
theorem CInv.stp {C : Ca} {sz : Nat} {L : List ByteArray} {s : Stk} (hi : CInv C sz L.length s) (n : Int) : CInv (rdC C L n).2 sz L.length (stp sz L.length s n) ∧ (rdC C L n).1.2 = if 0 ≤ n ∧ n < (L.length : Int) then 0 else 7 := by
  have h1 := hi.T
  rw [← hi.size] at h1
  have h := rdC_nums (C := C) (L := L) (n := n) hi.nd h1 hi.bd
  unfold Go.Proofs.YtongpnolikkknaaGreatDoor.stp
  by_cases c : 0 ≤ n ∧ n < (L.length : Int)
  · rw [if_pos c] at h
    rw [if_pos c, if_pos c]
    obtain ⟨e1, e2, e3, e4, e5⟩ := h
    rw [hi.size] at e2 e3 e4 e5
    refine ⟨⟨e3, e2, upN_nodup hi.nd, fun t ht => ?_, by rw [e4, hi.h], by rw [e5, hi.m]⟩, e1⟩
    rcases upN_mem ht with rfl | ht
    · exact c
    · exact hi.bd t ht
  · rw [if_neg c] at h
    rw [if_neg c, if_neg c]
    obtain ⟨e1, e2⟩ := h
    rw [e2, e1]
    exact ⟨hi, rfl⟩
theorem stp_bd {sz N : Nat} {s : Stk} {n : Int} {k : Int} (h : 0 ≤ s.h ∧ s.h ≤ k ∧ 0 ≤ s.m ∧ s.m ≤ k) : 0 ≤ (stp sz N s n).h ∧ (stp sz N s n).h ≤ k + 1 ∧ 0 ≤ (stp sz N s n).m ∧ (stp sz N s n).m ≤ k + 1 := by
  unfold stp
  split
  · simp only
    split <;> omega
  · omega
/-- each page that is kept is as the pager has it -/
def Good (C : Ca) (L : List ByteArray) : Prop := ∀ x ∈ C.K, 0 ≤ x.1 ∧ L[x.1.toNat]? = some x.2
theorem Good.rd {C : Ca} {L : List ByteArray} {n : Int} (hg : Good C L) : (rdC C L n).1 = pgR L n ∧ Good (rdC C L n).2 L := by
  unfold rdC
  cases hf : C.K.find? (fun x => decide (x.1 = n)) with
  | some x =>
    obtain ⟨h1, h2⟩ := find_mem hf
    obtain ⟨q0, q1⟩ := hg x h1
    have hlt := (List.getElem?_eq_some_iff.1 q1).1
    have ep : pgR L n = (x.2, 0) := by
      unfold pgR
      rw [← h2, if_pos ⟨q0, by omega⟩, List.getD_eq_getElem?_getD, q1]; rfl
    rw [ep]
    refine ⟨rfl, fun y hy => ?_⟩
    rcases List.mem_cons.1 (List.mem_of_mem_take (show y ∈ (x :: C.K.filter fun y => decide (y.1 ≠ n)).take C.sz from hy)) with rfl | hy
    · exact ⟨q0, q1⟩
    · exact hg y (List.mem_filter.1 hy).1
  | none =>
    simp only
    by_cases c : (pgR L n).2 = 0
    · rw [if_pos c]
      refine ⟨by rw [← c], fun y hy => ?_⟩
      rcases List.mem_cons.1 (List.mem_of_mem_take (show y ∈ ((n, (pgR L n).1) :: C.K).take C.sz from hy)) with rfl | hy
      · have : 0 ≤ n ∧ n < (L.length : Int) := by
          apply Classical.byContradiction
          intro hn
          unfold pgR at c
          rw [if_neg hn] at c
          cases c
        refine ⟨this.1, ?_⟩
        show L[n.toNat]? = some (pgR L n).1
        unfold pgR
        rw [if_pos this, List.getD_eq_getElem?_getD, List.getElem?_eq_getElem (by omega)]; rfl
      · exact hg y hy
    · rw [if_neg c]
      refine ⟨?_, hg⟩
      unfold pgR at c ⊢
      by_cases hn : 0 ≤ n ∧ n < (L.length : Int)
      · rw [if_pos hn] at c; exact absurd rfl c
      · rw [if_neg hn]
/-- a cache and its pager -/
structure CP (B : Nat) (w : World) (c q mb p b : Nat) (v u : Value) (C : Ca) (E : List (Nat × Ch)) (G : Pg) (D : Dv) : Prop where
  ca : CaAt B w c q mb C E
  pg : PgAt B w q p b v u G D
  ap : ∀ k, fpA c mb E k → ¬ fpP q p b v u k
def fpX (c q mb p b : Nat) (v u : Value) (E : List (Nat × Ch)) : Nat → Prop := fun k => fpA c mb E k ∨ fpP q p b v u k
section
variable {B : Nat} {W w w' : World} {c q mb p b : Nat} {v u : Value} {C : Ca} {E : List (Nat × Ch)} {G : Pg} {D : Dv} {Q : Value → World → Prop}
theorem CP.below (h : CP B w c q mb p b v u C E G D) (hb : Below w.heap.size w w') : CP B w' c q mb p b v u C E G D := ⟨h.ca.below hb, h.pg.below hb, h.ap⟩
theorem CP.chg {S : Nat → Prop} (h : CP B w c q mb p b v u C E G D) (hc : ChgS S w w') (hS : ∀ k, fpX c q mb p b v u E k → ¬ S k) : CP B w' c q mb p b v u C E G D := ⟨h.ca.chg hc fun k hk => hS k (.inl hk), h.pg.chg hc fun k hk => hS k (.inr hk), h.ap⟩
theorem CP.fpB (h : CP B w c q mb p b v u C E G D) : ∀ k, fpX c q mb p b v u E k → B ≤ k := by
  rintro k (hk | hk)
  · exact h.ca.fpB k hk
  · exact h.pg.fpB k hk
theorem CP.lt (h : CP B w c q mb p b v u C E G D) : ∀ k, fpX c q mb p b v u E k → k < w.heap.size := by
  rintro k (hk | hk)
  · exact h.ca.lt k hk
  · exact h.pg.lt k hk
theorem CP.read {n : Int} (h : CP B w c q mb p b v u C E G D) (h0 : 0 ≤ C.h) (h1 : C.h ≤ 1000000) (m0 : 0 ≤ C.m) (m1 : C.m ≤ 1000000)
    (kk : ∀ w' E', CP B w' c q mb p b v u (rdC C G.L n).2 E' G D → ChgS (fpX c q mb p b v u E) w w' → (∀ k, fpX c q mb p b v u E' k → fpX c q mb p b v u E k ∨ w.heap.size ≤ k) → Q (.tuple #[.string (rdC C G.L n).1.1, .int .i64 (rdC C G.L n).1.2]) w') : f27 (pv c) (.int .i64 n) w Q := by
  refine f27_s h.ca h.pg.hq h.pg.hu h0 h1 m0 m1 fun w' E' hc' hg hk => ?_
  refine kk w' E' ⟨hc', h.pg.chg hg fun k hp hn => h.ap k hn hp, fun k hk' hp => ?_⟩ (hg.mono fun k hk => .inl hk) fun k hk' => ?_
  · rcases hk k hk' with hk | hk
    · exact h.ap k hk hp
    · have := h.pg.lt k hp
      omega
  · rcases hk' with hk' | hk'
    · rcases hk k hk' with hk | hk
      · exact .inl (.inl hk)
      · exact .inr hk
    · exact .inl (.inr hk')
theorem cp_new {n : Int} (h : PgAt B w q p b v u G D) (hB : B ≤ w.heap.size) (kk : ∀ w' c mb, CP B w' c q mb p b v u ⟨szN n, [], 0, 0⟩ [] G D → (∀ k, fpA c mb [] k → w.heap.size ≤ k) → Below w.heap.size w w' → Q (pv c) w') : f23 (pv q) (.int .i64 n) w Q := by
  refine f23_s fun w' c mb h1 h2 hc hb => ?_
  have hfp : ∀ k, fpA c mb [] k → w.heap.size ≤ k := hc.fpB
  obtain ⟨f, hm, hr⟩ := hc.rg
  refine kk w' c mb ⟨⟨hc.K, ⟨f, ⟨Nat.le_trans hB hm.cB, fun e he => by simp at he, hm.cb, hm.lk, hm.nd⟩, hr⟩, Nat.le_trans hB hc.mB, hc.mp, hc.nk, hc.le, hc.l64⟩, h.below hb, fun k hk hp => ?_⟩ hfp hb
  have := hfp k hk
  have := h.lt k hp
  omega
theorem inv_new (n : Int) (N : Nat) : CInv ⟨szN n, [], 0, 0⟩ (szN n) N ⟨[], 0, 0⟩ := ⟨rfl, by simp [nums], List.nodup_nil, fun t ht => by simp at ht, rfl, rfl⟩
theorem pgR_ok {L : List ByteArray} {n : Int} (hz : ∀ s ∈ L, s.size = 256) (h : 0 ≤ n ∧ n < (L.length : Int)) : (pgR L n).1.size = 256 ∧ (pgR L n).2 = 0 := by
  unfold pgR
  rw [if_pos h]
  refine ⟨hz _ ?_, rfl⟩
  have hlt : n.toNat < L.length := by omega
  exact List.mem_of_getElem? (getD_some hlt)
end
end Go.Proofs.YtongpnolikkknaaGreatDoor

set_option maxRecDepth 20000
set_option maxHeartbeats 4000000
namespace Go.Proofs.YtongpnolikkknaaGreatDoor
open Sh RowKit Go.MapKept
theorem lit5 (a b c d e : Int) (w : World) : (Instr.buildSlice 22 5 #[(0, .int .i64 a), (1, .int .i64 b), (2, .int .i64 c), (3, .int .i64 d), (4, .int .i64 e)]).run Tryz.prog w = .ok (.slice (some ⟨w.heap.size, 0, none⟩) 5 5) (psh w (.cells #[.int .i64 a, .int .i64 b, .int .i64 c, .int .i64 d, .int .i64 e] 3)) := by
  kernel_rfl
theorem rdI_five {w : World} {g : Nat} {a b c d e : Int} {t : TypeId} {fr : Nat × Nat} (h : w.heap[g]? = some (.cells #[.int .i64 a, .int .i64 b, .int .i64 c, .int .i64 d, .int .i64 e] t fr)) : rdI .i64 w (.slice (some ⟨g, 0, none⟩) 5 5) [a, b, c, d, e] := by
  refine ⟨some ⟨g, 0, none⟩, 5, rfl, fun i hi => ⟨_, rfl, ?_⟩⟩
  have hi : i < 5 := hi
  rw [add_lit, Nat.zero_add, cell_of_blk h]
  rcases (by omega : i = 0 ∨ i = 1 ∨ i = 2 ∨ i = 3 ∨ i = 4) with rfl | rfl | rfl | rfl | rfl <;> rfl
theorem rep_256 (m : Nat) : ∀ s ∈ List.replicate m (zs 256), s.size = 256 := fun s hs => by rw [List.eq_of_mem_replicate hs]; exact zs_size 256
section
variable {B : Nat} {W w w' : World} {c q mb p b : Nat} {v u vr vs : Value} {C : Ca} {E : List (Nat × Ch)} {G : Pg} {D : Dv} {Q : Value → World → Prop}
theorem lives7_loop {R : List Int} {sz g0 : Nat} {o : Obj} {w0 : World} (hR : ∀ w : World, w.heap[g0]? = some o → rdI .i64 w vr R) (hR4 : ∀ x ∈ R, 0 ≤ x ∧ x < (G.L.length : Int)) (hRl : R.length ≤ 100) (hz : ∀ s ∈ G.L, s.size = 256) : ∀ (d m i : Nat) (w : World) (C : Ca) (E : List (Nat × Ch)) (s : Stk), i + d = R.length → d < m → CP w0.heap.size w c q mb p b v u C E G D → w.heap[g0]? = some o → ¬ fpX c q mb p b v u E g0 → CInv C sz G.L.length s → Good C G.L → (0 ≤ s.h ∧ s.h ≤ i ∧ 0 ≤ s.m ∧ s.m ≤ i) → Below w0.heap.size w0 w →
    (∀ w' C' E', CP w0.heap.size w' c q mb p b v u C' E' G D → CInv C' sz G.L.length ((R.drop i).foldl (stp sz G.L.length) s) → Below w0.heap.size w0 w' → f21_j1 (pv c) w' Q) →
    itr (fun _ _ _ => bot) (f21_b2 f21_j1) m (pv c) vr (.int .i64 ((i : Nat) : Int)) w Q := by
  intro d
  induction d with
  | zero =>
    intro m i w C E s hi hm hc hk hnk hs hg hbd hb kk
    obtain ⟨m, rfl⟩ : ∃ x, m = x + 1 := ⟨m - 1, by omega⟩
    show f21_b2 f21_j1 _ _ _ _ w Q
    unfold f21_b2
    have lr := rdI_lnl (hR w hk)
    have cc : ¬ (i : Int) < (R.length : Nat) := by omega
    try simp only [↓reduceIte, ↓LL, LM, Value.cells, Nat.reduceAdd, Option.some.injEq, exists_eq_left', decide_true, decide_false, if_true, if_false, reduceCtorEq, cond_true, cond_false, lr, cc]
    rw [List.drop_of_length_le (by omega)] at kk
    exact kk w C E hc hs hb
  | succ d ih =>
    intro m i w C E s hi hm hc hk hnk hs hg hbd hb kk
    obtain ⟨m, rfl⟩ : ∃ x, m = x + 1 := ⟨m - 1, by omega⟩
    show f21_b2 f21_j1 _ _ _ _ w Q
    unfold f21_b2
    have lr := rdI_lnl (hR w hk)
    have cc : (i : Int) < (R.length : Nat) := by omega
    have hil : i < R.length := by omega
    have h3 : IntKind.i64.wrap ((i : Int) + 1) = ((i + 1 : Nat) : Int) := by rw [w64 (by omega) (by omega)]; rfl
    obtain ⟨aad, hcl, hia⟩ := rdI_at (hR w hk) hil
    have hin := hR4 _ (List.getElem_mem hil)
    have hdr : R.drop i = R[i] :: R.drop (i + 1) := List.drop_eq_getElem_cons hil
    rw [hdr] at kk
    generalize R[i] = n at *
    try simp only [↓reduceIte, ↓LL, LM, Value.cells, Nat.reduceAdd, Option.some.injEq, exists_eq_left', decide_true, decide_false, if_true, if_false, reduceCtorEq, cond_true, cond_false, lr, cc, hia, hcl]
    have hh := hs.h
    have hmm := hs.m
    refine hc.read (by omega) (by omega) (by omega) (by omega) fun w2 E2 hc2 hg2 hk2 => ?_
    obtain ⟨i1, i2⟩ := hs.stp n
    obtain ⟨g1, g2⟩ := hg.rd (n := n)
    obtain ⟨p1, p2⟩ := pgR_ok hz hin
    rw [g1]
    generalize (pgR G.L n).1 = t at *
    have e2 : (pgR G.L n).2 = 0 := p2
    have p1' : ((t.size : Nat) : Int) = 256 := by omega
    try simp only [↓reduceIte, ↓LL, LM, Value.cells, Nat.reduceAdd, Option.some.injEq, exists_eq_left', decide_true, decide_false, if_true, if_false, reduceCtorEq, cond_true, cond_false, get0, get1, ne_eq, e2, p1', h3]
    refine ih m (i + 1) w2 _ E2 _ (by omega) (by omega) hc2 (hg2.keep hk hnk) (fun hn => (hk2 g0 hn).elim hnk fun h => by have := blk_lt hk; omega) i1 g2 (stp_bd hbd) (hb.trans (hg2.below (fun k hk => hc.fpB k hk) hb.size)) kk
theorem f21_s (kk : ∀ w', Below w.heap.size w w' → Q (.bool true) w') : f21 w Q := by
  unfold f21
  refine f24_s (n := 4) (by decide) (by decide) fun w1 q p b v u h1 b1 => ?_
  try simp only [↓reduceIte, ↓LL, LM, Value.cells, Nat.reduceAdd, Option.some.injEq, exists_eq_left', decide_true, decide_false, if_true, if_false, reduceCtorEq, cond_true, cond_false]
  refine cp_new (n := 2) h1 b1.size fun w2 c mb h2 _ b2 => ?_
  have b02 := bt b1 b2
  try simp only [↓reduceIte, ↓LL, LM, Value.cells, Nat.reduceAdd, Option.some.injEq, exists_eq_left', decide_true, decide_false, if_true, if_false, reduceCtorEq, cond_true, cond_false]
  rw [pn_eq ptK]
  try simp only [↓reduceIte, ↓LL, LM, Value.cells, Nat.reduceAdd, Option.some.injEq, exists_eq_left', decide_true, decide_false, if_true, if_false, reduceCtorEq, cond_true, cond_false, Option.isNone]
  refine ⟨_, _, lit5 1 2 1 3 1 w2, ?_⟩
  have b3 := b_psh w2 (.cells #[.int .i64 1, .int .i64 2, .int .i64 1, .int .i64 3, .int .i64 1] 3)
  have k3 := blk_psh_new (w := w2) (o := .cells #[.int .i64 1, .int .i64 2, .int .i64 1, .int .i64 3, .int .i64 1] 3)
  have h3 := h2.below b3
  try simp only [↓reduceIte, ↓LL, LM, Value.cells, Nat.reduceAdd, Option.some.injEq, exists_eq_left', decide_true, decide_false, if_true, if_false, reduceCtorEq, cond_true, cond_false]
  generalize psh w2 (.cells #[.int .i64 1, .int .i64 2, .int .i64 1, .int .i64 3, .int .i64 1] 3) = w3 at *
  have b03 := bt b02 b3
  have hin := inv_new 2 (List.replicate 4 (zs 256)).length
  have hsz : szN 2 = 2 := by decide
  rw [hsz] at h3 hin
  have hgd : Good ⟨2, [], 0, 0⟩ (List.replicate 4 (zs 256)) := fun x hx => by simp at hx
  refine ⟨_, lives7_loop (w0 := w) (R := [1, 2, 1, 3, 1]) (g0 := w2.heap.size) (fun w h => rdI_five h) (by
      intro x hx
      simp only [List.mem_cons, List.mem_nil_iff, or_false, List.length_replicate] at hx ⊢
      omega) (by decide) (rep_256 4) 5 6 0 w3 _ [] ⟨[], 0, 0⟩ rfl (by decide) h3 k3 (fun hn => by have := h2.lt _ hn; omega) hin hgd ⟨Int.le_refl 0, Int.le_refl 0, Int.le_refl 0, Int.le_refl 0⟩ b03 fun w4 C4 E4 h4 i4 b4 => ?_⟩
  have es : ([1, 2, 1, 3, 1] : List Int).foldl (stp 2 (List.replicate 4 (zs 256)).length) ⟨[], 0, 0⟩ = ⟨[1, 3, 2], 2, 3⟩ := by rw [List.length_replicate]; rfl
  rw [List.drop_zero, es] at i4
  have eT := i4.T
  have eh : C4.h = 2 := i4.h
  have em : C4.m = 3 := i4.m
  unfold f21_j1
  try simp only [↓reduceIte, ↓LL, LM, Value.cells, Nat.reduceAdd, Option.some.injEq, exists_eq_left', decide_true, decide_false, if_true, if_false, reduceCtorEq, cond_true, cond_false]
  refine f31_s h4.ca ?_
  rw [eh]
  try simp only [↓reduceIte, ↓LL, LM, Value.cells, Nat.reduceAdd, Option.some.injEq, exists_eq_left', decide_true, decide_false, if_true, if_false, reduceCtorEq, cond_true, cond_false]
  refine f32_s h4.ca ?_
  rw [em]
  try simp only [↓reduceIte, ↓LL, LM, Value.cells, Nat.reduceAdd, Option.some.injEq, exists_eq_left', decide_true, decide_false, if_true, if_false, reduceCtorEq, cond_true, cond_false]
  refine f34_s h4.ca fun w5 v5 b5 o5 => ?_
  have b05 := bt b4 b5
  rw [eT] at o5
  try simp only [↓reduceIte, ↓LL, LM, Value.cells, Nat.reduceAdd, Option.some.injEq, exists_eq_left', decide_true, decide_false, if_true, if_false, reduceCtorEq, cond_true, cond_false]
  refine ⟨_, _, lit22 1 3 w5, ?_⟩
  have b6 := b_psh w5 (.cells #[.int .i64 1, .int .i64 3] 3)
  have k6 := blk_psh_new (w := w5) (o := .cells #[.int .i64 1, .int .i64 3] 3)
  try simp only [↓reduceIte, ↓LL, LM, Value.cells, Nat.reduceAdd, Option.some.injEq, exists_eq_left', decide_true, decide_false, if_true, if_false, reduceCtorEq, cond_true, cond_false]
  generalize psh w5 (.cells #[.int .i64 1, .int .i64 3] 3) = w6 at *
  refine f33_s (l := [1, 3]) (l2 := [1, 3]) (rdP_rd (ownI_rdP (ownI_below o5 b6))) (rdI_two k6) (by decide) fun w7 b7 => ?_
  have h7 := ((h4.below b5).below b6).below b7
  try simp only [↓reduceIte, ↓LL, LM, Value.cells, Nat.reduceAdd, Option.some.injEq, exists_eq_left', decide_true, decide_false, if_true, if_false, reduceCtorEq, cond_true, cond_false]
  refine f28_s h7.ca h7.pg.hq h7.pg.hu ?_
  try simp only [↓reduceIte, ↓LL, LM, Value.cells, Nat.reduceAdd, Option.some.injEq, exists_eq_left', decide_true, decide_false, if_true, if_false, reduceCtorEq, cond_true, cond_false, List.length_replicate]
  exact kk w7 (bt (bt b05 b6) b7)
end
end Go.Proofs.YtongpnolikkknaaGreatDoor

set_option maxRecDepth 20000
set_option maxHeartbeats 4000000
namespace Go.Proofs.YtongpnolikkknaaGreatDoor
open Sh RowKit Go.MapKept
structure Op7 where
  n : Int
  b : Int
  wr : Bool
section
variable {B : Nat} {W w w' : World} {c q mb p b : Nat} {v u vr vs : Value} {C : Ca} {E : List (Nat × Ch)} {G : Pg} {D : Dv} {Q : Value → World → Prop}
end
end Go.Proofs.YtongpnolikkknaaGreatDoor

namespace Go.Proofs.YtongpnolikkknaaGreatDoor
open Sh RowKit Go.MapKept
end Go.Proofs.YtongpnolikkknaaGreatDoor

namespace Go.Proofs.YtongpnolikkknaaGreatDoor
open Sh RowKit Go.MapKept
def RI1 : World → List Value → Int → Prop := fun W vs x => vs = [.int .i64 x]
theorem oaI1 : OpensA Tryz.prog [3] Int RI1 (fun _ => 0) := by
  refine OpensA.mono (oa_one (op_int ui) scI (fun w cs a h => ⟨_, h.1⟩) oa_nil) ?_
  rintro W vs ⟨n, ⟨⟩⟩ ⟨v, r, rfl, ⟨h1, _⟩, rfl⟩
  exact ⟨n, by show _ = _; rw [one_cell h1], Nat.zero_le _⟩
end Go.Proofs.YtongpnolikkknaaGreatDoor

set_option maxRecDepth 20000
set_option maxHeartbeats 4000000
namespace Go.Proofs.YtongpnolikkknaaGreatDoor
open Sh RowKit Go.MapKept
def setE (E : List (Nat × Ch)) (x : Ch) : List (Nat × Ch) := E.map fun e => if e.2.1 = x.1 then (e.1, x) else e
def cmE (E : List (Nat × Ch)) (cs : List Ch) : List (Nat × Ch) := cs.foldl setE E
def cmC (C : Ca) (K : List Ch) : Ca := { C with K := K }
theorem setE_fst (E : List (Nat × Ch)) (x : Ch) : (setE E x).map (·.1) = E.map (·.1) := by
  unfold setE
  rw [List.map_map]
  refine List.map_congr_left fun e _ => ?_
  show (if e.2.1 = x.1 then (e.1, x) else e).1 = e.1
  split <;> rfl
theorem setE_num (E : List (Nat × Ch)) (x : Ch) : (setE E x).map (·.2.1) = E.map (·.2.1) := by
  unfold setE
  rw [List.map_map]
  refine List.map_congr_left fun e _ => ?_
  show (if e.2.1 = x.1 then (e.1, x) else e).2.1 = e.2.1
  split
  · rename_i h; exact h.symm
  · rfl
theorem setE_len (E : List (Nat × Ch)) (x : Ch) : (setE E x).length = E.length := by unfold setE; rw [List.length_map]
theorem setE_fnd (E : List (Nat × Ch)) (x : Ch) (n : Int) : (fnd (setE E x) n).map (fun e => pv e.1) = (fnd E n).map fun e => pv e.1 := by
  induction E with
  | nil => rfl
  | cons e E ih =>
    show (fnd ((if e.2.1 = x.1 then (e.1, x) else e) :: setE E x) n).map _ = _
    rw [fnd_cons, fnd_cons]
    by_cases h : e.2.1 = x.1
    · rw [if_pos h]
      show (if x.1 = n then _ else _ : Option (Nat × Ch)).map _ = _
      by_cases hn : e.2.1 = n
      · rw [if_pos hn, if_pos (h.symm.trans hn)]; rfl
      · rw [if_neg hn, if_neg (fun h' => hn (h.trans h')), ih]
    · rw [if_neg h]
      by_cases hn : e.2.1 = n
      · rw [if_pos hn, if_pos hn]
      · rw [if_neg hn, if_neg hn, ih]
theorem setE_none {E : List (Nat × Ch)} {x : Ch} (h : fnd E x.1 = none) : setE E x = E := by
  unfold setE
  refine (List.map_congr_left fun e he => ?_).trans (List.map_id E)
  rw [if_neg]; rfl
  intro hx
  have := List.find?_eq_none.1 h e he
  simp only [decide_eq_true_eq] at this
  exact this hx
theorem cmE_fst (cs : List Ch) : ∀ E : List (Nat × Ch), (cmE E cs).map (·.1) = E.map (·.1) := by
  induction cs with
  | nil => intro E; rfl
  | cons c cs ih => intro E; show (cmE (setE E c) cs).map _ = _; rw [ih, setE_fst]
theorem cmE_snoc (E : List (Nat × Ch)) (cs : List Ch) (x : Ch) : cmE E (cs ++ [x]) = setE (cmE E cs) x := by unfold cmE; rw [List.foldl_append]; rfl
theorem fpA_fst {c mb : Nat} {E E' : List (Nat × Ch)} (h : E'.map (·.1) = E.map (·.1)) : ∀ k, fpA c mb E' k ↔ fpA c mb E k := by
  have aux : ∀ {E E' : List (Nat × Ch)}, E'.map (·.1) = E.map (·.1) → ∀ k, fpA c mb E' k → fpA c mb E k := by
    intro E E' h k hk
    rcases hk with (hk | ⟨e, he, hk⟩) | hk
    · exact .inl (.inl hk)
    · have : e.1 ∈ E.map (·.1) := by rw [← h]; exact List.mem_map.2 ⟨e, he, rfl⟩
      obtain ⟨a, ha, hx⟩ := List.mem_map.1 this
      exact .inl (.inr ⟨a, ha, by rw [hk, hx]⟩)
    · exact .inr hk
  exact fun k => ⟨aux h k, aux h.symm k⟩
section
variable {B : Nat} {W w w' : World} {c q mb p b : Nat} {v u lv : Value} {C : Ca} {E : List (Nat × Ch)} {G : Pg} {D : Dv} {Q : Value → World → Prop} {Bc : Nat}
/-- a kept page's bytes stored -/
theorem CaAt.sD {e : Nat × Ch} {x : Ch} {K0 : M} (hc : CaAt B w c q mb C E) (he : e ∈ E) (hx : e.2.1 = x.1) (kk : ∀ w', CaAt B w' c q mb (cmC C ((setE E x).map (·.2))) (setE E x) → ChgS (fpA c mb E) w w' → K0 w' Q) : st (.pointer (some ⟨e.1, 3, none⟩)) (.string x.2) K0 w Q := by
  obtain ⟨f, hm, hr⟩ := hc.rg
  obtain ⟨ML, hmp, hlk⟩ := hc.mp
  have hnn : (E.map (·.2.1)).Nodup := by have := hc.nk; rwa [hc.K, nums_map] at this
  refine st_box (o := 3) (v := .string x.2) (hm.lk e he) (by show 3 < 4; decide) rfl fun w1 h1 u1 => kk w1 ?_ (ChgS.of_upd u1 (.inl (.inr ⟨e, he, rfl⟩)))
  refine ⟨rfl, ⟨f, ⟨hm.cB, fun a ha => ?_, ?_, fun a ha => ?_, by rw [setE_fst]; exact hm.nd⟩, ?_⟩, hc.mB, ⟨ML, hmp.stay (u1.block mb (hm.mne hmp e.1 (.inr ⟨e, he, rfl⟩)).symm), fun n => by rw [setE_fnd]; exact hlk n⟩, ?_, by rw [setE_len]; exact hc.le, hc.l64⟩
  · obtain ⟨a0, ha0, rfl⟩ := List.mem_map.1 ha
    split
    · exact hm.eB a0 ha0
    · exact hm.eB a0 ha0
  · rw [u1.block c (hm.ne e he).symm, setE_len]; exact hm.cb
  · obtain ⟨a0, ha0, rfl⟩ := List.mem_map.1 ha
    by_cases hn : a0.2.1 = x.1
    · rw [if_pos hn]
      have : a0 = e := by
        have h1 : a0.2.1 = e.2.1 := hn.trans hx.symm
        obtain ⟨i, hi, rfl⟩ := List.mem_iff_getElem.1 ha0
        obtain ⟨j, hj, rfl⟩ := List.mem_iff_getElem.1 he
        have := (List.getElem?_inj (l := E.map (·.2.1)) (i := i) (j := j) (by simpa using hi) hnn).1 (by simp [List.getElem?_eq_getElem, hi, hj, h1])
        simp [this]
      subst this
      rw [h1]
      unfold lCell
      rw [← hx]
      rfl
    · rw [if_neg hn]
      have : a0.1 ≠ e.1 := fun h => hn (by rw [nd_inj hm.nd ha0 he h]; exact hx)
      rw [u1.block a0.1 this]
      exact hm.lk a0 ha0
  · have : (nds (setE E x) : List Nd) = nds E := by
      have e1 : (nds (setE E x) : List Nd) = ((setE E x).map (·.1)).map some := by unfold nds; rw [List.map_map]; rfl
      have e2 : (nds E : List Nd) = (E.map (·.1)).map some := by unfold nds; rw [List.map_map]; rfl
      rw [e1, e2, setE_fst]
    rw [this]; exact hr
  · show (nums ((setE E x).map (·.2))).Nodup
    rw [nums_map, setE_num]; exact hnn
theorem commit7_loop {cs : List Ch} {Bc : Nat} (hl : cs.length ≤ 1000) (hsep : ∀ g, lv.ownBlock = some g → ¬ fpA c mb E g) (hE : CaAt B W c q mb C E) (hcs : ownE Bc 48 2 encC W lv cs) :
    ∀ (d m i : Nat) (w : World), i + d = cs.length → d < m → ChgS (fpA c mb E) W w → CaAt B w c q mb (cmC C ((cmE E (cs.take i)).map (·.2))) (cmE E (cs.take i)) →
    (∀ w', ChgS (fpA c mb E) W w' → CaAt B w' c q mb (cmC C ((cmE E cs).map (·.2))) (cmE E cs) → Q (.int .i64 0) w') →
    itr (fun _ _ _ _ => bot) (f25_b2 f25_j1) m (pv c) lv (.int .i64 ((cs.length : Nat) : Int)) (.int .i64 ((i : Nat) : Int)) w Q := by
  intro d
  induction d with
  | zero =>
    intro m i w hi hm hg hc kk
    obtain ⟨m, rfl⟩ : ∃ x, m = x + 1 := ⟨m - 1, by omega⟩
    show f25_b2 f25_j1 _ _ _ _ _ w Q
    unfold f25_b2
    have cc : ¬ (i : Int) < (cs.length : Nat) := by omega
    try simp only [↓reduceIte, ↓LL, LM, Value.cells, Nat.reduceAdd, Option.some.injEq, exists_eq_left', decide_true, decide_false, if_true, if_false, reduceCtorEq, cond_true, cond_false, cc]
    unfold f25_j1
    rw [List.take_of_length_le (by omega)] at hc
    try simp only [↓reduceIte, ↓LL, LM, Value.cells, Nat.reduceAdd, Option.some.injEq, exists_eq_left', decide_true, decide_false, if_true, if_false, reduceCtorEq, cond_true, cond_false]
    exact kk w hg hc
  | succ d ih =>
    intro m i w hi hm hg hc kk
    obtain ⟨m, rfl⟩ : ∃ x, m = x + 1 := ⟨m - 1, by omega⟩
    show f25_b2 f25_j1 _ _ _ _ _ w Q
    unfold f25_b2
    have cc : (i : Int) < (cs.length : Nat) := by omega
    have hil : i < cs.length := by omega
    have h3 : IntKind.i64.wrap ((i : Int) + 1) = ((i + 1 : Nat) : Int) := by rw [w64 (by omega) (by omega)]; rfl
    have hcsw : ownE Bc 48 2 encC w lv cs := ownE_chg hcs hg fun g hg' => hsep g hg'
    obtain ⟨aad, es, he1, he2, he3, hia⟩ := rdS_at (ownE_rd encC_len (by decide) hcsw) hil
    have hts : cs.take (i + 1) = cs.take i ++ [cs[i]] := List.take_succ_eq_append_getElem hil
    try simp only [↓reduceIte, ↓LL, LM, Value.cells, Nat.reduceAdd, Option.some.injEq, exists_eq_left', decide_true, decide_false, if_true, if_false, reduceCtorEq, cond_true, cond_false, cc, hia]
    refine ldn_at he2 he1 ?_
    have he3 : es = encC cs[i] := he3
    rw [he3]
    generalize cs[i] = x at *
    have b1 := b_psh w (.cells #[.int .i64 0, .string ⟨#[]⟩] 48)
    have k1 := blk_psh_new (w := w) (o := .cells #[.int .i64 0, .string ⟨#[]⟩] 48)
    try simp only [↓reduceIte, ↓LL, LM, Value.cells, Nat.reduceAdd, Option.some.injEq, exists_eq_left', decide_true, decide_false, if_true, if_false, reduceCtorEq, cond_true, cond_false]
    refine stn_box k1 (by simp) (by simp [encC]) (by intro y hy; exact encC_one x y (by simpa using hy)) fun w2 k2 u2 => ?_
    have b2 : Below w.heap.size w w2 := b1.trans (u2.below (Nat.le_refl _))
    have hc2 := hc.below b2
    have hg2 : ChgS (fpA c mb E) W w2 := hg.trans (ChgS.of_below b2) fun _ _ h => h
    have d0 : (drw w2).cell? ⟨w.heap.size, 0, none⟩ = some (.int .i64 x.1) := by show w2.cell? _ = _; rw [cell_of_blk k2]; rfl
    have d1 : (drw w2).cell? ⟨w.heap.size, 1, none⟩ = some (.string x.2) := by show w2.cell? _ = _; rw [cell_of_blk k2]; rfl
    have d0' : w2.cell? ⟨w.heap.size, 0, none⟩ = some (.int .i64 x.1) := d0
    have d1' : w2.cell? ⟨w.heap.size, 1, none⟩ = some (.string x.2) := d1
    obtain ⟨f, hm2, hr2⟩ := hc2.rg
    obtain ⟨ML, hmp2, hlk2⟩ := hc2.mp
    have c7 : (drw w2).cell? ⟨c, 7, none⟩ = some (.map (some mb)) := by show w2.cell? _ = _; rw [cell_of_blk hm2.cb]; rfl
    have c7' : w2.cell? ⟨c, 7, none⟩ = some (.map (some mb)) := c7
    have hlook : ∀ (K : Value → M), smr Tryz.prog (Instr.lookup 115 (.map (some mb)) (.int .i64 x.1) true) K (drw w2) Q = K (.tuple #[((fnd (cmE E (cs.take i)) x.1).map fun e => pv e.1).getD (.pointer none), .bool ((fnd (cmE E (cs.take i)) x.1).map fun e => pv e.1).isSome]) (drw w2) Q := fun K => by
      rw [show (Value.int .i64 x.1) = kI x.1 from rfl, look_ok (kv := kI) KKc (show MapAt kI (drw w2) mb ML from hmp2) zC x.1, hlk2 x.1]
    have eE : setE (cmE E (cs.take i)) x = cmE E (cs.take (i + 1)) := by rw [hts, cmE_snoc]
    have hc2d : CaAt B (drw w2) c q mb (cmC C ((cmE E (cs.take i)).map (·.2))) (cmE E (cs.take i)) := hc2.below ⟨rfl, rfl, rfl, Nat.le_refl _, fun _ _ => rfl⟩
    cases hf : fnd (cmE E (cs.take i)) x.1 with
    | none =>
      rw [hf] at hlook
      have g1 : ((none : Option (Nat × Ch)).map fun e => pv e.1).isSome = false := rfl
      try simp only [↓reduceIte, ↓LL, LM, Value.cells, Nat.reduceAdd, Option.some.injEq, exists_eq_left', decide_true, decide_false, if_true, if_false, reduceCtorEq, cond_true, cond_false, c7, c7', d0, d0', hlook, g1, get0, get1]
      unfold f25_j3
      try simp only [↓reduceIte, ↓LL, LM, Value.cells, Nat.reduceAdd, Option.some.injEq, exists_eq_left', decide_true, decide_false, if_true, if_false, reduceCtorEq, cond_true, cond_false, h3]
      refine ih m (i + 1) (drw w2) (by omega) (by omega) hg2.drw ?_ kk
      rw [← eE, setE_none hf]
      exact hc2d
    | some e =>
      rw [hf] at hlook
      obtain ⟨hemem, hen⟩ := fnd_mem hf
      have g0 : (((some e).map fun e : Nat × Ch => pv e.1).getD (.pointer none)) = pv e.1 := rfl
      have g1 : ((some e).map fun e : Nat × Ch => pv e.1).isSome = true := rfl
      try simp only [↓reduceIte, ↓LL, LM, Value.cells, Nat.reduceAdd, Option.some.injEq, exists_eq_left', decide_true, decide_false, if_true, if_false, reduceCtorEq, cond_true, cond_false, c7, c7', d0, d0', d1, d1', hlook, g0, g1, get0, get1]
      refine hc2d.sD hemem hen fun w3 hc3 hg3 => ?_
      unfold f25_j3
      try simp only [↓reduceIte, ↓LL, LM, Value.cells, Nat.reduceAdd, Option.some.injEq, exists_eq_left', decide_true, decide_false, if_true, if_false, reduceCtorEq, cond_true, cond_false, h3]
      rw [eE] at hc3
      refine ih m (i + 1) w3 (by omega) (by omega) (hg2.trans (T := fpA c mb E) ((hg3.mono fun k hk => (fpA_fst (cmE_fst _ _) k).1 hk).of_drw) fun _ _ h => h) hc3 kk
/-- a commit by way of the cache -/
theorem CP.commit {cs : List Ch} (h : CP B w c q mb p b v u C E G D) (hcs : ownE Bc 48 2 encC w lv cs) (hsep : ∀ g, lv.ownBlock = some g → ¬ fpX c q mb p b v u E g) (hcl : cs.length ≤ 1000)
    (h0 : 0 ≤ D.c) (h1 : D.c + 300 ≤ 1000000) (hG0 : 0 ≤ G.c) (hG1 : G.c ≤ 1000000) (hL : G.L.length ≤ 1000)
    (k1 : ∀ w', (commitB G D cs).1 ≠ 0 → CP B w' c q mb p b v u C E (commitB G D cs).2.2 (commitB G D cs).2.1 → ChgS (fpX c q mb p b v u E) w w' → Q (.int .i64 (commitB G D cs).1) w')
    (k0 : ∀ w', (commitB G D cs).1 = 0 → CP B w' c q mb p b v u (cmC C ((cmE E cs).map (·.2))) (cmE E cs) (commitB G D cs).2.2 (commitB G D cs).2.1 → ChgS (fpX c q mb p b v u E) w w' → Q (.int .i64 0) w') : f25 (pv c) lv w Q := by
  unfold f25
  rw [pn_eq ptK]
  obtain ⟨f, hb⟩ := h.ca.cb
  have c0 : w.cell? ⟨c, 0, none⟩ = some (pv q) := by rw [cell_of_blk hb]; rfl
  have ll := lnl_S (ownE_rd encC_len (by decide) hcs)
  try simp only [↓reduceIte, ↓LL, LM, Value.cells, Nat.reduceAdd, Option.some.injEq, exists_eq_left', decide_true, decide_false, if_true, if_false, reduceCtorEq, cond_true, cond_false, Option.isNone, c0]
  refine commit_at h.pg hcs h0 h1 hG0 hG1 hL fun w2 hp2 hg2 => ?_
  have hc2 : CaAt B w2 c q mb C E := h.ca.chg hg2 fun k hk hn => h.ap k hk hn
  have hcs2 : ownE Bc 48 2 encC w2 lv cs := ownE_chg hcs hg2 fun g hg hn => hsep g hg (.inr hn)
  have hgX : ChgS (fpX c q mb p b v u E) w w2 := hg2.mono fun k hk => .inr hk
  by_cases ce : (commitB G D cs).1 = 0
  · try simp only [↓reduceIte, ↓LL, LM, Value.cells, Nat.reduceAdd, Option.some.injEq, exists_eq_left', decide_true, decide_false, if_true, if_false, reduceCtorEq, cond_true, cond_false, ne_eq, ce, ll]
    refine ⟨_, commit7_loop (W := w2) (C := C) (E := E) hcl (fun g hg hn => hsep g hg (.inl hn)) hc2 hcs2 cs.length (cs.length + 1) 0 w2 (by omega) (by omega) (ChgS.refl _ _) ?_ fun w3 hg3 hc3 => ?_⟩
    · have : cmC C ((cmE E (cs.take 0)).map (·.2)) = C := by
        show cmC C (E.map (·.2)) = C
        rw [← hc2.K]; rfl
      rw [this]; exact hc2
    · refine k0 w3 ce ⟨hc3, hp2.chg hg3 fun k hk hn => h.ap k hn hk, fun k hk => h.ap k ((fpA_fst (cmE_fst _ _) k).1 hk)⟩ (hgX.trans (hg3.mono fun k hk => .inl hk) fun _ _ h => h)
  · try simp only [↓reduceIte, ↓LL, LM, Value.cells, Nat.reduceAdd, Option.some.injEq, exists_eq_left', decide_true, decide_false, if_true, if_false, reduceCtorEq, cond_true, cond_false, ne_eq, ce]
    exact k1 w2 ce ⟨hc2, hp2, h.ap⟩ hgX
theorem f25_n (k : Q (.int .i64 1) w) : f25 (.pointer none) lv w Q := by
  unfold f25
  rw [pn_eq ptK]
  try simp only [↓reduceIte, ↓LL, LM, Value.cells, Nat.reduceAdd, Option.some.injEq, exists_eq_left', decide_true, decide_false, if_true, if_false, reduceCtorEq, cond_true, cond_false, Option.isNone]
  exact k
theorem f23_n {n : Value} (k : Q (.pointer none) w) : f23 (.pointer none) n w Q := by
  unfold f23
  rw [pn_eq pt49]
  try simp only [↓reduceIte, ↓LL, LM, Value.cells, Nat.reduceAdd, Option.some.injEq, exists_eq_left', decide_true, decide_false, if_true, if_false, reduceCtorEq, cond_true, cond_false, Option.isNone]
  exact k
theorem f27_n {n : Value} (k : Q (.tuple #[.string ⟨#[]⟩, .int .i64 1]) w) : f27 (.pointer none) n w Q := by
  unfold f27
  rw [pn_eq ptK]
  try simp only [↓reduceIte, ↓LL, LM, Value.cells, Nat.reduceAdd, Option.some.injEq, exists_eq_left', decide_true, decide_false, if_true, if_false, reduceCtorEq, cond_true, cond_false, Option.isNone]
  exact k
theorem f34_n (k : Q (.slice none 0 0) w) : f34 (.pointer none) w Q := by
  unfold f34
  rw [pn_eq ptK]
  try simp only [↓reduceIte, ↓LL, LM, Value.cells, Nat.reduceAdd, Option.some.injEq, exists_eq_left', decide_true, decide_false, if_true, if_false, reduceCtorEq, cond_true, cond_false, Option.isNone]
  exact k
theorem f31_n (k : Q (.int .i64 0) w) : f31 (.pointer none) w Q := by
  unfold f31
  rw [pn_eq ptK]
  try simp only [↓reduceIte, ↓LL, LM, Value.cells, Nat.reduceAdd, Option.some.injEq, exists_eq_left', decide_true, decide_false, if_true, if_false, reduceCtorEq, cond_true, cond_false, Option.isNone]
  exact k
theorem f32_n (k : Q (.int .i64 0) w) : f32 (.pointer none) w Q := by
  unfold f32
  rw [pn_eq ptK]
  try simp only [↓reduceIte, ↓LL, LM, Value.cells, Nat.reduceAdd, Option.some.injEq, exists_eq_left', decide_true, decide_false, if_true, if_false, reduceCtorEq, cond_true, cond_false, Option.isNone]
  exact k
theorem f28_n (k : Q (.int .i64 0) w) : f28 (.pointer none) w Q := by
  unfold f28
  rw [pn_eq ptK]
  try simp only [↓reduceIte, ↓LL, LM, Value.cells, Nat.reduceAdd, Option.some.injEq, exists_eq_left', decide_true, decide_false, if_true, if_false, reduceCtorEq, cond_true, cond_false, Option.isNone]
  exact k
theorem f6_s {n : Int} (kk : ∀ w', Below w.heap.size w w' → Q (.bool true) w') : f6 (.int .i64 n) w Q := by
  unfold f6
  refine f21_s fun w1 b1 => ?_
  try simp only [↓reduceIte, ↓LL, LM, Value.cells, Nat.reduceAdd, Option.some.injEq, exists_eq_left', decide_true, decide_false, if_true, if_false, reduceCtorEq, cond_true, cond_false]
  refine f23_n ?_
  try simp only [↓reduceIte, ↓LL, LM, Value.cells, Nat.reduceAdd, Option.some.injEq, exists_eq_left', decide_true, decide_false, if_true, if_false, reduceCtorEq, cond_true, cond_false]
  refine f27_n ?_
  try simp only [↓reduceIte, ↓LL, LM, Value.cells, Nat.reduceAdd, Option.some.injEq, exists_eq_left', decide_true, decide_false, if_true, if_false, reduceCtorEq, cond_true, cond_false, get0, get1]
  rw [pn_eq ptK]
  try simp only [↓reduceIte, ↓LL, LM, Value.cells, Nat.reduceAdd, Option.some.injEq, exists_eq_left', decide_true, decide_false, if_true, if_false, reduceCtorEq, cond_true, cond_false, Option.isNone, get0, get1]
  refine f25_n ?_
  try simp only [↓reduceIte, ↓LL, LM, Value.cells, Nat.reduceAdd, Option.some.injEq, exists_eq_left', decide_true, decide_false, if_true, if_false, reduceCtorEq, cond_true, cond_false]
  refine f34_n ?_
  try simp only [↓reduceIte, ↓LL, LM, Value.cells, Nat.reduceAdd, Option.some.injEq, exists_eq_left', decide_true, decide_false, if_true, if_false, reduceCtorEq, cond_true, cond_false]
  have z0 : ((0 : Nat) : Int) = 0 := rfl
  try simp only [↓reduceIte, ↓LL, LM, Value.cells, Nat.reduceAdd, Option.some.injEq, exists_eq_left', decide_true, decide_false, if_true, if_false, reduceCtorEq, cond_true, cond_false, z0]
  refine f31_n ?_
  try simp only [↓reduceIte, ↓LL, LM, Value.cells, Nat.reduceAdd, Option.some.injEq, exists_eq_left', decide_true, decide_false, if_true, if_false, reduceCtorEq, cond_true, cond_false]
  refine f32_n ?_
  try simp only [↓reduceIte, ↓LL, LM, Value.cells, Nat.reduceAdd, Option.some.injEq, exists_eq_left', decide_true, decide_false, if_true, if_false, reduceCtorEq, cond_true, cond_false]
  refine f28_n ?_
  try simp only [↓reduceIte, ↓LL, LM, Value.cells, Nat.reduceAdd, Option.some.injEq, exists_eq_left', decide_true, decide_false, if_true, if_false, reduceCtorEq, cond_true, cond_false]
  exact kk w1 b1
end
end Go.Proofs.YtongpnolikkknaaGreatDoor

namespace Go.Proofs.YtongpnolikkknaaGreatDoor
open Go.ChangeShapes Go.WideShapes Go.ChangeAt Go.RowKit
open Sh
def R6 := RI1
def b6 : Int → Nat := fun _ => 0
theorem oa6 : OpensA Tryz.prog [3] Int R6 b6 := oaI1
theorem law6 (W : World) (vs : List Value) (a : Int) (h : R6 W vs a) : Calls Tryz.prog 6 vs.toArray W (Rt fun v W' => v = .bool true ∧ Below W.heap.size W W') := by
  obtain rfl : vs = _ := h
  exact s6 _ _ _ (f6_s fun w' hb => ⟨rfl, hb⟩)
set_option maxRecDepth 1000000 in
theorem lifted6 (os : Os) (started : os.Started) (H : Type) (enc : TypeId × Value → H) :
    ReturnsInHanded {} Tryz.checked os 6 .any (fun w args => (Rows.cacheNilSpec.pre enc Tryz.prog Tryz.f6 Rows.cacheNilRow.domain false w args ∧ laidMetH Tryz.prog Rows.cacheNilRow.laid w) ∧ sizedMet enc Tryz.prog Tryz.f6 (OpenSpec.ofChange Rows.cacheNilSpec) false w args) (Rows.cacheNilSpec.post enc Tryz.prog Tryz.f6 false true false false) := by
  refine law_from_laid (C := Tryz.checked) (X := (fun w _ => laidMetH Tryz.prog Rows.cacheNilRow.laid w)) (tb := 4) (R := R6) (b := b6) (fun _ _ _ hh h => h.of_heap hh) own started (by kernel_rfl) Tryz.func6
    (ChangeSpec.witness_at (enc := enc) (C := Tryz.checked) (os := os) (X := (fun w _ => laidMetH Tryz.prog Rows.cacheNilRow.laid w)) false (laidW Tryz.prog Rows.cacheNilRow.laid os) #[.int .i64 0] 8 rfl (by kernel_rfl) (by kernel_rfl) (by kernel_rfl) (by kernel_rfl) (by kernel_rfl) (laidW_metH os _))
    rfl (by kernel_rfl) (by kernel_rfl) rfl Tryz.underlying4 (fun ds hd => ?_) ?_ law6
  · match ds, hd with
    | [d0], _ => exact ⟨rfl, rfl, rfl⟩
  · show OpensA Tryz.prog Tryz.f6.params.toList _ R6 b6
    rw [Tryz.params6]; exact oa6
theorem cacheNil_row : Rows.CacheNilSaid :=
  OpenClaim.holds_of_wide 6 Tryz.f6 rfl rfl rfl rfl rfl rfl rfl ⟨rfl, rfl, rfl, rfl, rfl⟩ rfl rfl rfl rfl rfl (by kernel_rfl) Tryz.func6 (by kernel_rfl)
    (of_decide_eq_true (by kernel_rfl)) (by unfold Func.isWrapper; first | (rw [if_pos (by decide +kernel)]; kernel_rfl) | (rw [if_neg (by decide +kernel)]; exact ⟨rfl, rfl⟩))
    (fun os started H enc _ => lifted6 os started H enc)
theorem cacheNil_holds : Rows.CacheNilCardSaid :=
  Claim7.holds_tied_plain_at .later [] Rows.cacheNilCard.laidKinds true Rows.cacheNilCard.stood.harness Rows.cacheNilCard.stood.looks
    cacheNil_row (fun _ h => by cases h) (by kernel_rfl) (fun _ h => by cases h) cacheNil_row_tie rfl ⟨rfl, rfl⟩ (by kernel_rfl) (by kernel_rfl)
    (fun f fn hf hfn => by
      obtain rfl : f = 6 := Option.some.inj ((show Tryz.prog.funcNamed Rows.cacheNilRow.func = some 6 by kernel_rfl).symm.trans hf) |>.symm
      obtain rfl : fn = Tryz.f6 := (Option.some.inj (Tryz.func6.symm.trans hfn)).symm
      exact ⟨by kernel_rfl, no_stand (by kernel_rfl)⟩)
    (by kernel_rfl)
#print axioms cacheNil_holds
end Go.Proofs.YtongpnolikkknaaGreatDoor
