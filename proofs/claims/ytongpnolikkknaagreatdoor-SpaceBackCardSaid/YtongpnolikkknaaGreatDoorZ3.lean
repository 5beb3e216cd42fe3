/- What isn't sure, in order; all made sure. -/
import Derived.Test.YtongpnolikkknaaGreatDoorZ2
import Derived.LaidEqlPtr
set_option linter.unusedVariables false
set_option linter.unusedSimpArgs false
set_option linter.unusedSectionVars false
set_option maxRecDepth 20000
namespace Go.Proofs.YtongpnolikkknaaGreatDoor
open Sh RowKit Go.MapKept
abbrev vL (L : List (Int × Sct)) : List (Int × Value) := L.map fun q => (q.1, Value.agg (encS q.2).toArray)
section
variable {B : Nat} {w : World} {p b : Nat} {v : Value} {D : Dv} {Q : Value → World → Prop}
/-- what is sure behind some of the map's entries -/
def partS (A : List Sec) (rest : List (Int × Sct)) (S : List Sct) : Prop := S.length = A.length ∧ ∀ (i : Nat) x, A[i]? = some x → S[i]? = some (if (i : Int) ∈ rest.map (·.1) then x.s else x.now)
theorem f114_loop {r : Nat} {L : List (Int × Sct)} (hn : D.A.length ≤ 4096) (hl : ∀ i x, (i, x) ∈ L ↔ (D.at i).bind (·.u) = some x) (hpB : B ≤ p) (hbB : B ≤ b) (hrB : B ≤ r) (hrb : r ≠ b) (hpb : p ≠ b) (hrp : r ≠ p) :
    ∀ (d m : Nat) (rest : List (Int × Sct)) (w : World) (S : List Sct), rest.length = d → d < m → (∀ q ∈ rest, q ∈ L) → (rest.map (·.1)).Nodup →
    w.heap[p]? = some (.cells #[v, .map (some b), .int .i64 D.c, .int .i64 D.h] 130 (0, 0)) → ownE B 145 64 encS w v S → partS D.A rest S → RangeAt kI w r b (vL L) (vL rest) → (∀ g, v.ownBlock = some g → g ≠ r ∧ g ≠ p ∧ g ≠ b) →
    (∀ w', DevAt B w' p v b { D with A := D.A.map fun x => ⟨x.now, none⟩ } → ChgS (fun k => fpD p v b k ∨ k = r) w w' → Q (.int .i64 0) w') →
    itr (fun _ _ => bot) (f114_b2 f114_j1) m (pv p) (.pointer (some ⟨r, 0, none⟩)) w Q := by
  intro d
  induction d with
  | zero =>
    intro m rest w S hr hm hsub hnd hp ho hS hR hg kk
    obtain ⟨m, rfl⟩ : ∃ x, m = x + 1 := ⟨m - 1, by omega⟩
    show f114_b2 f114_j1 _ _ _ w Q
    unfold f114_b2
    obtain rfl : rest = [] := List.length_eq_zero_iff.1 hr
    refine next_map_e hrb hR (fun _ => ?_) (fun i hi => absurd hi (by simp))
    have c1 : w.cell? ⟨p, 1, none⟩ = some (.map (some b)) := by rw [cell_of_blk hp]; rfl
    unfold f114_j1
    have get1 : (#[Value.bool false] : Array Value)[0]? = some (.bool false) := rfl
    simp only [↓reduceIte, ↓LL, LM, Value.cells, Nat.reduceAdd, Option.some.injEq, exists_eq_left', decide_true, decide_false, if_true, if_false, reduceCtorEq, cond_true, cond_false, get1, c1]
    refine clear_map (kv := kI) KK hR.map fun w' hm' hu => ?_
    simp only [↓reduceIte, ↓LL, LM, Value.cells, Nat.reduceAdd, Option.some.injEq, exists_eq_left', decide_true, decide_false, if_true, if_false, reduceCtorEq, cond_true, cond_false]
    refine kk w' ⟨hpB, hbB, by simpa using hn, ?_, ?_, [], hm', fun i x => ?_⟩ (ChgS.of_upd hu (.inl (.inr (.inl rfl))))
    · rw [hu.block p hpb]; exact hp
    · have e : (D.A.map fun x => (⟨x.now, none⟩ : Sec)).map (·.s) = S := by
        apply List.ext_getElem?
        intro i
        rw [List.map_map, List.getElem?_map]
        cases hx : D.A[i]? with
        | none =>
          have := List.getElem?_eq_none_iff.1 hx
          rw [Option.map_none, List.getElem?_eq_none (by rw [hS.1]; exact this)]
        | some x => rw [hS.2 i x hx]; simp
      show ownE B 145 64 encS w' v ((D.A.map fun x => (⟨x.now, none⟩ : Sec)).map (·.s))
      rw [e]
      exact ownE_stay ho (fun g h => hu.block g (hg g h).2.2)
    · have : (({ D with A := D.A.map fun x => ⟨x.now, none⟩ } : Dv).at i).bind (·.u) = none := by
        unfold Dv.at
        split
        · simp only [List.getElem?_map]
          cases D.A[i.toNat]? <;> rfl
        · rfl
      rw [this]
      simp
  | succ d ih =>
    intro m rest w S hr hm hsub hnd hp ho hS hR hg kk
    obtain ⟨m, rfl⟩ : ∃ x, m = x + 1 := ⟨m - 1, by omega⟩
    show f114_b2 f114_j1 _ _ _ w Q
    unfold f114_b2
    refine next_map_e hrb hR (fun h0 => absurd h0 (by intro e; rw [List.map_eq_nil_iff] at e; rw [e] at hr; simp at hr)) (fun j hj w1 hR1 hc1 hent => ?_)
    rw [List.length_map] at hj
    have he := hent w1 rfl rfl
    simp only [List.getElem_map] at he ⊢
    have get1 : ∀ (a c : Value), (#[Value.bool true, a, c] : Array Value)[0]? = some (.bool true) := fun _ _ => rfl
    simp only [↓reduceIte, ↓LL, LM, Value.cells, Nat.reduceAdd, Option.some.injEq, exists_eq_left', decide_true, decide_false, if_true, if_false, reduceCtorEq, cond_true, cond_false, get1]
    rw [smr_run he]
    have b2 := b_psh w1 (.cells (Array.replicate 64 (.int .u8 0)) 145)
    have blk := blk_psh_new (w := w1) (o := .cells (Array.replicate 64 (.int .u8 0)) 145)
    simp only [↓reduceIte, ↓LL, LM, Value.cells, Nat.reduceAdd, Option.some.injEq, exists_eq_left', decide_true, decide_false, if_true, if_false, reduceCtorEq, cond_true, cond_false]
    refine stn_box blk (by simp) (by simp [encS_len]) (by simpa using encS_one _) fun w2 h2 hu2 => ?_
    have hb2 : Below w1.heap.size w1 w2 := b2.trans (hu2.below (Nat.le_refl _))
    have hp1 := hc1.keep hp hrp.symm
    have hp2 := stay hb2 hp1
    have k0 : (drw w2).cell? ⟨p, 0, none⟩ = some v := by
      show w2.cell? _ = _
      rw [cell_of_blk hp2]; rfl
    simp only [↓reduceIte, ↓LL, LM, Value.cells, Nat.reduceAdd, Option.some.injEq, exists_eq_left', decide_true, decide_false, if_true, if_false, reduceCtorEq, cond_true, cond_false, k0]
    refine ldn_box (show (drw w2).heap[_]? = _ from h2) (by simp [encS_len]) ?_
    have hmem : rest[j] ∈ rest := List.getElem_mem hj
    have hLm := (hl rest[j].1 rest[j].2).1 (hsub _ hmem)
    obtain ⟨x, hx, hxu⟩ : ∃ x, D.at rest[j].1 = some x ∧ x.u = some rest[j].2 := by
      cases hx : D.at rest[j].1 with
      | none => rw [hx] at hLm; cases hLm
      | some x => rw [hx] at hLm; exact ⟨x, rfl, hLm⟩
    obtain ⟨q0, q1, q2⟩ := at_lt hx
    generalize hy : rest[j].2 = y at *
    generalize hk : rest[j].1 = key at *
    obtain ⟨n, rfl⟩ := Int.eq_ofNat_of_zero_le q0
    rw [Int.toNat_natCast] at q2
    have hg2 : ∀ g, v.ownBlock = some g → w2.heap[g]? = w.heap[g]? := fun g hgv => by
      obtain ⟨z1, z2, _⟩ := ownE_blk ho g hgv
      rw [hb2.block g (Nat.lt_of_lt_of_le z2 hc1.size), hc1.block g z2 (hg g hgv).1]
    have ho2 : ownE B 145 64 encS (drw w2) v S := ownE_stay ho hg2
    refine ia_stnE (j := .i64) (i := n) (y := y) encS_len encS_one ho2 (by rw [hS.1]; omega) fun w4 g hgv ho4 hu4 => ?_
    have hR2 : RangeAt kI (drw w2) r b (vL L) (vL (rest.eraseIdx j)) := by
      have := hR1.below hb2
      rw [← map_eraseIdx'] at this
      exact this
    have hR4 := hR2.stay (hu4.block b (fun e => (hg g hgv).2.2 e.symm)) (hu4.block r (fun e => (hg g hgv).1 e.symm))
    have hp4 : w4.heap[p]? = _ := (hu4.block p (fun e => (hg g hgv).2.1 e.symm)).trans hp2
    have hkeys : (rest.eraseIdx j).map (·.1) = (rest.map (·.1)).eraseIdx j := map_eraseIdx' _ _ _
    have hjk : (rest.map (·.1))[j]'(by simpa using hj) = (n : Int) := by rw [List.getElem_map]; exact hk
    try simp only [↓reduceIte, ↓LL, LM, Value.cells, Nat.reduceAdd, Option.some.injEq, exists_eq_left', decide_true, decide_false, if_true, if_false, reduceCtorEq, cond_true, cond_false]
    refine ih m (rest.eraseIdx j) w4 (S.set n y) (by rw [List.length_eraseIdx_of_lt hj]; omega) (by omega) (fun q hq => hsub q (List.mem_of_mem_eraseIdx hq)) (by rw [hkeys]; exact hnd.sublist (List.eraseIdx_sublist _ _)) hp4 ho4 ⟨by rw [List.length_set]; exact hS.1, fun i z hz => ?_⟩ hR4 hg fun w' hd' hc' => kk w' hd' ?_
    · rw [List.getElem?_set]
      split
      · rename_i e
        subst e
        rw [if_pos (by rw [hS.1]; omega)]
        rw [q2] at hz; cases hz
        have : ¬ ((n : Int) ∈ (rest.eraseIdx j).map (·.1)) := by
          rw [hkeys]
          intro hc
          obtain ⟨a, ha, hne, hae⟩ := List.mem_eraseIdx_iff_getElem.1 hc
          have e1 : (rest.map (·.1))[a]? = (rest.map (·.1))[j]? := by rw [List.getElem?_eq_getElem ha, List.getElem?_eq_getElem (by simpa using hj), hae, hjk]
          exact hne ((List.getElem?_inj ha hnd).1 e1)
        rw [if_neg this]
        unfold Sec.now; rw [hxu]; rfl
      · rename_i e
        rw [hS.2 i z hz]
        have : ((i : Int) ∈ (rest.eraseIdx j).map (·.1)) ↔ (i : Int) ∈ rest.map (·.1) := by
          rw [hkeys]
          constructor
          · exact List.mem_of_mem_eraseIdx
          · intro hc
            obtain ⟨a, ha, hae⟩ := List.mem_iff_getElem.1 hc
            refine List.mem_eraseIdx_iff_getElem.2 ⟨a, ha, ?_, hae⟩
            rintro rfl
            rw [hjk] at hae
            omega
        simp only [this]
    · have s1 : ChgS (fun k => fpD p v b k ∨ k = r) w w1 := ChgS.of_chg hc1 (.inr rfl)
      have s2 : ChgS (fun k => fpD p v b k ∨ k = r) w1 w2 := ChgS.of_below hb2
      have s4 : ChgS (fun k => fpD p v b k ∨ k = r) w2 w4 := (ChgS.refl _ w2).drw.trans (ChgS.of_upd hu4 (.inl (.inr (.inr hgv)))) (fun _ _ h => h)
      exact ((s1.trans s2 (fun _ _ h => h)).trans s4 (fun _ _ h => h)).trans hc' (fun _ _ h => h)
theorem f114_s (hd : DevAt B w p v b D) (h0 : 0 ≤ D.c) (h1 : D.c ≤ 1000000) (h : ∀ w', DevAt B w' p v b D.sync.2 → ChgS (fpD p v b) w w' → Q (.int .i64 D.sync.1) w') : f114 (pv p) w Q := by
  unfold f114
  simp only [↓reduceIte, ↓LL, LM, Value.cells, Nat.reduceAdd, Option.some.injEq, exists_eq_left', decide_true, decide_false, if_true, if_false, reduceCtorEq, cond_true, cond_false]
  refine f145_s hd h0 h1 fun w1 d1 hu1 => ?_
  have ch1 : ChgS (fpD p v b) w w1 := ChgS.of_upd hu1 (.inl rfl)
  by_cases ch : D.h < D.c + 1
  · simp only [↓reduceIte, ↓LL, LM, Value.cells, Nat.reduceAdd, Option.some.injEq, exists_eq_left', decide_true, decide_false, if_true, if_false, reduceCtorEq, cond_true, cond_false, ch, if_true]
    have e : D.sync = (9, D.tick) := by unfold Dv.sync; rw [if_pos ch]
    rw [e] at h
    exact h w1 d1 ch1
  have e : D.sync = (0, { D.tick with A := D.A.map fun x => ⟨x.now, none⟩ }) := by unfold Dv.sync; rw [if_neg ch]
  rw [e] at h
  have c1 := d1.c1
  simp only [↓reduceIte, ↓LL, LM, Value.cells, Nat.reduceAdd, Option.some.injEq, exists_eq_left', decide_true, decide_false, if_true, if_false, reduceCtorEq, cond_true, cond_false, ch, if_false, c1]
  obtain ⟨L, hm, hl⟩ := d1.mp
  refine range_map (kv := kI) KK hm fun w2 hR hb2 => ?_
  have d2 := d1.below hb2
  try simp only [↓reduceIte, ↓LL, LM, Value.cells, Nat.reduceAdd, Option.some.injEq, exists_eq_left', decide_true, decide_false, if_true, if_false, reduceCtorEq, cond_true, cond_false]
  have hrb : w1.heap.size ≠ b := by have := hm.lt; omega
  have hrp : w1.heap.size ≠ p := by have := d1.plt; omega
  have pb := d1.pb
  refine ⟨_, f114_loop (D := D.tick) (B := B) d1.n hl d1.pB d1.bB (Nat.le_trans d1.pB (Nat.le_of_lt d1.plt)) hrb pb hrp L.length (L.length + 1) L w2 (D.A.map (·.s)) rfl (by omega) (fun _ h => h) ?_ d2.hp d2.own ⟨by rw [List.length_map]; rfl, fun i x hx => ?_⟩ hR (fun g hg => ?_) fun w' hd' hc' => h w' hd' ?_⟩
  · have := hm.nodup
    rw [List.map_map] at this
    exact this
  · rw [List.getElem?_map, show D.A[i]? = some x from hx]
    split
    · rfl
    · rename_i c
      have hn : x.u = none := by
        cases hu : x.u with
        | none => rfl
        | some y =>
          exfalso
          apply c
          refine List.mem_map.2 ⟨((i : Int), y), (hl _ _).2 ?_, rfl⟩
          unfold Dv.at
          rw [if_pos (by omega), Int.toNat_natCast, show D.tick.A[i]? = some x from hx]
          exact hu
      simp [Sec.now, hn]
  · have := d1.gblk g hg
    have := hm.lt
    omega
  · refine ch1.trans ((ChgS.of_below hb2 : ChgS (fun k => fpD p v b k ∨ k = w1.heap.size) w1 w2).trans hc' (fun _ _ h => h) |>.mono' (T := fpD p v b) ?_) (fun _ _ h => h)
    rintro k hk (hf | rfl)
    · exact hf
    · omega
end
end Go.Proofs.YtongpnolikkknaaGreatDoor

set_option maxRecDepth 20000
set_option maxHeartbeats 4000000
namespace Go.Proofs.YtongpnolikkknaaGreatDoor
open Sh RowKit Go.MapKept
inductive De where
  | wr (i : Int) (s : ByteArray)
  | sy
def De.run : De → Dv → Int × Dv
  | .wr i s, D => D.wr i s
  | .sy, D => D.sync
/-- deeds, up to the first error -/
def runs : List De → Dv → Int × Dv
  | [], D => (0, D)
  | d :: l, D => if (d.run D).1 = 0 then runs l (d.run D).2 else d.run D
theorem sync_c (D : Dv) : D.sync.2.c = D.c + 1 := by
  unfold Dv.sync; split <;> rfl
theorem wr_c (D : Dv) (i : Int) (s : ByteArray) : (D.wr i s).2.c = D.c + 1 := by
  unfold Dv.wr
  split
  · rfl
  · split
    · rfl
    · split <;> rfl
theorem De.run_c (d : De) (D : Dv) : (d.run D).2.c = D.c + 1 := by
  cases d with
  | wr i s => exact wr_c D i s
  | sy => exact sync_c D
theorem runs_c : ∀ (l : List De) (D : Dv), D.c ≤ (runs l D).2.c ∧ (runs l D).2.c ≤ D.c + l.length
  | [], D => ⟨Int.le_refl _, by simp [runs]⟩
  | d :: l, D => by
    unfold runs
    have h1 := d.run_c D
    have h2 := runs_c l (d.run D).2
    rw [List.length_cons]
    split <;> omega
/-- a deed in memory -/
def dR (B : Nat) (w : World) (q p : Nat) (x : Value) : De → Prop
  | .wr i s => ∃ a b c, x = .func (.func 149) #[] #[pv a, pv b, pv c] ∧ B ≤ a ∧ B ≤ b ∧ B ≤ c ∧ w.heap[a]? = some (.cells #[pv q] 40 (0, 0)) ∧ w.heap[b]? = some (.cells #[.int .i64 i] 3 (0, 0)) ∧ w.heap[c]? = some (.cells #[.string s] 9 (0, 0))
  | .sy => x = .func (.func 114) #[pv p] #[]
def dRs (B : Nat) (w : World) (q p : Nat) : List Value → List De → Prop
  | [], [] => True
  | x :: xs, d :: ds => dR B w q p x d ∧ dRs B w q p xs ds
  | _, _ => False
theorem dR_one {B : Nat} {w : World} {q p : Nat} {x : Value} {d : De} (h : dR B w q p x d) : x.oneCell' = true ∧ x.cells = #[x] := by
  cases d with
  | wr i s => obtain ⟨a, b, c, rfl, _⟩ := h; exact ⟨rfl, rfl⟩
  | sy => obtain rfl : x = _ := h; exact ⟨rfl, rfl⟩
/-- what a change leaves of it -/
theorem dR_chg {B : Nat} {S : Nat → Prop} {w w' : World} {q p : Nat} {x : Value} {d : De} (h : dR B w q p x d) (hc : ChgS S w w')
    (hS : ∀ g cur e, B ≤ g → w.heap[g]? = some (.cells cur e (0, 0)) → (e = 40 ∨ e = 3 ∨ e = 9) → ¬ S g) : dR B w' q p x d := by
  cases d with
  | wr i s =>
    obtain ⟨a, b, c, rfl, h1, h2, h3, k1, k2, k3⟩ := h
    exact ⟨a, b, c, rfl, h1, h2, h3, hc.keep k1 (hS _ _ _ h1 k1 (.inl rfl)), hc.keep k2 (hS _ _ _ h2 k2 (.inr (.inl rfl))), hc.keep k3 (hS _ _ _ h3 k3 (.inr (.inr rfl)))⟩
  | sy => exact h
theorem dR_weak {B B' : Nat} {w : World} {q p : Nat} {x : Value} {d : De} (h : dR B w q p x d) (hB : B' ≤ B) : dR B' w q p x d := by
  cases d with
  | wr i s =>
    obtain ⟨a, b, c, rfl, h1, h2, h3, k⟩ := h
    exact ⟨a, b, c, rfl, Nat.le_trans hB h1, Nat.le_trans hB h2, Nat.le_trans hB h3, k⟩
  | sy => exact h
theorem dRs_imp {B B' : Nat} {w w' : World} {q p : Nat} : ∀ {xs : List Value} {ds : List De}, dRs B w q p xs ds → (∀ x d, dR B w q p x d → dR B' w' q p x d) → dRs B' w' q p xs ds
  | [], [], _, _ => trivial
  | x :: xs, d :: ds, h, k => ⟨k x d h.1, dRs_imp h.2 k⟩
theorem dRs_app {B : Nat} {w : World} {q p : Nat} : ∀ {xs ys : List Value} {ds es : List De}, dRs B w q p xs ds → dRs B w q p ys es → dRs B w q p (xs ++ ys) (ds ++ es)
  | [], _, [], _, _, h => h
  | x :: xs, ys, d :: ds, es, h, k => ⟨h.1, dRs_app h.2 k⟩
theorem dRs_len {B : Nat} {w : World} {q p : Nat} : ∀ {xs : List Value} {ds : List De}, dRs B w q p xs ds → xs.length = ds.length
  | [], [], _ => rfl
  | x :: xs, d :: ds, h => by rw [List.length_cons, List.length_cons, dRs_len h.2]
theorem dRs_get {B : Nat} {w : World} {q p : Nat} : ∀ {xs : List Value} {ds : List De}, dRs B w q p xs ds → ∀ i (h1 : i < xs.length) (h2 : i < ds.length), dR B w q p xs[i] ds[i]
  | x :: xs, d :: ds, h, 0, _, _ => h.1
  | x :: xs, d :: ds, h, i + 1, h1, h2 => dRs_get h.2 i (by simpa using h1) (by simpa using h2)
theorem dRs_one {B : Nat} {w : World} {q p : Nat} : ∀ {xs : List Value} {ds : List De}, dRs B w q p xs ds → ∀ x ∈ xs, x.oneCell' = true
  | [], [], _, x, hx => by simp at hx
  | y :: xs, d :: ds, h, x, hx => by
    rcases List.mem_cons.1 hx with rfl | hx
    · exact (dR_one h.1).1
    · exact dRs_one h.2 x hx
theorem slD : slT Tryz.prog 138 165 (.nilFunc) 1 8 := ⟨by kernel_rfl, by kernel_rfl⟩
end Go.Proofs.YtongpnolikkknaaGreatDoor

set_option maxRecDepth 20000
set_option maxHeartbeats 4000000
namespace Go.Proofs.YtongpnolikkknaaGreatDoor
open Sh RowKit Go.MapKept
/-- a row of deeds, the call's own -/
def DsAt (B C : Nat) (w : World) (q p : Nat) (v : Value) (ds : List De) : Prop := ∃ xs, ownV B 165 w v xs ∧ dRs C w q p xs ds
/-- a function that gives a sector's number -/
def Plc (w : World) (f : Value) (g : Nat → Int) : Prop := ∀ w1, Below w.heap.size w w1 → ∀ j, j < 4 → ∀ (K : Value → M) (Q : Value → World → Prop), K (.int .i64 (g j)) w1 Q → cf Tryz.prog f #[.int .i64 ((j : Nat) : Int)] K w1 Q
def pageD (g : Nat → Int) (s : ByteArray) : List De := if s.size = 256 then (List.range 4).map fun j => .wr (g j) (chunk s j) else []
def rdL (D : Dv) (g : Nat → Int) (n : Nat) : List ByteArray := (List.range n).map fun j => D.rd (g j)
def markD (b : Bool) : List De := [.wr 0 (markB b).1, .sy]
section
variable {B C : Nat} {W w w' : World} {p q b : Nat} {v : Value} {D : Dv} {Q : Value → World → Prop}
theorem Plc.mono {f : Value} {g : Nat → Int} (h : Plc w f g) (hb : Below w.heap.size w w') : Plc w' f g := fun w1 h1 => h w1 (bt hb h1)
theorem DsAt_nil : DsAt B C w q p (.slice none 0 0) [] := ⟨[], ownV_nil, trivial⟩
theorem dRs_below {xs : List Value} {ds : List De} (h : dRs C w q p xs ds) (hb : Below w.heap.size w w') : dRs C w' q p xs ds :=
  dRs_imp h fun x d hx => by
    cases d with
    | wr i s =>
      obtain ⟨a, b, c, rfl, h1, h2, h3, k1, k2, k3⟩ := hx
      exact ⟨a, b, c, rfl, h1, h2, h3, stay hb k1, stay hb k2, stay hb k3⟩
    | sy => exact hx
theorem DsAt.below {ds : List De} (h : DsAt B C w q p v ds) (hb : Below w.heap.size w w') : DsAt B C w' q p v ds := by
  obtain ⟨xs, h1, h2⟩ := h
  exact ⟨xs, ownV_below h1 hb, dRs_below h2 hb⟩
theorem f119_s {i : Int} {s : ByteArray} (kk : ∀ w' x, Below w.heap.size w w' → dR w.heap.size w' q p x (.wr i s) → Q x w') : f119 (pv q) (.int .i64 i) (.string s) w Q := by
  unfold f119
  have b1 := b_psh w (.cells #[pv q] 40)
  have k1 := blk_psh_new (w := w) (o := .cells #[pv q] 40)
  have z1 : (psh w (.cells #[pv q] 40)).heap.size = w.heap.size + 1 := size_psh
  try simp only [↓reduceIte, ↓LL, LM, Value.cells, Nat.reduceAdd, Option.some.injEq, exists_eq_left', decide_true, decide_false, if_true, if_false, reduceCtorEq, cond_true, cond_false]
  generalize psh w (.cells #[pv q] 40) = w1 at *
  have b2 := b_psh w1 (.cells #[.int .i64 i] 3)
  have k2 := blk_psh_new (w := w1) (o := .cells #[.int .i64 i] 3)
  have z2 : (psh w1 (.cells #[.int .i64 i] 3)).heap.size = w1.heap.size + 1 := size_psh
  generalize psh w1 (.cells #[.int .i64 i] 3) = w2 at *
  have b3 := b_psh w2 (.cells #[.string s] 9)
  have k3 := blk_psh_new (w := w2) (o := .cells #[.string s] 9)
  generalize psh w2 (.cells #[.string s] 9) = w3 at *
  have k2 := stay b3 k2
  have k1 := stay (bt b2 b3) k1
  exact kk _ _ (bt b1 (bt b2 b3)) ⟨_, _, _, rfl, Nat.le_refl _, by omega, by omega, k1, k2, k3⟩
/-- one deed more -/
theorem ap_d {x : Value} {ds : List De} {d : De} {K : Value → M} (h : DsAt B C w q p v ds) (hx : dR C w q p x d) (hl : ds.length ≤ 100000) (hB : B ≤ w.heap.size)
    (kk : ∀ w' v', Below B w w' → DsAt B C w' q p v' (ds ++ [d]) → ChgS (fun k => v.ownBlock = some k) w w' → (∀ g, v'.ownBlock = some g → v.ownBlock = some g ∨ w.heap.size ≤ g) → K v' w' Q) :
    sm Tryz.prog (Instr.buildSlice 138 1 #[(0, x)]) (fun u => sm Tryz.prog (Builtin.append_ #[138, 138] 138 #[v, u]) K) w Q := by
  obtain ⟨xs, h1, h2⟩ := h
  obtain ⟨o1, o2⟩ := dR_one hx
  have hxl := dRs_len h2
  refine ap_V slD rfl o1 o2 h1 (by unfold maxLen; omega) (by omega) hB fun v' w' ho hf hsz hos hown => ?_
  have hc : ChgS (fun k => v.ownBlock = some k) w w' := ⟨hos.1, hos.2.1, hos.2.2, hsz, fun k hk hn => hf k hk hn⟩
  have hS : ∀ g cur e, C ≤ g → w.heap[g]? = some (.cells cur e (0, 0)) → (e = 40 ∨ e = 3 ∨ e = 9) → ¬ v.ownBlock = some g := by
    intro g cur e _ hg he hn
    obtain ⟨_, _, cur', hc'⟩ := ownV_lt h1 g hn
    rw [hc'] at hg
    cases hg
    rcases he with he | he | he <;> revert he <;> decide
  refine kk w' v' (hc.below (fun k hk => (ownV_lt h1 k hk).1) hB) ⟨xs ++ [x], ho, dRs_app (dRs_imp h2 fun y d' hy => dR_chg hy hc hS) ⟨dR_chg hx hc hS, trivial⟩⟩ hc hown
/-- deeds behind deeds -/
theorem ap_ds {u : Value} {B2 : Nat} {ds es : List De} {K : Value → M} (h : DsAt B C w q p v ds) (h2 : DsAt B2 C w q p u es) (hl : ds.length + es.length ≤ 100000) (hB : B ≤ w.heap.size)
    (kk : ∀ w' v', Below B w w' → DsAt B C w' q p v' (ds ++ es) → ChgS (fun k => v.ownBlock = some k) w w' → (∀ g, v'.ownBlock = some g → v.ownBlock = some g ∨ w.heap.size ≤ g) → K v' w' Q) :
    sm Tryz.prog (Builtin.append_ #[138, 138] 138 #[v, u]) K w Q := by
  obtain ⟨xs, h1, h2x⟩ := h
  obtain ⟨ys, k1, k2⟩ := h2
  have hxl := dRs_len h2x
  have hyl := dRs_len k2
  obtain ⟨i, g1, g2, g3, g4, g5⟩ := slT_info slD
  have hS : ∀ g cur e, C ≤ g → w.heap[g]? = some (.cells cur e (0, 0)) → (e = 40 ∨ e = 3 ∨ e = 9) → ¬ v.ownBlock = some g := by
    intro g cur e _ hg he hn
    obtain ⟨_, _, cur', hc'⟩ := ownV_lt h1 g hn
    rw [hc'] at hg
    cases hg
    rcases he with he | he | he <;> revert he <;> decide
  rcases ownV_cases k1 with ⟨rfl, rfl⟩ | ⟨g, cap, cur, rfl, hg, hbk, hn, hm, hs, ht⟩
  · have e0 : es = [] := List.length_eq_zero_iff.1 hyl.symm
    subst e0
    refine ⟨v, w, run_append_owned_none w B 138 138 165 i 1 g1 g2 v xs.length xs h1, kk w v ⟨rfl, rfl, rfl, Nat.le_refl _, fun _ _ => rfl⟩ ?_ (ChgS.refl _ w) (fun g hg => .inl hg)⟩
    rw [List.append_nil]
    exact ⟨xs, h1, h2x⟩
  · obtain ⟨v', w', hrun, ho', hg', _, hf⟩ := run_append_own_at (P := Tryz.prog) w B 138 138 165 i _ 1 8 g1 g2 g3 g4 g5 rfl (by decide) v xs.length xs h1 ⟨g, 0, none⟩ ys.length cap ys (by simp) (by
        intro j u hj
        rw [add_lit, Nat.zero_add, cell_of_blk hbk]
        have hlt : j < ys.length := by
          rcases Nat.lt_or_ge j ys.length with c | c
          · exact c
          · rw [List.getElem?_eq_none c] at hj; cases hj
        have e3 : (cur.toList.take ys.length)[j]? = ys[j]? := by rw [ht]
        rw [List.getElem?_take_of_lt hlt, hj] at e3
        simpa using e3) (fun x hx => dRs_one k2 x hx) (by unfold maxLen; omega) (by omega) hB
    have hc : ChgS (fun k => v.ownBlock = some k) w w' := ChgS.grown hg' fun k hk => hk
    refine ⟨v', w', hrun, kk w' v' (hc.below (fun k hk => (ownV_lt h1 k hk).1) hB) ⟨xs ++ ys, ?_, dRs_app (dRs_imp h2x fun y d' hy => dR_chg hy hc hS) (dRs_imp k2 fun y d' hy => dR_chg hy hc hS)⟩ hc (fun g hg => ?_)⟩
    · unfold ownV; rw [List.length_append]; exact ho'
    · rcases hf with hf | hf
      · left; rw [← hf]; exact hg
      · right; rw [hf] at hg; cases hg; omega
end
end Go.Proofs.YtongpnolikkknaaGreatDoor

set_option maxRecDepth 20000
set_option maxHeartbeats 4000000
namespace Go.Proofs.YtongpnolikkknaaGreatDoor
open Sh RowKit Go.MapKept
theorem enW : ∀ args w, (callFunc 149 args).run Tryz.prog w = .ok (.enter 149 args) w := enters_of Tryz.func149 (by kernel_rfl) rfl
theorem enS : ∀ args w, (callFunc 114 args).run Tryz.prog w = .ok (.enter 114 args) w := enters_of Tryz.func114 (by kernel_rfl) rfl
def pageT (g : Nat → Int) (s : ByteArray) (n : Nat) : List De := (List.range n).map fun j => .wr (g j) (chunk s j)
theorem pageT_succ (g : Nat → Int) (s : ByteArray) (n : Nat) : pageT g s (n + 1) = pageT g s n ++ [.wr (g n) (chunk s n)] := by
  unfold pageT; rw [List.range_succ, List.map_append]; rfl
theorem pageT_len (g : Nat → Int) (s : ByteArray) (n : Nat) : (pageT g s n).length = n := by unfold pageT; simp
theorem rdL_succ (D : Dv) (g : Nat → Int) (n : Nat) : rdL D g (n + 1) = rdL D g n ++ [D.rd (g n)] := by
  unfold rdL; rw [List.range_succ, List.map_append]; rfl
theorem rdL_len (D : Dv) (g : Nat → Int) (n : Nat) : (rdL D g n).length = n := by unfold rdL; simp
theorem cutL_get {s : ByteArray} {n i : Nat} (h : i < (cutL s n).length) : (cutL s n)[i] = chunk s i := by
  have e : (cutL s n)[i]? = some (chunk s i) := by
    have : i < n := by rwa [cutL_len] at h
    unfold cutL
    rw [List.getElem?_map, List.getElem?_range this]; rfl
  rw [List.getElem?_eq_getElem h] at e
  exact Option.some.inj e
theorem ownV_weak {B B' : Nat} {e : TypeId} {w : World} {v : Value} {xs : List Value} (h : ownV B e w v xs) (hB : B' ≤ B) : ownV B' e w v xs := by
  rcases ownV_cases h with ⟨rfl, rfl⟩ | ⟨g, cap, cur, rfl, hg, hb, hn, hm, hs, ht⟩
  · exact ownV_nil
  · exact ownV_mk (Nat.le_trans hB hg) hb hn hm hs ht
theorem litD (a b c p : Nat) (w : World) : (Instr.buildSlice 138 2 #[(0, .func (.func 149) #[] #[pv a, pv b, pv c]), (1, .func (.func 114) #[pv p] #[])]).run Tryz.prog w = .ok (.slice (some ⟨w.heap.size, 0, none⟩) 2 2) (psh w (.cells #[.func (.func 149) #[] #[pv a, pv b, pv c], .func (.func 114) #[pv p] #[]] 165)) := by
  kernel_rfl
section
variable {B C : Nat} {W w w' : World} {p q b : Nat} {v : Value} {D : Dv} {Q : Value → World → Prop}
theorem page_loop {f u : Value} {g : Nat → Int} {s : ByteArray} (hf : Plc W f g) (hu : rdT W u (cutL s 4)) (hs : s.size = 256) : ∀ (d m i : Nat) (w : World) (v : Value), i + d = 4 → d < m → Below W.heap.size W w → DsAt W.heap.size W.heap.size w q p v (pageT g s i) →
    (∀ w' v', Below W.heap.size W w' → DsAt W.heap.size W.heap.size w' q p v' (pageT g s 4) → Q v' w') →
    itr (fun _ _ _ _ _ _ => bot) (f112_b2 f112_j1) m (pv q) f v u (.int .i64 4) (.int .i64 ((i : Nat) : Int)) w Q := by
  intro d
  induction d with
  | zero =>
    intro m i w v hi hm hb ho kk
    obtain ⟨m, rfl⟩ : ∃ x, m = x + 1 := ⟨m - 1, by omega⟩
    show f112_b2 f112_j1 _ _ _ _ _ _ _ w Q
    unfold f112_b2
    have hi4 : i = 4 := by omega
    subst hi4
    have c : ¬ ((4 : Nat) : Int) < 4 := by decide
    try simp only [↓reduceIte, ↓LL, LM, Value.cells, Nat.reduceAdd, Option.some.injEq, exists_eq_left', decide_true, decide_false, if_true, if_false, reduceCtorEq, cond_true, cond_false, c]
    unfold f112_j1
    try simp only [↓reduceIte, ↓LL, LM, Value.cells, Nat.reduceAdd, Option.some.injEq, exists_eq_left', decide_true, decide_false, if_true, if_false, reduceCtorEq, cond_true, cond_false]
    exact kk w v hb ho
  | succ d ih =>
    intro m i w v hi hm hb ho kk
    obtain ⟨m, rfl⟩ : ∃ x, m = x + 1 := ⟨m - 1, by omega⟩
    show f112_b2 f112_j1 _ _ _ _ _ _ _ w Q
    unfold f112_b2
    have c : (i : Int) < 4 := by omega
    have hil : i < (cutL s 4).length := by rw [cutL_len]; omega
    obtain ⟨ax, cx, hax⟩ := ld_t hu hil
    have qx := cx _ hb
    have ex : (cutL s 4)[i] = chunk s i := cutL_get hil
    rw [ex] at qx
    have h3 : IntKind.i64.wrap ((i : Int) + 1) = ((i + 1 : Nat) : Int) := by rw [w64 (by omega) (by omega)]; rfl
    try simp only [↓reduceIte, ↓LL, LM, Value.cells, Nat.reduceAdd, Option.some.injEq, exists_eq_left', decide_true, decide_false, if_true, if_false, reduceCtorEq, cond_true, cond_false, c, hax, qx]
    refine hf w hb i (by omega) _ _ ?_
    try simp only [↓reduceIte, ↓LL, LM, Value.cells, Nat.reduceAdd, Option.some.injEq, exists_eq_left', decide_true, decide_false, if_true, if_false, reduceCtorEq, cond_true, cond_false]
    refine f119_s (p := p) fun w1 x b1 hx => ?_
    have hx := dR_weak hx hb.size
    try simp only [↓reduceIte, ↓LL, LM, Value.cells, Nat.reduceAdd, Option.some.injEq, exists_eq_left', decide_true, decide_false, if_true, if_false, reduceCtorEq, cond_true, cond_false]
    refine ap_d (ho.below b1) hx (by rw [pageT_len]; omega) (bt hb b1).size fun w2 v2 b2 o2 _ _ => ?_
    have b2 := (bt hb b1).trans b2
    try simp only [↓reduceIte, ↓LL, LM, Value.cells, Nat.reduceAdd, Option.some.injEq, exists_eq_left', decide_true, decide_false, if_true, if_false, reduceCtorEq, cond_true, cond_false, h3]
    rw [← pageT_succ] at o2
    exact ih m (i + 1) w2 v2 (by omega) (by omega) b2 o2 kk
theorem f112_s {f : Value} {g : Nat → Int} {s : ByteArray} (hf : Plc w f g) (kk : ∀ w' v', Below w.heap.size w w' → DsAt w.heap.size w.heap.size w' q p v' (pageD g s) → Q v' w') : f112 (pv q) f (.string s) w Q := by
  unfold f112
  try simp only [↓reduceIte, ↓LL, LM, Value.cells, Nat.reduceAdd, Option.some.injEq, exists_eq_left', decide_true, decide_false, if_true, if_false, reduceCtorEq, cond_true, cond_false]
  refine f144_s (fun hs => ?_) (fun hs w1 u b1 o1 => ?_)
  · try simp only [↓reduceIte, ↓LL, LM, Value.cells, Nat.reduceAdd, Option.some.injEq, exists_eq_left', decide_true, decide_false, if_true, if_false, reduceCtorEq, cond_true, cond_false, get0, get1]
    have e : pageD g s = [] := by unfold pageD; rw [if_neg hs]
    rw [e] at kk
    refine ⟨1, ?_⟩
    show f112_b2 f112_j1 _ _ _ _ _ _ _ w Q
    unfold f112_b2
    have c : ¬ ((0 : Nat) : Int) < ((0 : Nat) : Int) := by decide
    try simp only [↓reduceIte, ↓LL, LM, Value.cells, Nat.reduceAdd, Option.some.injEq, exists_eq_left', decide_true, decide_false, if_true, if_false, reduceCtorEq, cond_true, cond_false, c]
    unfold f112_j1
    try simp only [↓reduceIte, ↓LL, LM, Value.cells, Nat.reduceAdd, Option.some.injEq, exists_eq_left', decide_true, decide_false, if_true, if_false, reduceCtorEq, cond_true, cond_false]
    exact kk w _ (Below.refl _ _) DsAt_nil
  · have r1 := rdT_own o1
    try simp only [↓reduceIte, ↓LL, LM, Value.cells, Nat.reduceAdd, Option.some.injEq, exists_eq_left', decide_true, decide_false, if_true, if_false, reduceCtorEq, cond_true, cond_false, get0, get1]
    rw [lnl_T r1, cutL_len]
    try simp only [↓reduceIte, ↓LL, LM, Value.cells, Nat.reduceAdd, Option.some.injEq, exists_eq_left', decide_true, decide_false, if_true, if_false, reduceCtorEq, cond_true, cond_false]
    have e : pageD g s = pageT g s 4 := by unfold pageD; rw [if_pos hs]; rfl
    rw [e] at kk
    refine ⟨5, page_loop (W := w1) (p := p) (hf.mono b1) r1 hs 4 5 0 w1 _ (by omega) (by omega) (Below.refl _ _) DsAt_nil fun w2 v2 b2 o2 => ?_⟩
    refine kk w2 v2 (bt b1 b2) ?_
    obtain ⟨xs, h1, h2⟩ := o2
    exact ⟨xs, ownV_weak h1 b1.size, dRs_imp h2 fun x d hx => dR_weak hx b1.size⟩
theorem f115_s {y : Bool} (hq : w.cell? ⟨q, 0, none⟩ = some (pv p)) (kk : ∀ w' v', Below w.heap.size w w' → DsAt w.heap.size w.heap.size w' q p v' (markD y) → Q v' w') : f115 (pv q) (.bool y) w Q := by
  unfold f115
  try simp only [↓reduceIte, ↓LL, LM, Value.cells, Nat.reduceAdd, Option.some.injEq, exists_eq_left', decide_true, decide_false, if_true, if_false, reduceCtorEq, cond_true, cond_false, hq]
  refine f146_s fun w1 b1 => ?_
  have b1 := of_drw' b1
  have hq1 : w1.cell? ⟨q, 0, none⟩ = some (pv p) := cell_below b1 hq
  try simp only [↓reduceIte, ↓LL, LM, Value.cells, Nat.reduceAdd, Option.some.injEq, exists_eq_left', decide_true, decide_false, if_true, if_false, reduceCtorEq, cond_true, cond_false]
  refine ⟨by rw [Kld_e]; exact hq1, ?_⟩
  refine f119_s (p := p) fun w2 x b2 hx => ?_
  have hq2 : w2.cell? ⟨q, 0, none⟩ = some (pv p) := cell_below b2 hq1
  have hx0 := hx
  obtain ⟨a, b, c, rfl, _⟩ := hx
  try simp only [↓reduceIte, ↓LL, LM, Value.cells, Nat.reduceAdd, Option.some.injEq, exists_eq_left', decide_true, decide_false, if_true, if_false, reduceCtorEq, cond_true, cond_false]
  refine ⟨by rw [Kld_e]; exact hq2, ?_⟩
  refine ⟨_, _, litD a b c p w2, ?_⟩
  have b3 := b_psh w2 (.cells #[.func (.func 149) #[] #[pv a, pv b, pv c], .func (.func 114) #[pv p] #[]] 165)
  have k3 := blk_psh_new (w := w2) (o := .cells #[.func (.func 149) #[] #[pv a, pv b, pv c], .func (.func 114) #[pv p] #[]] 165)
  have b12 := bt b1 b2
  refine kk _ _ (bt b12 b3) ⟨[_, _], ownV_mk (xs := [_, _]) b12.size k3 (Nat.le_refl 2) (by unfold maxLen; decide) rfl rfl, dR_weak (dR_chg hx0 (ChgS.of_below b3 (S := fun _ => False)) fun _ _ _ _ _ _ h => h) b1.size, rfl, trivial⟩
theorem join_loop {f : Value} {g : Nat → Int} (hd : DevAt B W p v b D) (hq : W.cell? ⟨q, 0, none⟩ = some (pv p)) (hf : Plc W f g) {j1 : Value → M} : ∀ (d m i : Nat) (w : World) (u : Value), i + d = 4 → d < m → Below W.heap.size W w → ownV W.heap.size 9 w u ((rdL D g i).map .string) →
    (∀ w' u', Below W.heap.size W w' → ownV W.heap.size 9 w' u' ((rdL D g 4).map .string) → j1 u' w' Q) →
    itr (fun _ _ _ _ => bot) (f83_b2 j1) m (pv q) f u (.int .i64 ((i : Nat) : Int)) w Q := by
  intro d
  induction d with
  | zero =>
    intro m i w u hi hm hb ho kk
    obtain ⟨m, rfl⟩ : ∃ x, m = x + 1 := ⟨m - 1, by omega⟩
    show f83_b2 j1 _ _ _ _ _ w Q
    unfold f83_b2
    have hi4 : i = 4 := by omega
    subst hi4
    have c : ¬ ((4 : Nat) : Int) < 4 := by decide
    try simp only [↓reduceIte, ↓LL, LM, Value.cells, Nat.reduceAdd, Option.some.injEq, exists_eq_left', decide_true, decide_false, if_true, if_false, reduceCtorEq, cond_true, cond_false, c]
    exact kk w u hb ho
  | succ d ih =>
    intro m i w u hi hm hb ho kk
    obtain ⟨m, rfl⟩ : ∃ x, m = x + 1 := ⟨m - 1, by omega⟩
    show f83_b2 j1 _ _ _ _ _ w Q
    unfold f83_b2
    have c : (i : Int) < 4 := by omega
    have bd : Below w.heap.size w (drw w) := ⟨rfl, rfl, rfl, Nat.le_refl _, fun _ _ => rfl⟩
    have hbd := bt hb bd
    have hqd : (drw w).cell? ⟨q, 0, none⟩ = some (pv p) := cell_below hbd hq
    have h3 : IntKind.i64.wrap ((i : Int) + 1) = ((i + 1 : Nat) : Int) := by rw [w64 (by omega) (by omega)]; rfl
    try simp only [↓reduceIte, ↓LL, LM, Value.cells, Nat.reduceAdd, Option.some.injEq, exists_eq_left', decide_true, decide_false, if_true, if_false, reduceCtorEq, cond_true, cond_false, c, hqd]
    refine hf (drw w) hbd i (by omega) _ _ ?_
    try simp only [↓reduceIte, ↓LL, LM, Value.cells, Nat.reduceAdd, Option.some.injEq, exists_eq_left', decide_true, decide_false, if_true, if_false, reduceCtorEq, cond_true, cond_false]
    refine ⟨by rw [Kld_e]; exact hqd, ?_⟩
    refine f86_s ((hd.below hbd)) (g i) fun w1 b1 => ?_
    have hb1 := bt hbd b1
    try simp only [↓reduceIte, ↓LL, LM, Value.cells, Nat.reduceAdd, Option.some.injEq, exists_eq_left', decide_true, decide_false, if_true, if_false, reduceCtorEq, cond_true, cond_false]
    have ho1 := ownV_below ho (bt bd b1)
    refine ap_T ho1 hb1 (by rw [rdL_len]; omega) fun w2 u2 o2 b2 => ?_
    rw [← rdL_succ] at o2
    try simp only [↓reduceIte, ↓LL, LM, Value.cells, Nat.reduceAdd, Option.some.injEq, exists_eq_left', decide_true, decide_false, if_true, if_false, reduceCtorEq, cond_true, cond_false, h3]
    exact ih m (i + 1) w2 u2 (by omega) (by omega) b2 o2 kk
theorem f83_s {f : Value} {g : Nat → Int} (hd : DevAt B w p v b D) (hq : w.cell? ⟨q, 0, none⟩ = some (pv p)) (hf : Plc w f g) (kk : ∀ w', Below w.heap.size w w' → Q (.string (joinB (rdL D g 4)).1) w') : f83 (pv q) f w Q := by
  unfold f83
  try simp only [↓reduceIte, ↓LL, LM, Value.cells, Nat.reduceAdd, Option.some.injEq, exists_eq_left', decide_true, decide_false, if_true, if_false, reduceCtorEq, cond_true, cond_false]
  refine ⟨5, join_loop (W := w) hd hq hf 4 5 0 w _ (by omega) (by omega) (Below.refl _ _) ownV_nil fun w1 u1 b1 o1 => ?_⟩
  unfold f83_j1
  try simp only [↓reduceIte, ↓LL, LM, Value.cells, Nat.reduceAdd, Option.some.injEq, exists_eq_left', decide_true, decide_false, if_true, if_false, reduceCtorEq, cond_true, cond_false]
  refine f108_s (rdT_own o1) (by rw [rdL_len]; decide) fun w2 b2 => ?_
  try simp only [↓reduceIte, ↓LL, LM, Value.cells, Nat.reduceAdd, Option.some.injEq, exists_eq_left', decide_true, decide_false, if_true, if_false, reduceCtorEq, cond_true, cond_false, get0, get1]
  exact kk w2 (bt b1 b2)
end
end Go.Proofs.YtongpnolikkknaaGreatDoor

set_option maxRecDepth 20000
set_option maxHeartbeats 4000000
namespace Go.Proofs.YtongpnolikkknaaGreatDoor
open Sh RowKit Go.MapKept
section
variable {B C : Nat} {W w w' : World} {p q b : Nat} {v : Value} {D : Dv} {Q : Value → World → Prop}
/-- no block of a device -/
theorem dev_ne (hd : DevAt B w p v b D) {g : Nat} {cur : Array Value} {e : TypeId} {fr : Nat × Nat} (hg : w.heap[g]? = some (.cells cur e fr)) (h1 : e ≠ 130) (h2 : e ≠ 145) : ¬ fpD p v b g := by
  rintro (rfl | rfl | hk)
  · rw [hd.hp] at hg; cases hg; exact h1 rfl
  · obtain ⟨L, ⟨es, clock, hm, _⟩, _⟩ := hd.mp
    rw [hm] at hg; cases hg
  · obtain ⟨_, _, cur', hc⟩ := ownE_blk hd.own g hk
    rw [hc] at hg; cases hg; exact h2 rfl
theorem dR_dev (hd : DevAt B w p v b D) {x : Value} {d : De} (h : dR C w q p x d) (hc : ChgS (fpD p v b) w w') : dR C w' q p x d :=
  dR_chg h hc fun g cur e _ hg he => dev_ne hd hg (by rcases he with rfl | rfl | rfl <;> decide) (by rcases he with rfl | rfl | rfl <;> decide)
theorem pg_dev (hd : DevAt B w p v b D) {cur : Array Value} {fr : Nat × Nat} (hq : w.heap[q]? = some (.cells cur 133 fr)) (hc : ChgS (fpD p v b) w w') : w'.heap[q]? = some (.cells cur 133 fr) :=
  hc.keep hq (dev_ne hd hq (by decide) (by decide))
theorem own_dev {e : TypeId} {u : Value} {xs : List Value} (hd : DevAt B w p v b D) (h : ownV C e w u xs) (h1 : e ≠ 130) (h2 : e ≠ 145) (hc : ChgS (fpD p v b) w w') : ownV C e w' u xs :=
  ownV_stay h fun g hg => by
    obtain ⟨_, hl, cur, hcur⟩ := ownV_lt h g hg
    rw [hcur]; exact hc.keep hcur (dev_ne hd hcur h1 h2)
/-- one deed -/
theorem deed_s {x : Value} {d : De} {K : Value → M} {cur : Array Value} (hd : DevAt B w p v b D) (h0 : 0 ≤ D.c) (h1 : D.c ≤ 1000000) (hq : w.heap[q]? = some (.cells cur 133 (0, 0))) (hq0 : cur[0]? = some (pv p)) (hx : dR C w q p x d)
    (kk : ∀ w', DevAt B w' p v b (d.run D).2 → ChgS (fpD p v b) w w' → K (.int .i64 (d.run D).1) w' Q) : cf Tryz.prog x #[] K w Q := by
  cases d with
  | wr i s =>
    obtain ⟨a, b', c, rfl, _, _, _, k1, k2, k3⟩ := hx
    refine cf_p enW ?_
    refine s149 (pv a) (pv b') (pv c) w _ ?_
    unfold f149
    have c1 : (drw w).cell? ⟨a, 0, none⟩ = some (pv q) := by rw [cell_of_blk (show (drw w).heap[a]? = _ from k1)]; rfl
    have c2 : (drw w).cell? ⟨b', 0, none⟩ = some (.int .i64 i) := by rw [cell_of_blk (show (drw w).heap[b']? = _ from k2)]; rfl
    have c3 : (drw w).cell? ⟨c, 0, none⟩ = some (.string s) := by rw [cell_of_blk (show (drw w).heap[c]? = _ from k3)]; rfl
    have c4 : (drw w).cell? ⟨q, 0, none⟩ = some (pv p) := by rw [cell_of_blk (show (drw w).heap[q]? = _ from hq)]; exact hq0
    try simp only [↓reduceIte, ↓LL, LM, Value.cells, Nat.reduceAdd, Option.some.injEq, exists_eq_left', decide_true, decide_false, if_true, if_false, reduceCtorEq, cond_true, cond_false, c1, c2, c3, c4]
    refine f150_s hd.drw h0 h1 i s fun w1 d1 hc1 => ?_
    try simp only [↓reduceIte, ↓LL, LM, Value.cells, Nat.reduceAdd, Option.some.injEq, exists_eq_left', decide_true, decide_false, if_true, if_false, reduceCtorEq, cond_true, cond_false]
    exact kk w1 d1 hc1.of_drw
  | sy =>
    obtain rfl : x = _ := hx
    refine cf_p enS ?_
    refine s114 (pv p) w _ ?_
    exact f114_s hd h0 h1 fun w1 d1 hc1 => kk w1 d1 hc1
theorem all_loop {u : Value} {xs : List Value} {ds : List De} {cur : Array Value} (hd0 : DevAt B W p v b D) (hq : W.heap[q]? = some (.cells cur 133 (0, 0))) (hq0 : cur[0]? = some (pv p)) (ho : ownV C 165 W u xs) (hx : dRs C W q p xs ds) (hl : ds.length ≤ 100000) : ∀ (d m i : Nat) (w : World) (Dk : Dv), i + d = ds.length → d < m → ChgS (fpD p v b) W w → DevAt B w p v b Dk → 0 ≤ Dk.c → Dk.c + d ≤ 1000000 →
    (∀ w', DevAt B w' p v b (runs (ds.drop i) Dk).2 → ChgS (fpD p v b) W w' → Q (.int .i64 (runs (ds.drop i) Dk).1) w') →
    itr (fun _ _ _ => bot) (f90_b2 f90_j1) m u (.int .i64 ((ds.length : Nat) : Int)) (.int .i64 ((i : Nat) : Int)) w Q := by
  have hxl := dRs_len hx
  intro d
  induction d with
  | zero =>
    intro m i w Dk hi hm hc hd h0 h1 kk
    obtain ⟨m, rfl⟩ : ∃ x, m = x + 1 := ⟨m - 1, by omega⟩
    show f90_b2 f90_j1 _ _ _ _ w Q
    unfold f90_b2
    have c : ¬ (i : Int) < (ds.length : Nat) := by omega
    try simp only [↓reduceIte, ↓LL, LM, Value.cells, Nat.reduceAdd, Option.some.injEq, exists_eq_left', decide_true, decide_false, if_true, if_false, reduceCtorEq, cond_true, cond_false, c]
    unfold f90_j1
    try simp only [↓reduceIte, ↓LL, LM, Value.cells, Nat.reduceAdd, Option.some.injEq, exists_eq_left', decide_true, decide_false, if_true, if_false, reduceCtorEq, cond_true, cond_false]
    rw [List.drop_of_length_le (by omega)] at kk
    exact kk w hd hc
  | succ d ih =>
    intro m i w Dk hi hm hc hd h0 h1 kk
    obtain ⟨m, rfl⟩ : ∃ x, m = x + 1 := ⟨m - 1, by omega⟩
    show f90_b2 f90_j1 _ _ _ _ w Q
    unfold f90_b2
    have c : (i : Int) < (ds.length : Nat) := by omega
    have hil : i < ds.length := by omega
    have hilx : i < xs.length := by omega
    have hne : xs ≠ [] := by intro e; rw [e] at hilx; simp at hilx
    have ho' := own_dev hd0 ho (by decide) (by decide) hc
    obtain ⟨g, cap, eu, hown, _, _, hcell⟩ := ownV_blk ho' hne
    have hix : ∀ (K : Value → M), ia 1 u (.int .i64 ((i : Nat) : Int)) K w Q = K (.pointer (some ⟨g, i, none⟩)) w Q := fun K => by rw [eu]; exact ia_at (by omega)
    have hcx := hcell i hilx
    have h3 : IntKind.i64.wrap ((i : Int) + 1) = ((i + 1 : Nat) : Int) := by rw [w64 (by omega) (by omega)]; rfl
    try simp only [↓reduceIte, ↓LL, LM, Value.cells, Nat.reduceAdd, Option.some.injEq, exists_eq_left', decide_true, decide_false, if_true, if_false, reduceCtorEq, cond_true, cond_false, c, hix, hcx]
    have e1 : ds.drop i = ds[i] :: ds.drop (i + 1) := List.drop_eq_getElem_cons hil
    have e2 : runs (ds.drop i) Dk = if (ds[i].run Dk).1 = 0 then runs (ds.drop (i + 1)) (ds[i].run Dk).2 else ds[i].run Dk := by rw [e1]; rfl
    refine deed_s hd h0 (by omega) (pg_dev hd0 hq hc) hq0 (dR_dev hd0 (dRs_get hx i hilx hil) hc) fun w1 d1 hc1 => ?_
    have hc1' := hc.trans hc1 fun _ _ h => h
    have hcc := ds[i].run_c Dk
    by_cases hz : (ds[i].run Dk).1 = 0
    · rw [if_pos hz] at e2
      try simp only [↓reduceIte, ↓LL, LM, Value.cells, Nat.reduceAdd, Option.some.injEq, exists_eq_left', decide_true, decide_false, if_true, if_false, reduceCtorEq, cond_true, cond_false, hz, ne_eq, h3]
      refine ih m (i + 1) w1 _ (by omega) (by omega) hc1' d1 (by omega) (by omega) ?_
      rw [← e2]
      exact kk
    · rw [if_neg hz] at e2
      try simp only [↓reduceIte, ↓LL, LM, Value.cells, Nat.reduceAdd, Option.some.injEq, exists_eq_left', decide_true, decide_false, if_true, if_false, reduceCtorEq, cond_true, cond_false, hz, ne_eq]
      rw [e2] at kk
      exact kk w1 d1 hc1'
theorem f90_s {u : Value} {ds : List De} {cur : Array Value} {B2 : Nat} (hd : DevAt B w p v b D) (hq : w.heap[q]? = some (.cells cur 133 (0, 0))) (hq0 : cur[0]? = some (pv p)) (ho : DsAt C C w q p u ds) (hl : ds.length ≤ 100000) (h0 : 0 ≤ D.c) (h1 : D.c + ds.length ≤ 1000000)
    (kk : ∀ w', DevAt B w' p v b (runs ds D).2 → ChgS (fpD p v b) w w' → Q (.int .i64 (runs ds D).1) w') : f90 u w Q := by
  obtain ⟨xs, ho, hx⟩ := ho
  have hxl := dRs_len hx
  unfold f90
  refine lnl_V ho ?_
  try simp only [↓reduceIte, ↓LL, LM, Value.cells, Nat.reduceAdd, Option.some.injEq, exists_eq_left', decide_true, decide_false, if_true, if_false, reduceCtorEq, cond_true, cond_false]
  rw [hxl]
  exact ⟨ds.length + 1, all_loop (W := w) hd hq hq0 ho hx hl ds.length (ds.length + 1) 0 w D (by omega) (by omega) (ChgS.refl _ _) hd h0 (by omega) (by rw [List.drop_zero]; exact kk)⟩
end
end Go.Proofs.YtongpnolikkknaaGreatDoor

set_option maxRecDepth 20000
set_option maxHeartbeats 4000000
namespace Go.Proofs.YtongpnolikkknaaGreatDoor
open Sh RowKit Go.MapKept
def imG (k : Nat) : Nat → Int := fun j => 2 + 4 * ((k : Nat) : Int) + ((j : Nat) : Int)
def plG (n : Int) : Nat → Int := fun j => 126 + 4 * n + ((j : Nat) : Int)
theorem enO : ∀ args w, (callFunc 84 args).run Tryz.prog w = .ok (.enter 84 args) w := enters_of Tryz.func84 (by kernel_rfl) rfl
theorem enR1 : ∀ args w, (callFunc 110 args).run Tryz.prog w = .ok (.enter 110 args) w := enters_of Tryz.func110 (by kernel_rfl) rfl
theorem enR2 : ∀ args w, (callFunc 113 args).run Tryz.prog w = .ok (.enter 113 args) w := enters_of Tryz.func113 (by kernel_rfl) rfl
theorem enS1 : ∀ args w, (callFunc 116 args).run Tryz.prog w = .ok (.enter 116 args) w := enters_of Tryz.func116 (by kernel_rfl) rfl
theorem enS2 : ∀ args w, (callFunc 117 args).run Tryz.prog w = .ok (.enter 117 args) w := enters_of Tryz.func117 (by kernel_rfl) rfl
section
variable {B C : Nat} {W w w' : World} {p q b : Nat} {v : Value} {D : Dv} {Q : Value → World → Prop}
theorem plc_O {a : Nat} {n : Int} {t : TypeId} (h : w.heap[a]? = some (.cells #[.int .i64 n] t (0, 0))) (h0 : 0 ≤ n) (h1 : n ≤ 1000000) : Plc w (.func (.func 84) #[] #[pv a]) (plG n) := by
  intro w1 hb j hj K Q kk
  refine cf_p enO ?_
  refine s84 (.int .i64 ((j : Nat) : Int)) (pv a) w1 _ ?_
  unfold f84
  have c : w1.cell? ⟨a, 0, none⟩ = some (.int .i64 n) := by rw [cell_of_blk (stay hb h)]; rfl
  try simp only [↓reduceIte, ↓LL, LM, Value.cells, Nat.reduceAdd, Option.some.injEq, exists_eq_left', decide_true, decide_false, if_true, if_false, reduceCtorEq, cond_true, cond_false, c]
  refine f81_s ⟨h0, h1⟩ (by omega) ?_
  try simp only [↓reduceIte, ↓LL, LM, Value.cells, Nat.reduceAdd, Option.some.injEq, exists_eq_left', decide_true, decide_false, if_true, if_false, reduceCtorEq, cond_true, cond_false]
  exact kk
theorem plc_R1 {a : Nat} {k : Nat} {t : TypeId} (h : w.heap[a]? = some (.cells #[.int .i64 ((k : Nat) : Int)] t (0, 0))) (h1 : k ≤ 1000000) : Plc w (.func (.func 110) #[] #[pv a]) (imG k) := by
  intro w1 hb j hj K Q kk
  refine cf_p enR1 ?_
  refine s110 (.int .i64 ((j : Nat) : Int)) (pv a) w1 _ ?_
  unfold f110
  have c : w1.cell? ⟨a, 0, none⟩ = some (.int .i64 ((k : Nat) : Int)) := by rw [cell_of_blk (stay hb h)]; rfl
  try simp only [↓reduceIte, ↓LL, LM, Value.cells, Nat.reduceAdd, Option.some.injEq, exists_eq_left', decide_true, decide_false, if_true, if_false, reduceCtorEq, cond_true, cond_false, c]
  refine f111_s ⟨by omega, by omega⟩ (by omega) ?_
  try simp only [↓reduceIte, ↓LL, LM, Value.cells, Nat.reduceAdd, Option.some.injEq, exists_eq_left', decide_true, decide_false, if_true, if_false, reduceCtorEq, cond_true, cond_false]
  exact kk
theorem plc_R2 {a : Nat} {n : Int} {t : TypeId} (h : w.heap[a]? = some (.cells #[.int .i64 n] t (0, 0))) (h0 : 0 ≤ n) (h1 : n ≤ 1000000) : Plc w (.func (.func 113) #[] #[pv a]) (plG n) := by
  intro w1 hb j hj K Q kk
  refine cf_p enR2 ?_
  refine s113 (.int .i64 ((j : Nat) : Int)) (pv a) w1 _ ?_
  unfold f113
  have c : w1.cell? ⟨a, 0, none⟩ = some (.int .i64 n) := by rw [cell_of_blk (stay hb h)]; rfl
  try simp only [↓reduceIte, ↓LL, LM, Value.cells, Nat.reduceAdd, Option.some.injEq, exists_eq_left', decide_true, decide_false, if_true, if_false, reduceCtorEq, cond_true, cond_false, c]
  refine f81_s ⟨h0, h1⟩ (by omega) ?_
  try simp only [↓reduceIte, ↓LL, LM, Value.cells, Nat.reduceAdd, Option.some.injEq, exists_eq_left', decide_true, decide_false, if_true, if_false, reduceCtorEq, cond_true, cond_false]
  exact kk
theorem plc_S1 {a : Nat} {k : Nat} {t : TypeId} (h : w.heap[a]? = some (.cells #[.int .i64 ((k : Nat) : Int)] t (0, 0))) (h1 : k ≤ 1000000) : Plc w (.func (.func 116) #[] #[pv a]) (imG k) := by
  intro w1 hb j hj K Q kk
  refine cf_p enS1 ?_
  refine s116 (.int .i64 ((j : Nat) : Int)) (pv a) w1 _ ?_
  unfold f116
  have c : w1.cell? ⟨a, 0, none⟩ = some (.int .i64 ((k : Nat) : Int)) := by rw [cell_of_blk (stay hb h)]; rfl
  try simp only [↓reduceIte, ↓LL, LM, Value.cells, Nat.reduceAdd, Option.some.injEq, exists_eq_left', decide_true, decide_false, if_true, if_false, reduceCtorEq, cond_true, cond_false, c]
  refine f111_s ⟨by omega, by omega⟩ (by omega) ?_
  try simp only [↓reduceIte, ↓LL, LM, Value.cells, Nat.reduceAdd, Option.some.injEq, exists_eq_left', decide_true, decide_false, if_true, if_false, reduceCtorEq, cond_true, cond_false]
  exact kk
theorem plc_S2 {a : Nat} {n : Int} {s : Value} {t : TypeId} (h : w.heap[a]? = some (.cells #[.int .i64 n, s] t (0, 0))) (h0 : 0 ≤ n) (h1 : n ≤ 1000000) : Plc w (.func (.func 117) #[] #[pv a]) (plG n) := by
  intro w1 hb j hj K Q kk
  refine cf_p enS2 ?_
  refine s117 (.int .i64 ((j : Nat) : Int)) (pv a) w1 _ ?_
  unfold f117
  have c : w1.cell? ⟨a, 0, none⟩ = some (.int .i64 n) := by rw [cell_of_blk (stay hb h)]; rfl
  try simp only [↓reduceIte, ↓LL, LM, Value.cells, Nat.reduceAdd, Option.some.injEq, exists_eq_left', decide_true, decide_false, if_true, if_false, reduceCtorEq, cond_true, cond_false, c]
  refine f81_s ⟨h0, h1⟩ (by omega) ?_
  try simp only [↓reduceIte, ↓LL, LM, Value.cells, Nat.reduceAdd, Option.some.injEq, exists_eq_left', decide_true, decide_false, if_true, if_false, reduceCtorEq, cond_true, cond_false]
  exact kk
theorem MapAt_keep {α : Type} {kv : α → Value} {L : List (α × Value)} (h : MapAt kv w b L) (hk : w'.heap[b]? = w.heap[b]?) : MapAt kv w' b L := by
  obtain ⟨es, clock, h1, h2, h3⟩ := h
  exact ⟨es, clock, hk.trans h1, h2, h3⟩
theorem DevAt.lt (hd : DevAt B w p v b D) : ∀ k, fpD p v b k → k < w.heap.size := by
  rintro k (rfl | rfl | hk)
  · exact hd.plt
  · obtain ⟨L, hm, _⟩ := hd.mp; exact hm.lt
  · exact (hd.gblk k hk).2.2.2
theorem DevAt.chg {S : Nat → Prop} (hd : DevAt B w p v b D) (hc : ChgS S w w') (hS : ∀ k, fpD p v b k → ¬ S k) : DevAt B w' p v b D := by
  obtain ⟨L, hm, hl⟩ := hd.mp
  have hk : ∀ k, fpD p v b k → w'.heap[k]? = w.heap[k]? := fun k h => hc.block k (hd.lt k h) (hS k h)
  exact ⟨hd.pB, hd.bB, hd.n, (hk p (.inl rfl)).trans hd.hp, ownE_stay hd.own fun g hg => hk g (.inr (.inr hg)), L, MapAt_keep hm (hk b (.inr (.inl rfl))), hl⟩
/-- a row of other things changed -/
theorem DevAt.chgV {e : TypeId} {u : Value} {xs : List Value} (hd : DevAt B w p v b D) (ho : ownV C e w u xs) (h1 : e ≠ 130) (h2 : e ≠ 145) (hc : ChgS (fun k => u.ownBlock = some k) w w') : DevAt B w' p v b D :=
  hd.chg hc fun k hk hu => by
    obtain ⟨_, _, cur, hcur⟩ := ownV_lt ho k hu
    exact dev_ne hd hcur h1 h2 hk
theorem ownI_chg {e : TypeId} {k : IntKind} {l : List Int} {u : Value} {S : Nat → Prop} (h : ownI C e k w u l) (hc : ChgS S w w') (hS : ∀ g, u.ownBlock = some g → ¬ S g) : ownI C e k w' u l := by
  obtain ⟨h1, h2⟩ := h
  refine ⟨h1, ?_⟩
  rcases h2 with h2 | ⟨g, cap, cur, rfl, hg, hb', rest⟩
  · exact .inl h2
  · exact .inr ⟨g, cap, cur, rfl, hg, hc.keep hb' (hS g rfl), rest⟩
theorem ownV_chg {e : TypeId} {xs : List Value} {u : Value} {S : Nat → Prop} (h : ownV C e w u xs) (hc : ChgS S w w') (hS : ∀ g, u.ownBlock = some g → ¬ S g) : ownV C e w' u xs :=
  ownV_stay h fun g hg => by
    obtain ⟨_, hl, cur, hcur⟩ := ownV_lt h g hg
    rw [hcur]; exact hc.keep hcur (hS g hg)
theorem DsAt_chg {ds : List De} {u : Value} {S : Nat → Prop} (h : DsAt B C w q p u ds) (hc : ChgS S w w') (hS : ∀ k, C ≤ k → ¬ S k) (hS2 : ∀ k, B ≤ k → ¬ S k) : DsAt B C w' q p u ds := by
  obtain ⟨xs, h1, h2⟩ := h
  exact ⟨xs, ownV_chg h1 hc fun g hg => hS2 g (ownV_lt h1 g hg).1, dRs_imp h2 fun x d hx => dR_chg hx hc fun g _ _ hg _ _ => hS g hg⟩
theorem DsAt_lt {ds : List De} {u : Value} (h : DsAt B C w q p u ds) : ∀ g, u.ownBlock = some g → B ≤ g ∧ g < w.heap.size := by
  obtain ⟨xs, h1, h2⟩ := h
  exact fun g hg => ⟨(ownV_lt h1 g hg).1, (ownV_lt h1 g hg).2.1⟩
end
end Go.Proofs.YtongpnolikkknaaGreatDoor

set_option maxRecDepth 20000
set_option maxHeartbeats 4000000
namespace Go.Proofs.YtongpnolikkknaaGreatDoor
open Sh RowKit Go.MapKept
/-- a page out of its image -/
def imP (D : Dv) (k : Nat) : ByteArray := (joinB (rdL D (imG k) 4)).1
/-- pages brought back, and the deeds of it; none: there is no such page -/
def recLs (D : Dv) : List Int → Nat → List ByteArray → List De → Option (List ByteArray × List De)
  | [], _, L, ds => some (L, ds)
  | n :: r, k, L, ds => if (L.length : Int) ≤ n then none else recLs D r (k + 1) (L.set n.toNat (imP D k)) (ds ++ pageD (plG n) (imP D k))
theorem pageD_len (g : Nat → Int) (s : ByteArray) : (pageD g s).length ≤ 4 := by
  unfold pageD
  split
  · simp
  · simp
section
variable {e : TypeId} {B C Bp : Nat} {W w w' : World} {p q b : Nat} {v u lv : Value} {D : Dv} {Q : Value → World → Prop}
theorem Upd_keep {r g : Nat} {o : Obj} (hu : Upd r w w') (h : w.heap[g]? = some o) (hne : g ≠ r) : w'.heap[g]? = some o := by rw [hu.block g hne]; exact h
theorem DsAt.weak {B' C' : Nat} {ds : List De} {u : Value} (h : DsAt B C w q p u ds) (hB : B' ≤ B) (hC : C' ≤ C) : DsAt B' C' w q p u ds := by
  obtain ⟨xs, h1, h2⟩ := h
  exact ⟨xs, ownV_weak h1 hB, dRs_imp h2 fun x d hx => dR_weak hx hC⟩
theorem cell_V {xs : List Value} {i : Nat} (h : ownV C e w u xs) (hi : i < xs.length) : ∃ g, (∀ (K : Value → M) (w1 : World) (Q : Value → World → Prop), ia 1 u (.int .i64 ((i : Nat) : Int)) K w1 Q = K (.pointer (some ⟨g, i, none⟩)) w1 Q) ∧ w.cell? ⟨g, i, none⟩ = some xs[i] ∧ u.ownBlock = some g := by
  have hne : xs ≠ [] := by intro e; rw [e] at hi; simp at hi
  obtain ⟨g, cap, eu, hown, _, _, hcell⟩ := ownV_blk h hne
  exact ⟨g, fun K w1 Q => by rw [eu]; exact ia_at hi, hcell i hi, hown⟩
theorem lnl_own {xs : List Value} (h : ownV C e w u xs) : ∀ (K : Value → M) (w1 : World) (Q : Value → World → Prop), lnl u K w1 Q = K (.int .i64 ((xs.length : Nat) : Int)) w1 Q := by
  intro K w1 Q
  obtain ⟨p, c, rfl⟩ := ownV_len h
  rw [lnl_e]
theorem recover_loop {L0 : List ByteArray} {l : List Int} {st c : Value} {j1 : Value → Value → M} {Bl : Nat} (hd : DevAt B W p v b D) (hq : W.heap[q]? = some (.cells #[pv p, u, st, c] 133 (0, 0))) (hu0 : ownV Bp 9 W u (L0.map .string)) (hlv : ownI Bl 3 .i64 W lv l)
    (hl : l.length ≤ 31) (hbd : ∀ x ∈ l, 0 ≤ x ∧ x ≤ 65535) : ∀ (d m i : Nat) (w : World) (L : List ByteArray) (ds : List De) (v5 : Value), i + d = l.length → d < m → ChgS (fun k => u.ownBlock = some k) W w → ownV Bp 9 w u (L.map .string) → L.length = L0.length → DsAt W.heap.size W.heap.size w q p v5 ds → ds.length ≤ 4 * i →
    (recLs D (l.drop i) i L ds = none → ∀ w', ChgS (fun k => u.ownBlock = some k) W w' → Q (.int .i64 10) w') →
    (∀ L' ds', recLs D (l.drop i) i L ds = some (L', ds') → ∀ w' v', ChgS (fun k => u.ownBlock = some k) W w' → ownV Bp 9 w' u (L'.map .string) → L'.length = L0.length → DsAt W.heap.size W.heap.size w' q p v' ds' → ds'.length ≤ 4 * l.length → j1 (pv q) v' w' Q) →
    itr (fun _ _ _ _ _ => bot) (f87_b2 j1) m (pv q) v5 lv (.int .i64 ((l.length : Nat) : Int)) (.int .i64 ((i : Nat) : Int)) w Q := by
  intro d
  induction d with
  | zero =>
    intro m i w L ds v5 hi hm hc hu hL hds hdl kf kk
    obtain ⟨m, rfl⟩ : ∃ x, m = x + 1 := ⟨m - 1, by omega⟩
    show f87_b2 j1 _ _ _ _ _ _ w Q
    unfold f87_b2
    have c : ¬ (i : Int) < (l.length : Nat) := by omega
    try simp only [↓reduceIte, ↓LL, LM, Value.cells, Nat.reduceAdd, Option.some.injEq, exists_eq_left', decide_true, decide_false, if_true, if_false, reduceCtorEq, cond_true, cond_false, c]
    rw [List.drop_of_length_le (by omega)] at kk
    exact kk L ds rfl w v5 hc hu hL hds (by omega)
  | succ d ih =>
    intro m i w L ds v5 hi hm hc hu hL hds hdl kf kk
    obtain ⟨m, rfl⟩ : ∃ x, m = x + 1 := ⟨m - 1, by omega⟩
    show f87_b2 j1 _ _ _ _ _ _ w Q
    unfold f87_b2
    have c : (i : Int) < (l.length : Nat) := by omega
    have hil : i < l.length := by omega
    have uT : ∀ g, u.ownBlock = some g → g < W.heap.size ∧ ∃ cur, W.heap[g]? = some (.cells cur 9 (0, 0)) := fun g hg => ⟨(ownV_lt hu0 g hg).2.1, (ownV_lt hu0 g hg).2.2⟩
    have hlw : ownI Bl 3 .i64 w lv l := ownI_chg hlv hc fun g hg hn => by
      obtain ⟨_, cur, hcur⟩ := uT g hn
      obtain ⟨_, h2⟩ := hlv
      rcases h2 with ⟨rfl, _⟩ | ⟨g', cap, cur', rfl, _, hb', _⟩
      · cases hg
      · cases hg; rw [hcur] at hb'; cases hb'
    have hqw := hc.keep hq (fun hn => by obtain ⟨_, cur, hcur⟩ := uT q hn; rw [hcur] at hq; cases hq)
    have hdw := hd.chgV hu0 (by decide) (by decide) hc
    have edr : l.drop i = l[i] :: l.drop (i + 1) := List.drop_eq_getElem_cons hil
    obtain ⟨n0, n1'⟩ := hbd l[i] (List.getElem_mem hil)
    obtain ⟨ax, cx, hax⟩ := ld_i (ownI_rd hlw) hil
    have qx := cx w (Below.refl _ _)
    generalize l[i] = n at *
    try simp only [↓reduceIte, ↓LL, LM, Value.cells, Nat.reduceAdd, Option.some.injEq, exists_eq_left', decide_true, decide_false, if_true, if_false, reduceCtorEq, cond_true, cond_false, c, hax, qx]
    -- two boxes
    have b1 := b_psh w (.cells #[.int .i64 0] 3)
    have k1 := blk_psh_new (w := w) (o := .cells #[.int .i64 0] 3)
    have z1 : (psh w (.cells #[.int .i64 0] 3)).heap.size = w.heap.size + 1 := size_psh
    generalize psh w (.cells #[.int .i64 0] 3) = w1 at *
    have b2 := b_psh w1 (.cells #[.int .i64 0] 3)
    have k2 := blk_psh_new (w := w1) (o := .cells #[.int .i64 0] 3)
    have k1 := stay b2 k1
    have z2 : (psh w1 (.cells #[.int .i64 0] 3)).heap.size = w1.heap.size + 1 := size_psh
    generalize psh w1 (.cells #[.int .i64 0] 3) = w2 at *
    refine st_box (o := 0) (v := .int .i64 ((i : Nat) : Int)) k1 (by decide) rfl fun w3 k1 u3 => ?_
    have k2 := Upd_keep u3 k2 (by omega)
    refine st_box (o := 0) (v := .int .i64 n) k2 (by decide) rfl fun w4 k2 u4 => ?_
    have k1 := Upd_keep u4 k1 (by omega)
    have k1 : w4.heap[w.heap.size]? = some (.cells #[.int .i64 ((i : Nat) : Int)] 3 (0, 0)) := k1
    have k2 : w4.heap[w1.heap.size]? = some (.cells #[.int .i64 n] 3 (0, 0)) := k2
    have b4 : Below w.heap.size w w4 := ((bt b1 b2).trans (u3.below (Nat.le_refl _))).trans (u4.below (by omega))
    have c7 : w4.cell? ⟨w1.heap.size, 0, none⟩ = some (.int .i64 n) := by rw [cell_of_blk k2]; rfl
    have hq4 := stay b4 hqw
    have cq1 : w4.cell? ⟨q, 1, none⟩ = some u := by rw [cell_of_blk hq4]; rfl
    have hu4 := ownV_below hu b4
    have lu := lnl_own hu4
    rw [List.length_map] at lu
    by_cases hn : (L.length : Int) ≤ n
    · have hn' : n ≥ (L.length : Int) := hn
      try simp only [↓reduceIte, ↓LL, LM, Value.cells, Nat.reduceAdd, Option.some.injEq, exists_eq_left', decide_true, decide_false, if_true, if_false, reduceCtorEq, cond_true, cond_false, c7, cq1, lu, hn, hn']
      refine kf (by rw [edr]; unfold recLs; rw [if_pos hn]) _ ?_
      exact hc.trans (ChgS.of_below b4 (S := fun k => u.ownBlock = some k)).drw fun _ _ h => h
    · have hn' : ¬ n ≥ (L.length : Int) := hn
      have edr2 : recLs D (l.drop i) i L ds = recLs D (l.drop (i + 1)) (i + 1) (L.set n.toNat (imP D i)) (ds ++ pageD (plG n) (imP D i)) := by rw [edr]; show (if _ then _ else _) = _; rw [if_neg hn]
      rw [edr2] at kf kk
      try simp only [↓reduceIte, ↓LL, LM, Value.cells, Nat.reduceAdd, Option.some.injEq, exists_eq_left', decide_true, decide_false, if_true, if_false, reduceCtorEq, cond_true, cond_false, c7, cq1, lu, hn, hn']
      refine f83_s ((hdw.below b4).drw.drw) (by rw [cell_drw, cell_drw, cell_of_blk hq4]; rfl) (plc_R1 (show (drw (drw w4)).heap[w.heap.size]? = _ from k1) (by omega)) fun w5 b5 => ?_
      have b5 := of_drw' (of_drw' b5)
      have k2 := stay b5 k2
      have hq5 := stay b5 hq4
      have c7 : w5.cell? ⟨w1.heap.size, 0, none⟩ = some (.int .i64 n) := by rw [cell_of_blk k2]; rfl
      have cq1 : w5.cell? ⟨q, 1, none⟩ = some u := by rw [cell_of_blk hq5]; rfl
      have hu5 := ownV_below hu4 b5
      have eim : (joinB (rdL D (imG i) 4)).1 = imP D i := rfl
      obtain ⟨n, rfl⟩ := Int.eq_ofNat_of_zero_le n0
      have hnl : n < (L.map Value.string).length := by rw [List.length_map]; omega
      have b05 := bt b4 b5
      try simp only [↓reduceIte, ↓LL, LM, Value.cells, Nat.reduceAdd, Option.some.injEq, exists_eq_left', decide_true, decide_false, if_true, if_false, reduceCtorEq, cond_true, cond_false]
      refine ⟨by rw [Kld_e]; exact c7, ?_⟩
      refine ⟨by rw [Kld_e]; exact cq1, ?_⟩
      rw [eim]
      refine ia_stV hu5 hnl rfl fun w6 g6 hg6 hu6 up6 => ?_
      have eset : (L.map Value.string).set n (.string (imP D i)) = (L.set n (imP D i)).map .string := by rw [List.map_set]
      rw [eset] at hu6
      have hgW : g6 < W.heap.size := (uT g6 hg6).1
      have s6 : W.heap.size ≤ w.heap.size := hc.size
      have k2 := Upd_keep up6 k2 (by omega)
      have hq6 := Upd_keep up6 hq5 (fun e => by obtain ⟨_, cur, hcur⟩ := uT g6 hg6; rw [e] at hq; rw [hcur] at hq; cases hq)
      have c7 : w6.cell? ⟨w1.heap.size, 0, none⟩ = some (.int .i64 ((n : Nat) : Int)) := by rw [cell_of_blk k2]; rfl
      have cq1 : w6.cell? ⟨q, 1, none⟩ = some u := by rw [cell_of_blk hq6]; rfl
      have hnl6 : n < ((L.set n (imP D i)).map Value.string).length := by rw [List.length_map, List.length_set]; rw [List.length_map] at hnl; exact hnl
      obtain ⟨g', hia, hcu, _⟩ := cell_V hu6 hnl6
      have eg : ((L.set n (imP D i)).map Value.string)[n] = .string (imP D i) := by simp
      rw [eg] at hcu
      have hc6 : ChgS (fun k => u.ownBlock = some k) W w6 := hc.trans ((ChgS.of_below b05 (S := fun k => u.ownBlock = some k)).trans (ChgS.of_upd up6 hg6) fun _ _ h => h) fun _ _ h => h
      have hds6 : DsAt W.heap.size W.heap.size w6 q p v5 ds := by
        have h5 := hds.below b05
        exact DsAt_chg h5 (ChgS.of_upd up6 rfl (S := fun k => k = g6)) (fun k hk e => by omega) (fun k hk e => by omega)
      have h3 : IntKind.i64.wrap ((i : Int) + 1) = ((i + 1 : Nat) : Int) := by rw [w64 (by omega) (by omega)]; rfl
      try simp only [↓reduceIte, ↓LL, LM, Value.cells, Nat.reduceAdd, Option.some.injEq, exists_eq_left', decide_true, decide_false, if_true, if_false, reduceCtorEq, cond_true, cond_false, c7, cq1, hia, hcu]
      refine f112_s (p := p) (plc_R2 (show (drw w6).heap[w1.heap.size]? = _ from k2) (by omega) (by omega)) fun w7 v7 b7 d7 => ?_
      have b7 := of_drw' b7
      have d7 : DsAt w6.heap.size w6.heap.size w7 q p v7 _ := d7
      have s56 : w6.heap.size = w5.heap.size := up6.size
      have sW : W.heap.size ≤ w6.heap.size := hc6.size
      have pl := pageD_len (plG ((n : Nat) : Int)) (imP D i)
      try simp only [↓reduceIte, ↓LL, LM, Value.cells, Nat.reduceAdd, Option.some.injEq, exists_eq_left', decide_true, decide_false, if_true, if_false, reduceCtorEq, cond_true, cond_false]
      refine ap_ds (hds6.below b7) (d7.weak (Nat.le_refl _) sW) (by omega) (Nat.le_trans sW b7.size) fun w8 v8 b8 d8 hc8 fr8 => ?_
      try simp only [↓reduceIte, ↓LL, LM, Value.cells, Nat.reduceAdd, Option.some.injEq, exists_eq_left', decide_true, decide_false, if_true, if_false, reduceCtorEq, cond_true, cond_false, h3]
      have hc7 : ChgS (fun k => u.ownBlock = some k) W w7 := hc6.trans (ChgS.of_below b7) fun _ _ h => h
      have hc8' : ChgS (fun k => u.ownBlock = some k) W w8 := hc7.trans hc8 fun k hk h => by have := (DsAt_lt (hds6.below b7) k h).1; omega
      refine ih m (i + 1) w8 _ _ v8 (by omega) (by omega) hc8' ?_ (by rw [List.length_set]; exact hL) d8 (by rw [List.length_append]; omega) kf kk
      exact ownV_chg (ownV_below hu6 b7) hc8 fun g hg h => by have := (DsAt_lt (hds6.below b7) g h).1; have := (uT g hg).1; omega
end
end Go.Proofs.YtongpnolikkknaaGreatDoor

set_option maxRecDepth 20000
set_option maxHeartbeats 4000000
namespace Go.Proofs.YtongpnolikkknaaGreatDoor
open Sh RowKit Go.MapKept
def recB (D : Dv) (L : List ByteArray) : Int × Dv × List ByteArray :=
  if dirB (D.rd 1) = true then match recLs D (lst (D.rd 1)) 0 L [] with
    | none => (10, D, L)
    | some (L', ds) => ((runs (ds ++ [.sy] ++ markD false) D).1, (runs (ds ++ [.sy] ++ markD false) D).2, L')
  else (10, D, L)
theorem rd_size (D : Dv) (i : Int) : (D.rd i).size ≤ 64 := by
  unfold Dv.rd
  cases h : D.at i with
  | none => show (⟨#[]⟩ : ByteArray).size ≤ 64; decide
  | some x => exact Nat.le_of_eq x.now.2
theorem dirB_lst {s : ByteArray} (h : dirB s = true) : (rdA s).1 = lst s ∧ (lst s).length ≤ 31 ∧ (lst s).Nodup ∧ ∀ x ∈ lst s, 0 ≤ x ∧ x ≤ 65535 := by
  have e := rdA_ok (dir_iff.1 h).1
  obtain ⟨_, h2, h3, _⟩ := of_decide_eq_true h
  rw [e] at h3
  have h4 := of_decide_eq_true h3
  exact ⟨by rw [e], by rw [lst_len]; exact h2, h4.1, h4.2⟩
section
variable {e : TypeId} {B C Bp : Nat} {W w w' : World} {p q b : Nat} {v u lv : Value} {D : Dv} {Q : Value → World → Prop}
theorem f87_s {L : List ByteArray} {st c : Value} (hd : DevAt B w p v b D) (hq : w.heap[q]? = some (.cells #[pv p, u, st, c] 133 (0, 0))) (hu : ownV Bp 9 w u (L.map .string)) (h0 : 0 ≤ D.c) (h1 : D.c + 200 ≤ 1000000)
    (kk : ∀ w', DevAt B w' p v b (recB D L).2.1 → ChgS (fun k => u.ownBlock = some k ∨ fpD p v b k) w w' → ((recB D L).1 = 0 → ownV Bp 9 w' u ((recB D L).2.2.map .string)) → Q (.int .i64 (recB D L).1) w') : f87 (pv q) w Q := by
  unfold f87
  have cq0 : w.cell? ⟨q, 0, none⟩ = some (pv p) := by rw [cell_of_blk hq]; rfl
  try simp only [↓reduceIte, ↓LL, LM, Value.cells, Nat.reduceAdd, Option.some.injEq, exists_eq_left', decide_true, decide_false, if_true, if_false, reduceCtorEq, cond_true, cond_false, cq0]
  refine f86_s hd 1 fun w1 b1 => ?_
  try simp only [↓reduceIte, ↓LL, LM, Value.cells, Nat.reduceAdd, Option.some.injEq, exists_eq_left', decide_true, decide_false, if_true, if_false, reduceCtorEq, cond_true, cond_false]
  have hz := rd_size D 1
  refine f109_s (by omega) (fun w2 b2 hdir => ?_) (fun w2 lv b2 hdir hlv => ?_)
  · have b02 := bt b1 b2
    have e : recB D L = (10, D, L) := by unfold recB; rw [if_neg (by rw [hdir]; decide)]
    rw [e] at kk
    have z : ¬ (10 : Int) = 0 := by decide
    try simp only [↓reduceIte, ↓LL, LM, Value.cells, Nat.reduceAdd, Option.some.injEq, exists_eq_left', decide_true, decide_false, if_true, if_false, reduceCtorEq, cond_true, cond_false, get0, get1, ne_eq, z]
    exact kk w2 (hd.below b02) (ChgS.of_below b02) (fun h => absurd h z)
  · have b02 := bt b1 b2
    obtain ⟨e1, l31, lnd, lbd⟩ := dirB_lst hdir
    rw [e1] at hlv
    have hq2 := stay b02 hq
    have hu2 := ownV_below hu b02
    have hd2 := hd.below b02
    have llv : ∀ (K : Value → M) (w1 : World) (Q : Value → World → Prop), lnl lv K w1 Q = K (.int .i64 (((lst (D.rd 1)).length : Nat) : Int)) w1 Q := fun K w1 Q => by
      obtain ⟨pl, cl, el, _⟩ := ownI_len hlv
      rw [el, lnl_e]
    try simp only [↓reduceIte, ↓LL, LM, Value.cells, Nat.reduceAdd, Option.some.injEq, exists_eq_left', decide_true, decide_false, if_true, if_false, reduceCtorEq, cond_true, cond_false, get0, get1, ne_eq, llv]
    have eB : recB D L = match recLs D (lst (D.rd 1)) 0 L [] with
      | none => (10, D, L)
      | some (L', ds) => ((runs (ds ++ [.sy] ++ markD false) D).1, (runs (ds ++ [.sy] ++ markD false) D).2, L') := by unfold recB; rw [if_pos hdir]
    refine ⟨_, recover_loop (W := w2) hd2 hq2 hu2 hlv l31 lbd (lst (D.rd 1)).length ((lst (D.rd 1)).length + 1) 0 w2 L [] _ (by omega) (by omega) (ChgS.refl _ _) hu2 rfl DsAt_nil (by simp) (fun hn w3 hc3 => ?_) (fun L' ds' hs w3 v3 hc3 hu3 hL3 hds3 hdl3 => ?_)⟩
    · rw [List.drop_zero] at hn
      rw [hn] at eB
      have eB : recB D L = (10, D, L) := eB
      rw [eB] at kk
      have z : ¬ (10 : Int) = 0 := by decide
      have hc := (ChgS.of_below b02 (S := fun k => u.ownBlock = some k)).trans hc3 fun _ _ h => h
      exact kk w3 (hd.chgV hu (by decide) (by decide) hc) (hc.mono fun k h => .inl h) (fun h => absurd h z)
    · rw [List.drop_zero] at hs
      rw [hs] at eB
      have eB : recB D L = ((runs (ds' ++ [.sy] ++ markD false) D).1, (runs (ds' ++ [.sy] ++ markD false) D).2, L') := eB
      rw [eB] at kk
      have hc := (ChgS.of_below b02 (S := fun k => u.ownBlock = some k)).trans hc3 fun _ _ h => h
      have uq : ¬ u.ownBlock = some q := fun hn => by
        obtain ⟨_, _, cur, hcur⟩ := ownV_lt hu q hn
        rw [hcur] at hq; cases hq
      have hq3 := hc.keep hq uq
      have cq0 : w3.cell? ⟨q, 0, none⟩ = some (pv p) := by rw [cell_of_blk hq3]; rfl
      have s3 : w2.heap.size ≤ w3.heap.size := hc3.size
      unfold f87_j1
      try simp only [↓reduceIte, ↓LL, LM, Value.cells, Nat.reduceAdd, Option.some.injEq, exists_eq_left', decide_true, decide_false, if_true, if_false, reduceCtorEq, cond_true, cond_false, cq0]
      refine ap_d hds3 (show dR w2.heap.size w3 q p _ .sy from rfl) (by omega) s3 fun w4 v4 b4 d4 hc4 _ => ?_
      have hc4' : ChgS (fun k => u.ownBlock = some k) w w4 := hc.trans hc4 fun k hk h => by have := (DsAt_lt hds3 k h).1; have := b02.size; omega
      have hq4 := hc4'.keep hq uq
      try simp only [↓reduceIte, ↓LL, LM, Value.cells, Nat.reduceAdd, Option.some.injEq, exists_eq_left', decide_true, decide_false, if_true, if_false, reduceCtorEq, cond_true, cond_false]
      refine f115_s (p := p) (by rw [cell_of_blk hq4]; rfl) fun w5 v5 b5 d5 => ?_
      have s4 : w2.heap.size ≤ w4.heap.size := Nat.le_trans s3 b4.size
      try simp only [↓reduceIte, ↓LL, LM, Value.cells, Nat.reduceAdd, Option.some.injEq, exists_eq_left', decide_true, decide_false, if_true, if_false, reduceCtorEq, cond_true, cond_false]
      refine ap_ds (d4.below b5) (d5.weak (Nat.le_refl _) s4) (by simp [markD]; omega) (Nat.le_trans s4 b5.size) fun w6 v6 b6 d6 hc6 _ => ?_
      have hc5' : ChgS (fun k => u.ownBlock = some k) w w5 := hc4'.trans (ChgS.of_below b5) fun _ _ h => h
      have hc6' : ChgS (fun k => u.ownBlock = some k) w w6 := hc5'.trans hc6 fun k hk h => by have := (DsAt_lt (d4.below b5) k h).1; have := b02.size; omega
      have hd6 := hd.chgV hu (by decide) (by decide) hc6'
      have hu6 : ownV Bp 9 w6 u (L'.map .string) := by
        have h4 := ownV_chg hu3 hc4 fun g hg h => by have := (DsAt_lt hds3 g h).1; have := (ownV_lt hu2 g hg).2.1; omega
        exact ownV_chg (ownV_below h4 b5) hc6 fun g hg h => by have := (DsAt_lt (d4.below b5) g h).1; have := (ownV_lt hu2 g hg).2.1; omega
      try simp only [↓reduceIte, ↓LL, LM, Value.cells, Nat.reduceAdd, Option.some.injEq, exists_eq_left', decide_true, decide_false, if_true, if_false, reduceCtorEq, cond_true, cond_false]
      have hlen : (ds' ++ [De.sy] ++ markD false).length ≤ 200 := by simp [markD]; omega
      refine f90_s (B2 := 0) hd6 (hc6'.keep hq uq) rfl d6 (by omega) h0 (by omega) fun w7 d7 hc7 => ?_
      try simp only [↓reduceIte, ↓LL, LM, Value.cells, Nat.reduceAdd, Option.some.injEq, exists_eq_left', decide_true, decide_false, if_true, if_false, reduceCtorEq, cond_true, cond_false]
      exact kk w7 d7 ((hc6'.mono fun k h => .inl h).trans (hc7.mono fun k h => .inr h) fun _ _ h => h) (fun _ => own_dev hd6 hu6 (by decide) (by decide) hc7)
end
end Go.Proofs.YtongpnolikkknaaGreatDoor

set_option maxRecDepth 20000
set_option maxHeartbeats 4000000
namespace Go.Proofs.YtongpnolikkknaaGreatDoor
open Sh RowKit Go.MapKept
def pgP (D : Dv) (n : Nat) : ByteArray := (joinB (rdL D (plG n) 4)).1
def pgL (D : Dv) (N : Nat) : List ByteArray := (List.range N).map (pgP D)
theorem pgL_succ (D : Dv) (N : Nat) : pgL D (N + 1) = pgL D N ++ [pgP D N] := by unfold pgL; rw [List.range_succ, List.map_append]; rfl
theorem pgL_len (D : Dv) (N : Nat) : (pgL D N).length = N := by unfold pgL; simp
/-- a pager opened: the error, the device behind it, the pages -/
def openB (D : Dv) (n : Int) : Int × Dv × List ByteArray :=
  if n < 1 ∨ 160 < n ∨ (D.A.length : Int) < 126 + 4 * n then (1, D, []) else if mkd (D.rd 0) = true then recB D (pgL D n.toNat) else (0, D, pgL D n.toNat)
theorem buildPg (p : Nat) (w : World) : (Instr.build 133 #[(0, pv p)]).run Tryz.prog w = .ok (.agg #[pv p, .slice none 0 0, .bool false, .int .i64 0]) w := by
  kernel_rfl
theorem slS : slT Tryz.prog 100 9 (.string ⟨#[]⟩) 1 16 := sl39
section
variable {e : TypeId} {B C Bp : Nat} {W w w' : World} {p q b : Nat} {v u lv : Value} {D : Dv} {Q : Value → World → Prop}
/-- one text more; what was read ahead is there still -/
theorem ap_Tk {F : World → Prop} {s : ByteArray} {l : List ByteArray} {K : Value → M} (hF : F (psh w (.cells #[.string s] 9))) (h : ownV B 9 w v (l.map .string)) (hl : l.length ≤ 1000000) (hB : B ≤ w.heap.size)
    (kk : ∀ w' v', ownV B 9 w' v' ((l ++ [s]).map .string) → ChgS (fun k => v.ownBlock = some k) w w' → (∀ g, v'.ownBlock = some g → v.ownBlock = some g ∨ w.heap.size ≤ g) → K v' w' Q) :
    sm Tryz.prog (Instr.buildSlice 100 1 #[(0, .string s)]) (fun t => kp F (sm Tryz.prog (Builtin.append_ #[100, 100] 100 #[v, t]) K)) w Q := by
  refine bsl1 slS rfl rfl ?_
  refine ⟨hF, ?_⟩
  have h1 : (psh w (.cells #[.string s] 9)).ownsRow B 9 1 v (l.map Value.string).length (l.map .string) := World.ownsRow.alloc h _
  obtain ⟨i, g1, g2, g3, g4, g5⟩ := slT_info slS
  obtain ⟨v', w', hr, ho, hg, _, hf⟩ := run_append_own_at (P := Tryz.prog) (psh w (.cells #[.string s] 9)) B 100 100 9 i _ 1 16 g1 g2 g3 g4 g5 rfl (by decide) v (l.map Value.string).length (l.map .string) h1 ⟨w.heap.size, 0, none⟩ 1 1 [.string s] rfl (by
    intro j u hj
    cases j with
    | zero => simp at hj; subst hj; rw [add_lit, cell_psh_new]; rfl
    | succ j => simp at hj) (by intro u hu; simp at hu; subst hu; rfl) (by rw [List.length_map]; unfold maxLen; omega) (by rw [List.length_map]; omega) (by rw [size_psh]; omega)
  refine ⟨v', w', hr, kk w' v' ?_ ⟨hg.os, hg.tape, hg.output, by have := hg.size; rw [size_psh] at this; omega, fun k hk hne => ?_⟩ ?_⟩
  · unfold ownV
    have e1 : ((l ++ [s]).map Value.string) = l.map .string ++ [.string s] := by rw [List.map_append]; rfl
    rw [e1, List.length_append]; exact ho
  · rw [hg.block k (by rw [size_psh]; omega) (fun e => hne e.symm), blk_psh_old hk]
  · intro g hgv
    rcases hf with hf | hf
    · left; rw [← hf]; exact hgv
    · right
      rw [hf, size_psh] at hgv
      cases hgv; omega
theorem open_loop {n : Nat} {j1 : Value → Value → M} (hd : DevAt B W p v b D) (hn : n ≤ 1000) (hqW : W.heap.size ≤ q) : ∀ (d m i : Nat) (w : World) (u : Value), i + d = n → d < m → Below W.heap.size W w → w.heap[q]? = some (.cells #[pv p, u, .bool false, .int .i64 0] 133 (0, 0)) → ownV W.heap.size 9 w u ((pgL D i).map .string) →
    (∀ w' u', Below W.heap.size W w' → w'.heap[q]? = some (.cells #[pv p, u', .bool false, .int .i64 0] 133 (0, 0)) → ownV W.heap.size 9 w' u' ((pgL D n).map .string) → j1 (pv p) (pv q) w' Q) →
    itr (fun _ _ _ _ => bot) (f40_b2 j1) m (pv p) (pv q) (.int .i64 ((n : Nat) : Int)) (.int .i64 ((i : Nat) : Int)) w Q := by
  intro d
  induction d with
  | zero =>
    intro m i w u hi hm hb hq ho kk
    obtain ⟨m, rfl⟩ : ∃ x, m = x + 1 := ⟨m - 1, by omega⟩
    show f40_b2 j1 _ _ _ _ _ w Q
    unfold f40_b2
    have c : ¬ (i : Int) < (n : Nat) := by omega
    try simp only [↓reduceIte, ↓LL, LM, Value.cells, Nat.reduceAdd, Option.some.injEq, exists_eq_left', decide_true, decide_false, if_true, if_false, reduceCtorEq, cond_true, cond_false, c]
    have : i = n := by omega
    rw [this] at ho
    exact kk w u hb hq ho
  | succ d ih =>
    intro m i w u hi hm hb hq ho kk
    obtain ⟨m, rfl⟩ : ∃ x, m = x + 1 := ⟨m - 1, by omega⟩
    show f40_b2 j1 _ _ _ _ _ w Q
    unfold f40_b2
    have c : (i : Int) < (n : Nat) := by omega
    have h3 : IntKind.i64.wrap ((i : Int) + 1) = ((i + 1 : Nat) : Int) := by rw [w64 (by omega) (by omega)]; rfl
    have b1 := b_psh w (.cells #[.int .i64 0] 3)
    have k1 := blk_psh_new (w := w) (o := .cells #[.int .i64 0] 3)
    try simp only [↓reduceIte, ↓LL, LM, Value.cells, Nat.reduceAdd, Option.some.injEq, exists_eq_left', decide_true, decide_false, if_true, if_false, reduceCtorEq, cond_true, cond_false, c]
    generalize psh w (.cells #[.int .i64 0] 3) = w1 at *
    refine st_box (o := 0) (v := .int .i64 ((i : Nat) : Int)) k1 (by decide) rfl fun w2 k2 u2 => ?_
    have k2 : w2.heap[w.heap.size]? = some (.cells #[.int .i64 ((i : Nat) : Int)] 3 (0, 0)) := k2
    have b2 : Below w.heap.size w w2 := b1.trans (u2.below (Nat.le_refl _))
    have hq2 := stay b2 hq
    have c1 : w2.cell? ⟨q, 1, none⟩ = some u := by rw [cell_of_blk hq2]; rfl
    have hb2 := bt hb b2
    try simp only [↓reduceIte, ↓LL, LM, Value.cells, Nat.reduceAdd, Option.some.injEq, exists_eq_left', decide_true, decide_false, if_true, if_false, reduceCtorEq, cond_true, cond_false, c1]
    refine f83_s ((hd.below hb2).drw) (by rw [cell_drw, cell_of_blk hq2]; rfl) (plc_O (show (drw w2).heap[w.heap.size]? = _ from k2) (by omega) (by omega)) fun w3 b3 => ?_
    have b3 := of_drw' b3
    have hq3 := stay b3 hq2
    have hb3 := bt hb2 b3
    have c1 : w3.cell? ⟨q, 1, none⟩ = some u := by rw [cell_of_blk hq3]; rfl
    have ho3 := ownV_below ho (bt b2 b3)
    try simp only [↓reduceIte, ↓LL, LM, Value.cells, Nat.reduceAdd, Option.some.injEq, exists_eq_left', decide_true, decide_false, if_true, if_false, reduceCtorEq, cond_true, cond_false]
    refine ⟨by rw [Kld_e]; exact c1, ?_⟩
    have b4 := b_psh w3 (.cells #[.string (joinB (rdL D (plG ((i : Nat) : Int)) 4)).1] 9)
    refine ap_Tk (by rw [Kld_e]; exact cell_below b4 c1) ho3 (by rw [pgL_len]; omega) hb3.size fun w5 u5 o5 hc5 fr5 => ?_
    have uT : ∀ g, u.ownBlock = some g → W.heap.size ≤ g ∧ g ≠ q := fun g hg => by
      obtain ⟨h1, _, cur, hcur⟩ := ownV_lt ho g hg
      exact ⟨h1, fun e => by rw [e, hq] at hcur; cases hcur⟩
    have hq5 := hc5.keep hq3 fun h => (uT q h).2 rfl
    have hb5 : Below W.heap.size W w5 := hb3.trans (hc5.below (fun k hk => (uT k hk).1) hb3.size)
    try simp only [↓reduceIte, ↓LL, LM, Value.cells, Nat.reduceAdd, Option.some.injEq, exists_eq_left', decide_true, decide_false, if_true, if_false, reduceCtorEq, cond_true, cond_false]
    refine st_box (o := 1) (v := u5) hq5 (show 1 < 4 by decide) (by obtain ⟨x, y, rfl⟩ := ownV_len o5; rfl) fun w6 hq6 u6 => ?_
    have hq6 : w6.heap[q]? = some (.cells #[pv p, u5, .bool false, .int .i64 0] 133 (0, 0)) := hq6
    try simp only [↓reduceIte, ↓LL, LM, Value.cells, Nat.reduceAdd, Option.some.injEq, exists_eq_left', decide_true, decide_false, if_true, if_false, reduceCtorEq, cond_true, cond_false, h3]
    refine ih m (i + 1) w6 u5 (by omega) (by omega) (hb5.trans (u6.below hqW)) hq6 ?_ kk
    rw [pgL_succ]
    exact ownV_stay o5 fun g hg => u6.block g fun e => by
      obtain ⟨_, _, cur, hcur⟩ := ownV_lt o5 g hg
      rw [e, hq5] at hcur; cases hcur
theorem pt58 : Tryz.prog.underlying 63 = some (.pointer (Tryz.prog.pointee 63)) := pt23
theorem f40_s {n : Int} (hd : DevAt B w p v b D) (h0 : 0 ≤ D.c) (h1 : D.c + 200 ≤ 1000000)
    (k1 : (openB D n).1 ≠ 0 → ∀ w', DevAt B w' p v b (openB D n).2.1 → ChgS (fpD p v b) w w' → Q (.tuple #[.pointer none, .int .i64 (openB D n).1]) w')
    (k0 : (openB D n).1 = 0 → ∀ w' q u, w.heap.size ≤ q → w'.heap[q]? = some (.cells #[pv p, u, .bool false, .int .i64 0] 133 (0, 0)) → ownV w.heap.size 9 w' u ((openB D n).2.2.map .string) → DevAt B w' p v b (openB D n).2.1 → ChgS (fpD p v b) w w' → Q (.tuple #[pv q, .int .i64 0]) w') : f40 (pv p) (.int .i64 n) w Q := by
  unfold f40
  rw [pn_eq pt58]
  by_cases c1 : n < 1
  · have e : openB D n = (1, D, []) := by unfold openB; rw [if_pos (.inl c1)]
    rw [e] at k1
    try simp only [↓reduceIte, ↓LL, LM, Value.cells, Nat.reduceAdd, Option.some.injEq, exists_eq_left', decide_true, decide_false, if_true, if_false, reduceCtorEq, cond_true, cond_false, Option.isNone, c1]
    exact k1 (show ¬ (1 : Int) = 0 by decide) w hd (ChgS.refl _ _)
  by_cases c2 : 160 < n
  · have e : openB D n = (1, D, []) := by unfold openB; rw [if_pos (.inr (.inl c2))]
    rw [e] at k1
    have c2' : n > 160 := c2
    try simp only [↓reduceIte, ↓LL, LM, Value.cells, Nat.reduceAdd, Option.some.injEq, exists_eq_left', decide_true, decide_false, if_true, if_false, reduceCtorEq, cond_true, cond_false, Option.isNone, c1, c2, c2']
    exact k1 (show ¬ (1 : Int) = 0 by decide) w hd (ChgS.refl _ _)
  have c2' : ¬ n > 160 := c2
  try simp only [↓reduceIte, ↓LL, LM, Value.cells, Nat.reduceAdd, Option.some.injEq, exists_eq_left', decide_true, decide_false, if_true, if_false, reduceCtorEq, cond_true, cond_false, Option.isNone, c1, c2, c2']
  refine f82_s hd ?_
  try simp only [↓reduceIte, ↓LL, LM, Value.cells, Nat.reduceAdd, Option.some.injEq, exists_eq_left', decide_true, decide_false, if_true, if_false, reduceCtorEq, cond_true, cond_false]
  refine f39_s ⟨by omega, by omega⟩ ?_
  by_cases c3 : ((D.A.length : Nat) : Int) < 126 + 4 * n
  · have e : openB D n = (1, D, []) := by unfold openB; rw [if_pos (.inr (.inr c3))]
    rw [e] at k1
    try simp only [↓reduceIte, ↓LL, LM, Value.cells, Nat.reduceAdd, Option.some.injEq, exists_eq_left', decide_true, decide_false, if_true, if_false, reduceCtorEq, cond_true, cond_false, c3]
    exact k1 (show ¬ (1 : Int) = 0 by decide) w hd (ChgS.refl _ _)
  have eO : openB D n = if mkd (D.rd 0) = true then recB D (pgL D n.toNat) else (0, D, pgL D n.toNat) := by
    unfold openB; rw [if_neg (by omega)]
  obtain ⟨n, rfl⟩ := Int.eq_ofNat_of_zero_le (show 0 ≤ n by omega)
  rw [Int.toNat_natCast] at eO
  try simp only [↓reduceIte, ↓LL, LM, Value.cells, Nat.reduceAdd, Option.some.injEq, exists_eq_left', decide_true, decide_false, if_true, if_false, reduceCtorEq, cond_true, cond_false, c3]
  rw [smr_run (buildPg p w)]
  have b1 := b_psh w (.cells #[pv p, .slice none 0 0, .bool false, .int .i64 0] 133)
  have q1 := blk_psh_new (w := w) (o := .cells #[pv p, .slice none 0 0, .bool false, .int .i64 0] 133)
  try simp only [↓reduceIte, ↓LL, LM, Value.cells, Nat.reduceAdd, Option.some.injEq, exists_eq_left', decide_true, decide_false, if_true, if_false, reduceCtorEq, cond_true, cond_false]
  generalize psh w (.cells #[pv p, .slice none 0 0, .bool false, .int .i64 0] 133) = w1 at *
  refine ⟨_, open_loop (W := w) hd (by omega) (Nat.le_refl _) n (n + 1) 0 w1 _ (by omega) (by omega) b1 q1 ownV_nil fun w2 u2 b2 q2 o2 => ?_⟩
  have hd2 := hd.below b2
  unfold f40_j1
  try simp only [↓reduceIte, ↓LL, LM, Value.cells, Nat.reduceAdd, Option.some.injEq, exists_eq_left', decide_true, decide_false, if_true, if_false, reduceCtorEq, cond_true, cond_false]
  refine f86_s hd2 0 fun w3 b3 => ?_
  have b03 := bt b2 b3
  have hd3 := hd.below b03
  have q3 := stay b3 q2
  have o3 := ownV_below o2 b3
  have uq : ∀ g, u2.ownBlock = some g → w.heap.size ≤ g := fun g hg => (ownV_lt o3 g hg).1
  try simp only [↓reduceIte, ↓LL, LM, Value.cells, Nat.reduceAdd, Option.some.injEq, exists_eq_left', decide_true, decide_false, if_true, if_false, reduceCtorEq, cond_true, cond_false]
  refine f85_s ?_
  by_cases cm : mkd (D.rd 0) = true
  · rw [if_pos cm] at eO
    rw [eO] at k0 k1
    try simp only [↓reduceIte, ↓LL, LM, Value.cells, Nat.reduceAdd, Option.some.injEq, exists_eq_left', decide_true, decide_false, if_true, if_false, reduceCtorEq, cond_true, cond_false, cm]
    refine f87_s hd3 q3 o3 h0 h1 fun w4 d4 hc4 ho4 => ?_
    have hc04 : ChgS (fpD p v b) w w4 := (ChgS.of_below b03 (S := fpD p v b)).trans (hc4.mono' (T := fun k => u2.ownBlock = some k ∨ fpD p v b k) fun k _ h => h) (fun k hk h => by
      rcases h with h | h
      · have := uq k h; omega
      · exact h)
    by_cases cz : (recB D (pgL D n)).1 = 0
    · have q4 := hc4.keep q3 fun h => by
        rcases h with h | h
        · obtain ⟨_, _, cur, hcur⟩ := ownV_lt o3 _ h
          rw [hcur] at q3; cases q3
        · exact dev_ne hd3 q3 (by decide) (by decide) h
      unfold f40_j3
      try simp only [↓reduceIte, ↓LL, LM, Value.cells, Nat.reduceAdd, Option.some.injEq, exists_eq_left', decide_true, decide_false, if_true, if_false, reduceCtorEq, cond_true, cond_false, cz, ne_eq]
      exact k0 cz w4 _ u2 (Nat.le_refl _) q4 (ho4 cz) d4 hc04
    · try simp only [↓reduceIte, ↓LL, LM, Value.cells, Nat.reduceAdd, Option.some.injEq, exists_eq_left', decide_true, decide_false, if_true, if_false, reduceCtorEq, cond_true, cond_false, cz, ne_eq]
      exact k1 cz w4 d4 hc04
  · have cm' : mkd (D.rd 0) = false := by simpa using cm
    rw [if_neg cm] at eO
    rw [eO] at k0
    unfold f40_j3
    try simp only [↓reduceIte, ↓LL, LM, Value.cells, Nat.reduceAdd, Option.some.injEq, exists_eq_left', decide_true, decide_false, if_true, if_false, reduceCtorEq, cond_true, cond_false, cm']
    exact k0 rfl w3 _ u2 (Nat.le_refl _) q3 o3 hd3 (ChgS.of_below b03)
end
end Go.Proofs.YtongpnolikkknaaGreatDoor

set_option maxRecDepth 20000
set_option maxHeartbeats 4000000
namespace Go.Proofs.YtongpnolikkknaaGreatDoor
open Sh RowKit Go.MapKept
abbrev Ch := Int × ByteArray
def encC (c : Ch) : List Value := [.int .i64 c.1, .string c.2]
theorem encC_len (c : Ch) : (encC c).length = 2 := rfl
theorem encC_one (c : Ch) : ∀ x ∈ encC c, x.oneCell' = true := by
  intro x hx
  rcases List.mem_cons.1 hx with rfl | hx
  · rfl
  · rw [List.mem_singleton.1 hx]; rfl
def pgR (L : List ByteArray) (n : Int) : ByteArray × Int := if 0 ≤ n ∧ n < L.length then (L.getD n.toNat ⟨#[]⟩, 0) else (⟨#[]⟩, 7)
def oddL (cs : List Ch) : Bool := decide (¬ ((cs.map (·.1)).Nodup ∧ ∀ c ∈ cs, c.2.size = 256))
def mayB (st : Bool) (N : Nat) (cs : List Ch) : Int := if st = true then 13 else if 31 < cs.length then 3 else if ∃ c ∈ cs, c.1 < 0 ∨ (N : Int) ≤ c.1 then 7 else if oddL cs = true then 1 else 0
theorem oddL_snoc {cs : List Ch} {c : Ch} : oddL (cs ++ [c]) = (oddL cs || decide (c.1 ∈ cs.map (·.1)) || decide (c.2.size ≠ 256)) := by
  unfold oddL
  rw [← Bool.decide_or, ← Bool.decide_or]
  congr 1
  apply propext
  rw [List.map_append, List.nodup_append]
  constructor
  · intro h
    by_cases h1 : ¬ ((cs.map (·.1)).Nodup ∧ ∀ c ∈ cs, c.2.size = 256)
    · exact .inl (.inl h1)
    · have h1 := Classical.not_not.1 h1
      by_cases h2 : c.1 ∈ cs.map (·.1)
      · exact .inl (.inr h2)
      · by_cases h3 : c.2.size = 256
        · exfalso
          refine h ⟨⟨h1.1, by simp, ?_⟩, ?_⟩
          · intro a ha b hb e
            rw [List.map_singleton, List.mem_singleton] at hb
            exact h2 (by rw [← hb, ← e]; exact ha)
          · intro x hx
            rcases List.mem_append.1 hx with hx | hx
            · exact h1.2 x hx
            · rw [List.mem_singleton.1 hx]; exact h3
        · exact .inr h3
  · rintro ((h | h) | h) ⟨⟨g1, _, g3⟩, g4⟩
    · exact h ⟨g1, fun x hx => g4 x (List.mem_append_left _ hx)⟩
    · exact g3 _ h _ (by simp) rfl
    · exact h (g4 c (by simp))
theorem pt49 : Tryz.prog.underlying 40 = some (.pointer (Tryz.prog.pointee 40)) := by kernel_rfl
section
variable {e : TypeId} {B C Bp : Nat} {W w w' : World} {p q b : Nat} {v u lv : Value} {D : Dv} {Q : Value → World → Prop}
theorem f78_s {L : List ByteArray} {st c : Value} {n : Int} (hq : w.heap[q]? = some (.cells #[pv p, u, st, c] 133 (0, 0))) (hu : ownV Bp 9 w u (L.map .string)) (kk : Q (.tuple #[.string (pgR L n).1, .int .i64 (pgR L n).2]) w) : f78 (pv q) (.int .i64 n) w Q := by
  unfold f78
  rw [pn_eq pt49]
  have c1 : w.cell? ⟨q, 1, none⟩ = some u := by rw [cell_of_blk hq]; rfl
  have lu := lnl_own hu
  rw [List.length_map] at lu
  unfold pgR at kk
  by_cases h0 : n < 0
  · rw [if_neg (by omega)] at kk
    try simp only [↓reduceIte, ↓LL, LM, Value.cells, Nat.reduceAdd, Option.some.injEq, exists_eq_left', decide_true, decide_false, if_true, if_false, reduceCtorEq, cond_true, cond_false, Option.isNone, h0]
    exact kk
  by_cases h1 : (L.length : Int) ≤ n
  · rw [if_neg (by omega)] at kk
    have h1' : n ≥ (L.length : Int) := h1
    try simp only [↓reduceIte, ↓LL, LM, Value.cells, Nat.reduceAdd, Option.some.injEq, exists_eq_left', decide_true, decide_false, if_true, if_false, reduceCtorEq, cond_true, cond_false, Option.isNone, h0, c1, lu, h1, h1']
    exact kk
  obtain ⟨n, rfl⟩ := Int.eq_ofNat_of_zero_le (show 0 ≤ n by omega)
  have hn : n < L.length := by omega
  have h1' : ¬ ((n : Nat) : Int) ≥ (L.length : Int) := h1
  rw [if_pos (by omega)] at kk
  obtain ⟨g, hia, hc, _⟩ := cell_V hu (i := n) (by rw [List.length_map]; exact hn)
  rw [List.getElem_map] at hc
  have eg : L.getD ((n : Nat) : Int).toNat ⟨#[]⟩ = L[n] := by rw [Int.toNat_natCast, List.getD_eq_getElem?_getD, List.getElem?_eq_getElem hn]; rfl
  rw [eg] at kk
  try simp only [↓reduceIte, ↓LL, LM, Value.cells, Nat.reduceAdd, Option.some.injEq, exists_eq_left', decide_true, decide_false, if_true, if_false, reduceCtorEq, cond_true, cond_false, Option.isNone, h0, c1, lu, h1, h1', hia, hc]
  exact kk
theorem f79_s {L : List ByteArray} {st c : Value} (hq : w.heap[q]? = some (.cells #[pv p, u, st, c] 133 (0, 0))) (hu : ownV Bp 9 w u (L.map .string)) (kk : Q (.int .i64 (L.length : Nat)) w) : f79 (pv q) w Q := by
  unfold f79
  rw [pn_eq pt49]
  have c1 : w.cell? ⟨q, 1, none⟩ = some u := by rw [cell_of_blk hq]; rfl
  have lu := lnl_own hu
  rw [List.length_map] at lu
  try simp only [↓reduceIte, ↓LL, LM, Value.cells, Nat.reduceAdd, Option.some.injEq, exists_eq_left', decide_true, decide_false, if_true, if_false, reduceCtorEq, cond_true, cond_false, Option.isNone, c1, lu]
  exact kk
theorem lnl_S {α : Type} {n : Nat} {R : RepT α} {l : List α} (h : rdS n R w v l) : ∀ (K : Value → M) (w1 : World) (Q : Value → World → Prop), lnl v K w1 Q = K (.int .i64 ((l.length : Nat) : Int)) w1 Q := by
  intro K w1 Q
  rcases h with ⟨rfl, rfl⟩ | ⟨a, c, rfl, _⟩ <;> rw [lnl_e] <;> rfl
theorem may_loop {L : List ByteArray} {st c : Value} {cs : List Ch} {mb : Nat} (hq : W.heap[q]? = some (.cells #[pv p, u, st, c] 133 (0, 0))) (hu : ownV Bp 9 W u (L.map .string)) (hcs : rdS 2 (eR encC) W v cs) (hl : cs.length ≤ 31) (hL : L.length ≤ 1000000) (hmb : W.heap.size ≤ mb) : ∀ (d m i : Nat) (w : World) (ML : List (Int × Value)), i + d = cs.length → d < m → Below W.heap.size W w → MapAt kI w mb ML →
    (∀ k, lk ML k = if k ∈ (cs.take i).map (·.1) then some (.int .i64 (((cs.take i).map (·.1)).count k : Nat)) else none) → (∀ x ∈ cs.take i, 0 ≤ x.1 ∧ x.1 < (L.length : Int)) →
    (∀ w', Below W.heap.size W w' → Q (.int .i64 (mayB false L.length cs)) w') →
    itr (fun _ _ _ _ _ _ => bot) (f89_b2 f89_j1) m (pv q) (.map (some mb)) (.bool (oddL (cs.take i))) v (.int .i64 ((cs.length : Nat) : Int)) (.int .i64 ((i : Nat) : Int)) w Q := by
  intro d
  induction d with
  | zero =>
    intro m i w ML hi hm hb hM hlk hall kk
    obtain ⟨m, rfl⟩ : ∃ x, m = x + 1 := ⟨m - 1, by omega⟩
    show f89_b2 f89_j1 _ _ _ _ _ _ _ w Q
    unfold f89_b2
    have cc : ¬ (i : Int) < (cs.length : Nat) := by omega
    try simp only [↓reduceIte, ↓LL, LM, Value.cells, Nat.reduceAdd, Option.some.injEq, exists_eq_left', decide_true, decide_false, if_true, if_false, reduceCtorEq, cond_true, cond_false, cc]
    unfold f89_j1
    rw [List.take_of_length_le (by omega)] at hall ⊢
    have e : mayB false L.length cs = if oddL cs = true then 1 else 0 := by
      unfold mayB
      rw [if_neg (by decide), if_neg (by omega), if_neg (fun ⟨x, hx, h⟩ => by have := hall x hx; omega)]
    rw [e] at kk
    cases ho : oddL cs with
    | true =>
      rw [ho, if_pos rfl] at kk
      try simp only [↓reduceIte, ↓LL, LM, Value.cells, Nat.reduceAdd, Option.some.injEq, exists_eq_left', decide_true, decide_false, if_true, if_false, reduceCtorEq, cond_true, cond_false]
      exact kk w hb
    | false =>
      rw [ho, if_neg (by decide)] at kk
      try simp only [↓reduceIte, ↓LL, LM, Value.cells, Nat.reduceAdd, Option.some.injEq, exists_eq_left', decide_true, decide_false, if_true, if_false, reduceCtorEq, cond_true, cond_false]
      exact kk w hb
  | succ d ih =>
    intro m i w ML hi hm hb hM hlk hall kk
    obtain ⟨m, rfl⟩ : ∃ x, m = x + 1 := ⟨m - 1, by omega⟩
    show f89_b2 f89_j1 _ _ _ _ _ _ _ w Q
    unfold f89_b2
    have cc : (i : Int) < (cs.length : Nat) := by omega
    have hil : i < cs.length := by omega
    have h3 : IntKind.i64.wrap ((i : Int) + 1) = ((i + 1 : Nat) : Int) := by rw [w64 (by omega) (by omega)]; rfl
    obtain ⟨ad, es, he1, he2, he3, hia⟩ := rdS_at (rdS_below eR_st hb hcs) hil
    have hts : cs.take (i + 1) = cs.take i ++ [cs[i]] := List.take_succ_eq_append_getElem hil
    have hmem := List.getElem_mem hil
    have hq' := stay hb hq
    have hu' := ownV_below hu hb
    try simp only [↓reduceIte, ↓LL, LM, Value.cells, Nat.reduceAdd, Option.some.injEq, exists_eq_left', decide_true, decide_false, if_true, if_false, reduceCtorEq, cond_true, cond_false, cc, hia]
    refine ldn_at he2 he1 ?_
    have he3 : es = encC cs[i] := he3
    rw [he3]
    generalize cs[i] = x at *
    obtain ⟨n, s⟩ := x
    have b1 := b_psh w (.cells #[.int .i64 0, .string ⟨#[]⟩] 48)
    have k1 := blk_psh_new (w := w) (o := .cells #[.int .i64 0, .string ⟨#[]⟩] 48)
    try simp only [↓reduceIte, ↓LL, LM, Value.cells, Nat.reduceAdd, Option.some.injEq, exists_eq_left', decide_true, decide_false, if_true, if_false, reduceCtorEq, cond_true, cond_false]
    refine stn_box k1 (by simp) (by simp [encC]) (by intro x hx; exact encC_one (n, s) x (by simpa using hx)) fun w2 k2 u2 => ?_
    have b2 : Below w.heap.size w w2 := b1.trans (u2.below (Nat.le_refl _))
    have hb2 := bt hb b2
    have c0 : w2.cell? ⟨w.heap.size, 0, none⟩ = some (.int .i64 n) := by rw [cell_of_blk k2]; rfl
    have c1 : w2.cell? ⟨w.heap.size, 1, none⟩ = some (.string s) := by rw [cell_of_blk k2]; rfl
    have hq2 := stay b2 hq'
    have cq : w2.cell? ⟨q, 1, none⟩ = some u := by rw [cell_of_blk hq2]; rfl
    have lu := lnl_own (ownV_below hu' b2)
    rw [List.length_map] at lu
    by_cases h7 : n < 0 ∨ (L.length : Int) ≤ n
    · have e : mayB false L.length cs = 7 := by
        unfold mayB
        rw [if_neg (by decide), if_neg (by omega), if_pos ⟨(n, s), hmem, h7⟩]
      rw [e] at kk
      have fin := kk (drw w2) ⟨hb2.os, hb2.tape, hb2.output, hb2.size, hb2.block⟩
      by_cases h0 : n < 0
      · try simp only [↓reduceIte, ↓LL, LM, Value.cells, Nat.reduceAdd, Option.some.injEq, exists_eq_left', decide_true, decide_false, if_true, if_false, reduceCtorEq, cond_true, cond_false, c0, h0]
        exact fin
      · have h1 : n ≥ (L.length : Int) := by omega
        have h1' : (L.length : Int) ≤ n := h1
        try simp only [↓reduceIte, ↓LL, LM, Value.cells, Nat.reduceAdd, Option.some.injEq, exists_eq_left', decide_true, decide_false, if_true, if_false, reduceCtorEq, cond_true, cond_false, c0, h0, cq, lu, h1, h1']
        exact fin
    · have h0 : ¬ n < 0 := by omega
      have h1 : ¬ n ≥ (L.length : Int) := by omega
      have h1' : ¬ (L.length : Int) ≤ n := h1
      try simp only [↓reduceIte, ↓LL, LM, Value.cells, Nat.reduceAdd, Option.some.injEq, exists_eq_left', decide_true, decide_false, if_true, if_false, reduceCtorEq, cond_true, cond_false, c0, h0, cq, lu, h1, h1']
      have hM2 : MapAt kI (drw w2) mb ML := hM.below (⟨b2.os, b2.tape, b2.output, b2.size, b2.block⟩ : Below w.heap.size w (drw w2))
      rw [show (Value.int .i64 n) = kI n from rfl, look_v KKi hM2 z3 n]
      have hln := hlk n
      have hcle : ((cs.take i).map (·.1)).count n ≤ 31 := Nat.le_trans (List.count_le_length) (by rw [List.length_map, List.length_take]; omega)
      have hget : (lk ML n).getD (.int .i64 0) = .int .i64 (((cs.take i).map (·.1)).count n : Nat) := by
        rw [hln]
        split
        · rfl
        · rename_i hn
          rw [List.count_eq_zero.2 hn]; rfl
      have hw : IntKind.i64.wrap ((((cs.take i).map (·.1)).count n : Nat) + 1) = (((cs.take i).map (·.1)).count n : Nat) + 1 := w64 (by omega) (by omega)
      rw [hget]
      try simp only [↓reduceIte, ↓LL, LM, Value.cells, Nat.reduceAdd, Option.some.injEq, exists_eq_left', decide_true, decide_false, if_true, if_false, reduceCtorEq, cond_true, cond_false, hw]
      refine upd_map KKi hM2 n _ fun w3 hM3 u3 => ?_
      have hb3 : Below W.heap.size W w3 := (show Below W.heap.size W (drw w2) from ⟨hb2.os, hb2.tape, hb2.output, hb2.size, hb2.block⟩).trans (u3.below hmb)
      have hne : w.heap.size ≠ mb := by have := hM.lt; omega
      have k3 : w3.heap[w.heap.size]? = _ := Upd_keep u3 (show (drw w2).heap[w.heap.size]? = _ from k2) hne
      have c0 : w3.cell? ⟨w.heap.size, 0, none⟩ = some (.int .i64 n) := by rw [cell_of_blk k3]; rfl
      have c1 : w3.cell? ⟨w.heap.size, 1, none⟩ = some (.string s) := by rw [cell_of_blk k3]; rfl
      have hl3 : lk (put ML n (.int .i64 ((((cs.take i).map (·.1)).count n : Nat) + 1))) n = some (.int .i64 ((((cs.take i).map (·.1)).count n : Nat) + 1)) := by rw [lk_put, if_pos rfl]
      have hlook : ∀ (K : Value → M), smr Tryz.prog (Instr.lookup 164 (.map (some mb)) (.int .i64 n) false) K w3 Q = K (.int .i64 ((((cs.take i).map (·.1)).count n : Nat) + 1)) w3 Q := fun K => by
        rw [show (Value.int .i64 n) = kI n from rfl, look_v KKi hM3 z3 n, hl3]; rfl
      have next : ∀ o, o = oddL (cs.take (i + 1)) → itr (fun _ _ _ _ _ _ => bot) (f89_b2 f89_j1) m (pv q) (.map (some mb)) (.bool o) v (.int .i64 ((cs.length : Nat) : Int)) (.int .i64 ((i + 1 : Nat) : Int)) w3 Q := by
        rintro o rfl
        refine ih m (i + 1) w3 _ (by omega) (by omega) hb3 hM3 (fun k => ?_) (fun x hx => ?_) kk
        · have em : (k ∈ (cs.take (i + 1)).map (·.1)) ↔ (k ∈ (cs.take i).map (·.1) ∨ k = n) := by rw [hts, List.map_append]; simp
          have ec : ((cs.take (i + 1)).map (·.1)).count k = ((cs.take i).map (·.1)).count k + ([n] : List Int).count k := by rw [hts, List.map_append, List.count_append]; rfl
          rw [lk_put]
          by_cases hk : k = n
          · subst hk
            rw [if_pos rfl, if_pos (em.2 (.inr rfl)), ec]
            simp
          · rw [if_neg hk, hlk k]
            have h0 : ([n] : List Int).count k = 0 := List.count_eq_zero.2 (by simpa using hk)
            rw [ec, h0]
            by_cases hin : k ∈ (cs.take i).map (·.1)
            · rw [if_pos hin, if_pos (em.2 (.inl hin))]; rfl
            · rw [if_neg hin, if_neg (fun h => (em.1 h).elim hin hk)]
        · rw [hts] at hx
          rcases List.mem_append.1 hx with hx | hx
          · exact hall x hx
          · rw [List.mem_singleton.1 hx]; exact ⟨by simpa using h0, by simpa using h1⟩
      have hod : oddL (cs.take (i + 1)) = (oddL (cs.take i) || decide (n ∈ (cs.take i).map (·.1)) || decide (s.size ≠ 256)) := by rw [hts, oddL_snoc]
      try unfold kI
      cases ho : oddL (cs.take i) with
      | true =>
        rw [ho] at hod
        try simp only [↓reduceIte, ↓LL, LM, Value.cells, Nat.reduceAdd, Option.some.injEq, exists_eq_left', decide_true, decide_false, if_true, if_false, reduceCtorEq, cond_true, cond_false, h3]
        exact next true (by rw [hod]; rfl)
      | false =>
        rw [ho] at hod
        by_cases hin : n ∈ (cs.take i).map (·.1)
        · have hpos : 0 < ((cs.take i).map (·.1)).count n := List.count_pos_iff.2 hin
          have g : ((((cs.take i).map (·.1)).count n : Nat) : Int) + 1 > 1 := by omega
          have g' : (1 : Int) < ((((cs.take i).map (·.1)).count n : Nat) : Int) + 1 := g
          try simp only [↓reduceIte, ↓LL, LM, Value.cells, Nat.reduceAdd, Option.some.injEq, exists_eq_left', decide_true, decide_false, if_true, if_false, reduceCtorEq, cond_true, cond_false, c0, hlook, g, g', h3]
          exact next true (by rw [hod, decide_eq_true hin]; rfl)
        · have hz : ((cs.take i).map (·.1)).count n = 0 := List.count_eq_zero.2 hin
          have g' : ¬ (1 : Int) < ((((cs.take i).map (·.1)).count n : Nat) : Int) + 1 := by omega
          have g : ¬ ((((cs.take i).map (·.1)).count n : Nat) : Int) + 1 > 1 := g'
          by_cases hs : s.size = 256
          · have hs' : ((s.size : Nat) : Int) = 256 := by omega
            try simp only [↓reduceIte, ↓LL, LM, Value.cells, Nat.reduceAdd, Option.some.injEq, exists_eq_left', decide_true, decide_false, if_true, if_false, reduceCtorEq, cond_true, cond_false, c0, c1, hlook, g, g', h3, ne_eq, hs']
            exact next false (by rw [hod, decide_eq_false hin, decide_eq_false (fun h => h hs)]; rfl)
          · have hs' : ¬ ((s.size : Nat) : Int) = 256 := by omega
            try simp only [↓reduceIte, ↓LL, LM, Value.cells, Nat.reduceAdd, Option.some.injEq, exists_eq_left', decide_true, decide_false, if_true, if_false, reduceCtorEq, cond_true, cond_false, c0, c1, hlook, g, g', h3, ne_eq, hs']
            exact next true (by rw [hod, decide_eq_false hin, decide_eq_true hs]; rfl)
theorem f89_s {L : List ByteArray} {st : Bool} {c : Value} {cs : List Ch} (hq : w.heap[q]? = some (.cells #[pv p, u, .bool st, c] 133 (0, 0))) (hu : ownV Bp 9 w u (L.map .string)) (hcs : rdS 2 (eR encC) w v cs) (hL : L.length ≤ 1000000)
    (kk : ∀ w', Below w.heap.size w w' → Q (.int .i64 (mayB st L.length cs)) w') : f89 (pv q) v w Q := by
  unfold f89
  have c2 : w.cell? ⟨q, 2, none⟩ = some (.bool st) := by rw [cell_of_blk hq]; rfl
  have lv := lnl_S hcs
  cases st with
  | true =>
    try simp only [↓reduceIte, ↓LL, LM, Value.cells, Nat.reduceAdd, Option.some.injEq, exists_eq_left', decide_true, decide_false, if_true, if_false, reduceCtorEq, cond_true, cond_false, c2]
    exact kk w (Below.refl _ _)
  | false =>
    by_cases h3 : 31 < cs.length
    · have e : mayB false L.length cs = 3 := by unfold mayB; rw [if_neg (by decide), if_pos h3]
      rw [e] at kk
      have h3' : (31 : Int) < ((cs.length : Nat) : Int) := by omega
      have h3'' : ((cs.length : Nat) : Int) > 31 := h3'
      try simp only [↓reduceIte, ↓LL, LM, Value.cells, Nat.reduceAdd, Option.some.injEq, exists_eq_left', decide_true, decide_false, if_true, if_false, reduceCtorEq, cond_true, cond_false, c2, lv, h3', h3'']
      exact kk w (Below.refl _ _)
    · have h3' : ¬ (31 : Int) < ((cs.length : Nat) : Int) := by omega
      have h3'' : ¬ ((cs.length : Nat) : Int) > 31 := h3'
      try simp only [↓reduceIte, ↓LL, LM, Value.cells, Nat.reduceAdd, Option.some.injEq, exists_eq_left', decide_true, decide_false, if_true, if_false, reduceCtorEq, cond_true, cond_false, c2, lv, h3', h3'']
      refine mm_map (kv := kI) fun w1 hM b1 => ?_
      try simp only [↓reduceIte, ↓LL, LM, Value.cells, Nat.reduceAdd, Option.some.injEq, exists_eq_left', decide_true, decide_false, if_true, if_false, reduceCtorEq, cond_true, cond_false, lv]
      refine ⟨_, may_loop (W := w) hq hu hcs (by omega) hL (Nat.le_refl _) cs.length (cs.length + 1) 0 w1 [] (by omega) (by omega) b1 hM (fun k => by simp [lk]) (by simp) kk⟩
end
end Go.Proofs.YtongpnolikkknaaGreatDoor

set_option maxRecDepth 20000
set_option maxHeartbeats 4000000
namespace Go.Proofs.YtongpnolikkknaaGreatDoor
open Sh RowKit Go.MapKept
def chG (cs : List Ch) (k : Nat) : Ch := cs.getD k (0, ⟨#[]⟩)
def imsD (L : List ByteArray) (cs : List Ch) (n : Nat) : List De := (List.range n).flatMap fun k => pageD (imG k) (L.getD (chG cs k).1.toNat ⟨#[]⟩)
def pgsD (cs : List Ch) (n : Nat) : List De := (List.range n).flatMap fun k => pageD (plG (chG cs k).1) (chG cs k).2
def stepsD (L : List ByteArray) (cs : List Ch) : List De :=
  [.wr 1 (dirW (cs.map (·.1))).1] ++ imsD L cs cs.length ++ [.sy] ++ markD true ++ pgsD cs cs.length ++ [.sy] ++ markD false
theorem imsD_succ (L : List ByteArray) (cs : List Ch) (n : Nat) : imsD L cs (n + 1) = imsD L cs n ++ pageD (imG n) (L.getD (chG cs n).1.toNat ⟨#[]⟩) := by
  unfold imsD; rw [List.range_succ, List.flatMap_append]; simp
theorem pgsD_succ (cs : List Ch) (n : Nat) : pgsD cs (n + 1) = pgsD cs n ++ pageD (plG (chG cs n).1) (chG cs n).2 := by
  unfold pgsD; rw [List.range_succ, List.flatMap_append]; simp
theorem imsD_len (L : List ByteArray) (cs : List Ch) : ∀ n, (imsD L cs n).length ≤ 4 * n
  | 0 => by simp [imsD]
  | n + 1 => by
    rw [imsD_succ, List.length_append]
    have := imsD_len L cs n
    have := pageD_len (imG n) (L.getD (chG cs n).1.toNat ⟨#[]⟩)
    omega
theorem pgsD_len (cs : List Ch) : ∀ n, (pgsD cs n).length ≤ 4 * n
  | 0 => by simp [pgsD]
  | n + 1 => by
    rw [pgsD_succ, List.length_append]
    have := pgsD_len cs n
    have := pageD_len (plG (chG cs n).1) (chG cs n).2
    omega
theorem stepsD_len (L : List ByteArray) (cs : List Ch) : (stepsD L cs).length ≤ 8 * cs.length + 7 := by
  have h1 := imsD_len L cs cs.length
  have h2 := pgsD_len cs cs.length
  unfold stepsD
  simp only [List.length_append, List.length_cons, List.length_nil, markD]
  omega
theorem slI : slT Tryz.prog 22 3 (.int .i64 0) 1 8 := sl29
section
variable {e : TypeId} {B C Bp : Nat} {W w w' : World} {p q b : Nat} {v u lv : Value} {D : Dv} {Q : Value → World → Prop}
theorem ownI_lt {k : IntKind} {l : List Int} (h : ownI C e k w u l) : ∀ g, u.ownBlock = some g → C ≤ g ∧ g < w.heap.size ∧ ∃ cur, w.heap[g]? = some (.cells cur e (0, 0)) := by
  intro g hg
  obtain ⟨h1, h2⟩ := h
  rcases h2 with ⟨rfl, _⟩ | ⟨g', cap, cur, rfl, hg', hb', _⟩
  · cases hg
  · cases hg; exact ⟨hg', blk_lt hb', _, hb'⟩
theorem DsAt_ty {ds : List De} (h : DsAt B C w q p u ds) : ∀ g, u.ownBlock = some g → B ≤ g ∧ g < w.heap.size ∧ ∃ cur, w.heap[g]? = some (.cells cur 165 (0, 0)) := by
  obtain ⟨xs, h1, h2⟩ := h
  exact fun g hg => ownV_lt h1 g hg
/-- deeds behind deeds: with the functions told -/
theorem ap_dx {B2 : Nat} {v u : Value} {xs ys : List Value} {K : Value → M} (h1 : ownV B 165 w v xs) (k1 : ownV B2 165 w u ys) (hone : ∀ y ∈ ys, y.oneCell' = true) (hl : xs.length + ys.length ≤ 100000) (hB : B ≤ w.heap.size)
    (kk : ∀ w' v', Below B w w' → ownV B 165 w' v' (xs ++ ys) → (∀ C zs fs, dRs C w q p zs fs → dRs C w' q p zs fs) → ChgS (fun k => v.ownBlock = some k) w w' → (∀ g, v'.ownBlock = some g → v.ownBlock = some g ∨ w.heap.size ≤ g) → K v' w' Q) :
    sm Tryz.prog (Builtin.append_ #[138, 138] 138 #[v, u]) K w Q := by
  obtain ⟨i, g1, g2, g3, g4, g5⟩ := slT_info slD
  rcases ownV_cases k1 with ⟨rfl, rfl⟩ | ⟨g, cap, cur, rfl, hg, hbk, hn, hm, hs, ht⟩
  · refine ⟨v, w, run_append_owned_none w B 138 138 165 i 1 g1 g2 v xs.length xs h1, kk w v ⟨rfl, rfl, rfl, Nat.le_refl _, fun _ _ => rfl⟩ ?_ (fun _ _ _ h => h) (ChgS.refl _ w) (fun g hg => .inl hg)⟩
    rw [List.append_nil]
    exact h1
  · obtain ⟨v', w', hrun, ho', hg', _, hf⟩ := run_append_own_at (P := Tryz.prog) w B 138 138 165 i _ 1 8 g1 g2 g3 g4 g5 rfl (by decide) v xs.length xs h1 ⟨g, 0, none⟩ ys.length cap ys (by simp) (by
        intro j u hj
        rw [add_lit, Nat.zero_add, cell_of_blk hbk]
        have hlt : j < ys.length := by
          rcases Nat.lt_or_ge j ys.length with c | c
          · exact c
          · rw [List.getElem?_eq_none c] at hj; cases hj
        have e3 : (cur.toList.take ys.length)[j]? = ys[j]? := by rw [ht]
        rw [List.getElem?_take_of_lt hlt, hj] at e3
        simpa using e3) hone (by unfold maxLen; omega) (by omega) hB
    have hc : ChgS (fun k => v.ownBlock = some k) w w' := ChgS.grown hg' fun k hk => hk
    refine ⟨v', w', hrun, kk w' v' (hc.below (fun k hk => (ownV_lt h1 k hk).1) hB) ?_ (fun C zs fs hz => dRs_imp hz fun y d' hy => dR_chg hy hc fun g cur e _ hg he hn => ?_) hc (fun g hg => ?_)⟩
    · unfold ownV; rw [List.length_append]; exact ho'
    · obtain ⟨_, _, cur', hc'⟩ := ownV_lt h1 g hn
      rw [hc'] at hg
      cases hg
      rcases he with he | he | he <;> revert he <;> decide
    · rcases hf with hf | hf
      · left; rw [← hf]; exact hg
      · right; rw [hf] at hg; cases hg; omega
/-- no deed's number lies in that row -/
def NoB (v5 : Value) (xs : List Value) : Prop := ∀ f a b c, Value.func f #[] #[pv a, pv b, pv c] ∈ xs → v5.ownBlock ≠ some b
theorem NoB_app {v5 : Value} {xs ys : List Value} (h1 : NoB v5 xs) (h2 : NoB v5 ys) : NoB v5 (xs ++ ys) := fun f a b c h => (List.mem_append.1 h).elim (h1 f a b c) (h2 f a b c)
theorem dR_B {x : Value} {d : De} (h : dR C w q p x d) : ∀ f a b c, x = .func f #[] #[pv a, pv b, pv c] → C ≤ b ∧ b < w.heap.size := by
  intro f a b c e
  cases d with
  | wr i s =>
    obtain ⟨a', b', c', rfl, r1, r2, r3, m1, m2, m3⟩ := h
    injection e with _ _ e3
    injection e3 with e4
    injection e4 with _ e5
    injection e5 with e6 _
    injection e6 with e7
    injection e7 with e8
    injection e8 with e9
    subst e9
    exact ⟨r2, blk_lt m2⟩
  | sy =>
    obtain rfl : x = _ := h
    injection e with _ e2 _
    cases e2
theorem dRs_B : ∀ {xs : List Value} {ds : List De}, dRs C w q p xs ds → ∀ f a b c, Value.func f #[] #[pv a, pv b, pv c] ∈ xs → C ≤ b ∧ b < w.heap.size
  | [], [], _, f, a, b, c, hm => by simp at hm
  | x :: xs, d :: ds, h, f, a, b, c, hm => by
    rcases List.mem_cons.1 hm with rfl | hm
    · exact dR_B h.1 f a b c rfl
    · exact dRs_B h.2 f a b c hm
theorem own_ints {l : List Int} (h : ownV C 3 w v (l.map (.int .i64))) : ownI C 3 .i64 w v l := by
  unfold ownV at h
  unfold ownI
  rw [List.length_map] at h
  exact h
theorem steps_loop {L : List ByteArray} {cs : List Ch} {st c : Value} {j1 : Value → Value → Value → Value → M} (hq : W.heap[q]? = some (.cells #[pv p, u, st, c] 133 (0, 0))) (hu : ownV Bp 9 W u (L.map .string)) (hcs : rdS 2 (eR encC) W lv cs) (hl : cs.length ≤ 31) (hbd : ∀ x ∈ cs, 0 ≤ x.1 ∧ x.1 < (L.length : Int)) (hL : L.length ≤ 1000) :
    ∀ (d m i : Nat) (w : World) (v5 v6 v7 : Value) (xs6 xs7 : List Value), i + d = cs.length → d < m → Below W.heap.size W w → ownV W.heap.size 3 w v5 (((cs.take i).map (·.1)).map (.int .i64)) →
    ownV W.heap.size 165 w v6 xs6 → dRs W.heap.size w q p xs6 (imsD L cs i) → NoB v5 xs6 → ownV W.heap.size 165 w v7 xs7 → dRs W.heap.size w q p xs7 (pgsD cs i) → NoB v5 xs7 → (∀ g, v6.ownBlock = some g → v7.ownBlock ≠ some g) →
    (∀ w' v5 v6 v7, Below W.heap.size W w' → ownI W.heap.size 3 .i64 w' v5 (cs.map (·.1)) → DsAt W.heap.size W.heap.size w' q p v6 (imsD L cs cs.length) → DsAt W.heap.size W.heap.size w' q p v7 (pgsD cs cs.length) → (∀ g, v6.ownBlock = some g → v7.ownBlock ≠ some g) → j1 (pv q) v5 v6 v7 w' Q) →
    itr (fun _ _ _ _ _ _ _ => bot) (f91_b2 j1) m (pv q) v5 v6 v7 lv (.int .i64 ((cs.length : Nat) : Int)) (.int .i64 ((i : Nat) : Int)) w Q := by
  intro d
  induction d with
  | zero =>
    intro m i w v5 v6 v7 xs6 xs7 hi hm hb h5 h6 d6 n6 h7 d7 n7 hne kk
    obtain ⟨m, rfl⟩ : ∃ x, m = x + 1 := ⟨m - 1, by omega⟩
    show f91_b2 j1 _ _ _ _ _ _ _ _ w Q
    unfold f91_b2
    have cc : ¬ (i : Int) < (cs.length : Nat) := by omega
    try simp only [↓reduceIte, ↓LL, LM, Value.cells, Nat.reduceAdd, Option.some.injEq, exists_eq_left', decide_true, decide_false, if_true, if_false, reduceCtorEq, cond_true, cond_false, cc]
    have : i = cs.length := by omega
    subst this
    rw [List.take_length] at h5
    exact kk w v5 v6 v7 hb (own_ints h5) ⟨xs6, h6, d6⟩ ⟨xs7, h7, d7⟩ hne
  | succ d ih =>
    intro m i w v5 v6 v7 xs6 xs7 hi hm hb h5 h6 d6 n6 h7 d7 n7 hne kk
    obtain ⟨m, rfl⟩ : ∃ x, m = x + 1 := ⟨m - 1, by omega⟩
    show f91_b2 j1 _ _ _ _ _ _ _ _ w Q
    unfold f91_b2
    have cc : (i : Int) < (cs.length : Nat) := by omega
    have hil : i < cs.length := by omega
    have h3 : IntKind.i64.wrap ((i : Int) + 1) = ((i + 1 : Nat) : Int) := by rw [w64 (by omega) (by omega)]; rfl
    obtain ⟨ad, es, he1, he2, he3, hia⟩ := rdS_at (rdS_below eR_st hb hcs) hil
    have hts : cs.take (i + 1) = cs.take i ++ [cs[i]] := List.take_succ_eq_append_getElem hil
    have hmem := List.getElem_mem hil
    have hch : chG cs i = cs[i] := by unfold chG; rw [List.getD_eq_getElem?_getD, List.getElem?_eq_getElem hil]; rfl
    have e6 := imsD_succ L cs i
    have e7 := pgsD_succ cs i
    have l6 := imsD_len L cs i
    have l7 := pgsD_len cs i
    have x6 := dRs_len d6
    have x7 := dRs_len d7
    rw [hch] at e6 e7
    try simp only [↓reduceIte, ↓LL, LM, Value.cells, Nat.reduceAdd, Option.some.injEq, exists_eq_left', decide_true, decide_false, if_true, if_false, reduceCtorEq, cond_true, cond_false, cc, hia]
    refine ldn_at he2 he1 ?_
    have he3 : es = encC cs[i] := he3
    rw [he3]
    generalize cs[i] = x at *
    obtain ⟨n, s⟩ := x
    obtain ⟨n0, n1'⟩ := hbd _ hmem
    have n0 : 0 ≤ n := n0
    have n1' : n < (L.length : Int) := n1'
    obtain ⟨n, rfl⟩ := Int.eq_ofNat_of_zero_le n0
    have b1 := b_psh w (.cells #[.int .i64 0] 3)
    have k1 := blk_psh_new (w := w) (o := .cells #[.int .i64 0] 3)
    have z1 : (psh w (.cells #[.int .i64 0] 3)).heap.size = w.heap.size + 1 := size_psh
    try simp only [↓reduceIte, ↓LL, LM, Value.cells, Nat.reduceAdd, Option.some.injEq, exists_eq_left', decide_true, decide_false, if_true, if_false, reduceCtorEq, cond_true, cond_false]
    generalize psh w (.cells #[.int .i64 0] 3) = w1 at *
    have b2 := b_psh w1 (.cells #[.int .i64 0, .string ⟨#[]⟩] 48)
    have k2 := blk_psh_new (w := w1) (o := .cells #[.int .i64 0, .string ⟨#[]⟩] 48)
    have k1 := stay b2 k1
    have z2 : (psh w1 (.cells #[.int .i64 0, .string ⟨#[]⟩] 48)).heap.size = w1.heap.size + 1 := size_psh
    generalize psh w1 (.cells #[.int .i64 0, .string ⟨#[]⟩] 48) = w2 at *
    refine st_box (o := 0) (v := .int .i64 ((i : Nat) : Int)) k1 (by decide) rfl fun w3 k1 u3 => ?_
    have k2 := Upd_keep u3 k2 (by omega)
    refine stn_box k2 (by simp) (by simp [encC]) (by intro x hx; exact encC_one (((n : Nat) : Int), s) x (by simpa using hx)) fun w4 k2 u4 => ?_
    have k1 : w4.heap[w.heap.size]? = some (.cells #[.int .i64 ((i : Nat) : Int)] 3 (0, 0)) := Upd_keep u4 k1 (by omega)
    have k2 : w4.heap[w1.heap.size]? = some (.cells #[.int .i64 ((n : Nat) : Int), .string s] 48 (0, 0)) := k2
    have b4 : Below w.heap.size w w4 := ((bt b1 b2).trans (u3.below (Nat.le_refl _))).trans (u4.below (by omega))
    have hb4 := bt hb b4
    have c0 : w4.cell? ⟨w1.heap.size, 0, none⟩ = some (.int .i64 ((n : Nat) : Int)) := by rw [cell_of_blk k2]; rfl
    try simp only [↓reduceIte, ↓LL, LM, Value.cells, Nat.reduceAdd, Option.some.injEq, exists_eq_left', decide_true, decide_false, if_true, if_false, reduceCtorEq, cond_true, cond_false, c0]
    have h5w := ownV_below h5 b4
    have h5T := ownV_lt h5w
    have lt5 : ∀ g, v5.ownBlock = some g → g < w.heap.size := fun g hg => (ownV_lt h5 g hg).2.1
    have len5 : (((cs.take i).map (·.1)).map (Value.int .i64)).length ≤ 31 := by rw [List.length_map, List.length_map, List.length_take]; omega
    refine ap_V slI rfl rfl rfl h5w (by unfold maxLen; omega) (by omega) hb4.size fun v5' w5 o5 hf5 sz5 os5 fr5 => ?_
    have hc5 : ChgS (fun k => v5.ownBlock = some k) w4 w5 := ⟨os5.1, os5.2.1, os5.2.2, sz5, fun k hk hn => hf5 k hk hn⟩
    have no5 : ∀ g cur e', w4.heap[g]? = some (.cells cur e' (0, 0)) → e' ≠ 3 → ¬ v5.ownBlock = some g := fun g cur e' hg he hn => by
      obtain ⟨_, _, cur', hcur⟩ := h5T g hn
      rw [hg] at hcur; cases hcur; exact he rfl
    have o5 : ownV W.heap.size 3 w5 v5' (((cs.take (i + 1)).map (·.1)).map (.int .i64)) := by rw [hts, List.map_append, List.map_append]; exact o5
    have hb5 : Below W.heap.size W w5 := hb4.trans (hc5.below (fun k hk => (h5T k hk).1) hb4.size)
    have s4 : w.heap.size ≤ w4.heap.size := b4.size
    have k1 := hc5.keep k1 (fun hn => by have := lt5 _ hn; omega)
    have k2 := hc5.keep k2 (no5 _ _ _ k2 (by decide))
    have hq5 := stay hb5 hq
    have hu5 := ownV_below hu hb5
    have keepO : ∀ {v8 : Value} {xs : List Value}, ownV W.heap.size 165 w v8 xs → ownV W.heap.size 165 w5 v8 xs := fun h => by
      have h := ownV_below h b4
      refine ownV_chg h hc5 fun g hg hn => ?_
      obtain ⟨_, _, cur, hcur⟩ := ownV_lt h g hg
      exact no5 g cur _ hcur (by decide) hn
    have keepD : ∀ {xs : List Value} {ds : List De}, dRs W.heap.size w q p xs ds → NoB v5 xs → dRs W.heap.size w5 q p xs ds := by
      intro xs
      induction xs with
      | nil => intro ds h _; cases ds with
        | nil => trivial
        | cons d ds => exact h.elim
      | cons x xs ihx =>
        intro ds h hn
        cases ds with
        | nil => exact h.elim
        | cons d ds =>
          refine ⟨?_, ihx h.2 fun f a b c hm => hn f a b c (List.mem_cons_of_mem _ hm)⟩
          have hx := h.1
          cases d with
          | wr i' s' =>
            obtain ⟨a, b', c', rfl, r1, r2, r3, m1, m2, m3⟩ := hx
            have m1 := stay b4 m1
            have m2 := stay b4 m2
            have m3 := stay b4 m3
            exact ⟨a, b', c', rfl, r1, r2, r3, hc5.keep m1 (no5 _ _ _ m1 (by decide)), hc5.keep m2 (hn _ a b' c' List.mem_cons_self), hc5.keep m3 (no5 _ _ _ m3 (by decide))⟩
          | sy => exact hx
    have newB : ∀ {xs : List Value} {ds : List De}, dRs W.heap.size w q p xs ds → NoB v5 xs → NoB v5' xs := fun {xs ds} h hn f a b c hm hv => by
      rcases fr5 b hv with h' | h'
      · exact hn f a b c hm h'
      · have := (dRs_B h f a b c hm).2; omega
    have n6 := newB d6 n6
    have n7 := newB d7 n7
    have h6T : ∀ g, v6.ownBlock = some g → g < w.heap.size := fun g hg => (ownV_lt h6 g hg).2.1
    have h7T : ∀ g, v7.ownBlock = some g → g < w.heap.size := fun g hg => (ownV_lt h7 g hg).2.1
    have h6 := keepO h6
    have h7 := keepO h7
    have d6 := keepD d6 ‹NoB v5 xs6›
    have d7 := keepD d7 ‹NoB v5 xs7›
    have lt5' : ∀ g, v5'.ownBlock = some g → g < w5.heap.size := fun g hg => (ownV_lt o5 g hg).2.1
    have cq1 : w5.cell? ⟨q, 1, none⟩ = some u := by rw [cell_of_blk hq5]; rfl
    have c0 : w5.cell? ⟨w1.heap.size, 0, none⟩ = some (.int .i64 ((n : Nat) : Int)) := by rw [cell_of_blk k2]; rfl
    have hnL : n < L.length := by omega
    obtain ⟨gu, hiau, hcu, _⟩ := cell_V hu5 (i := n) (by rw [List.length_map]; exact hnL)
    rw [List.getElem_map] at hcu
    have eLn : L.getD ((n : Nat) : Int).toNat ⟨#[]⟩ = L[n] := by rw [Int.toNat_natCast, List.getD_eq_getElem?_getD, List.getElem?_eq_getElem hnL]; rfl
    have e6 : imsD L cs (i + 1) = imsD L cs i ++ pageD (imG i) (L.getD ((n : Nat) : Int).toNat ⟨#[]⟩) := e6
    rw [eLn] at e6
    have e7 : pgsD cs (i + 1) = pgsD cs i ++ pageD (plG ((n : Nat) : Int)) s := e7
    try simp only [↓reduceIte, ↓LL, LM, Value.cells, Nat.reduceAdd, Option.some.injEq, exists_eq_left', decide_true, decide_false, if_true, if_false, reduceCtorEq, cond_true, cond_false, cq1, c0, hiau, hcu]
    refine f112_s (p := p) (plc_S1 (show (drw w5).heap[w.heap.size]? = _ from k1) (by omega)) fun w6 va ba da => ?_
    have ba := of_drw' ba
    have da : DsAt w5.heap.size w5.heap.size w6 q p va _ := da
    obtain ⟨ys, oa, dya⟩ := da
    have pl := pageD_len (imG i) L[n]
    have xa := dRs_len dya
    have sW5 : W.heap.size ≤ w5.heap.size := hb5.size
    try simp only [↓reduceIte, ↓LL, LM, Value.cells, Nat.reduceAdd, Option.some.injEq, exists_eq_left', decide_true, decide_false, if_true, if_false, reduceCtorEq, cond_true, cond_false]
    refine ap_dx (p := p) (q := q) (ownV_below h6 ba) oa (dRs_one dya) (by omega) (Nat.le_trans sW5 ba.size) fun w7 v6' b7 o7 kD hc7 fr7 => ?_
    have hb6 := bt hb5 ba
    have hb7 : Below W.heap.size W w7 := hb6.trans b7
    have d6' : dRs W.heap.size w7 q p (xs6 ++ ys) (imsD L cs (i + 1)) := by
      rw [e6]
      exact dRs_app (kD _ _ _ (dRs_below d6 ba)) (kD _ _ _ (dRs_imp dya fun x d hx => dR_weak hx sW5))
    have n6' : NoB v5' (xs6 ++ ys) := NoB_app n6 fun f a b c hm hv => by
      have := (dRs_B dya f a b c hm).1
      have := lt5' b hv
      omega
    have no6 : ∀ g cur e', w6.heap[g]? = some (.cells cur e' (0, 0)) → e' ≠ 165 → ¬ v6.ownBlock = some g := fun g cur e' hg he hn => by
      obtain ⟨_, _, cur', hcur⟩ := ownV_lt (ownV_below h6 ba) g hn
      rw [hg] at hcur; cases hcur; exact he rfl
    have k2 := hc7.keep (stay ba k2) (no6 _ _ _ (stay ba k2) (by decide))
    have c1 : w7.cell? ⟨w1.heap.size, 1, none⟩ = some (.string s) := by rw [cell_of_blk k2]; rfl
    have o5' := ownV_chg (ownV_below o5 ba) hc7 fun g hg hn => by
      obtain ⟨_, _, cur, hcur⟩ := ownV_lt (ownV_below o5 ba) g hg
      exact no6 g cur _ hcur (by decide) hn
    have h7' := ownV_chg (ownV_below h7 ba) hc7 fun g hg hn => hne g hn hg
    have d7' := kD _ _ _ (dRs_below d7 ba)
    try simp only [↓reduceIte, ↓LL, LM, Value.cells, Nat.reduceAdd, Option.some.injEq, exists_eq_left', decide_true, decide_false, if_true, if_false, reduceCtorEq, cond_true, cond_false, c1]
    refine f112_s (p := p) (plc_S2 k2 (by omega) (by omega)) fun w8 vb bb db => ?_
    obtain ⟨zs, ob, dyb⟩ := db
    have pl2 := pageD_len (plG ((n : Nat) : Int)) s
    have xb := dRs_len dyb
    have sW7 : W.heap.size ≤ w7.heap.size := hb7.size
    try simp only [↓reduceIte, ↓LL, LM, Value.cells, Nat.reduceAdd, Option.some.injEq, exists_eq_left', decide_true, decide_false, if_true, if_false, reduceCtorEq, cond_true, cond_false]
    refine ap_dx (p := p) (q := q) (ownV_below h7' bb) ob (dRs_one dyb) (by omega) (Nat.le_trans sW7 bb.size) fun w9 v7' b9 o9 kD9 hc9 fr9 => ?_
    have hb9 : Below W.heap.size W w9 := (bt hb7 bb).trans b9
    try simp only [↓reduceIte, ↓LL, LM, Value.cells, Nat.reduceAdd, Option.some.injEq, exists_eq_left', decide_true, decide_false, if_true, if_false, reduceCtorEq, cond_true, cond_false, h3]
    have s56 : w5.heap.size ≤ w6.heap.size := ba.size
    have s67 : w6.heap.size ≤ w7.heap.size := hc7.size
    have s78 : w7.heap.size ≤ w8.heap.size := bb.size
    have no7 : ∀ g cur e', w8.heap[g]? = some (.cells cur e' (0, 0)) → e' ≠ 165 → ¬ v7.ownBlock = some g := fun g cur e' hg he hn => by
      obtain ⟨_, _, cur', hcur⟩ := ownV_lt (ownV_below h7' bb) g hn
      rw [hg] at hcur; cases hcur; exact he rfl
    refine ih m (i + 1) w9 v5' v6' v7' (xs6 ++ ys) (xs7 ++ zs) (by omega) (by omega) hb9 ?_ ?_ (kD9 _ _ _ (dRs_below d6' bb)) n6' o9 ?_ ?_ ?_ kk
    · exact ownV_chg (ownV_below o5' bb) hc9 fun g hg hn => by
        obtain ⟨_, _, cur, hcur⟩ := ownV_lt (ownV_below o5' bb) g hg
        exact no7 g cur _ hcur (by decide) hn
    · exact ownV_chg (ownV_below o7 bb) hc9 fun g hg hn => by
        rcases fr7 g hg with h' | h'
        · exact hne g h' hn
        · have := h7T g hn; omega
    · rw [e7]
      exact dRs_app (kD9 _ _ _ (dRs_below d7' bb)) (kD9 _ _ _ (dRs_imp dyb fun x d hx => dR_weak hx sW7))
    · exact NoB_app n7 fun f a b c hm hv => by
        have := (dRs_B dyb f a b c hm).1
        have := lt5' b hv
        omega
    · intro g hg hn
      have l6' : g < w7.heap.size := (ownV_lt o7 g hg).2.1
      rcases fr9 g hn with h' | h'
      · rcases fr7 g hg with h'' | h''
        · exact hne g h'' h'
        · have := h7T g h'; omega
      · omega
end
end Go.Proofs.YtongpnolikkknaaGreatDoor

set_option maxRecDepth 20000
set_option maxHeartbeats 4000000
namespace Go.Proofs.YtongpnolikkknaaGreatDoor
open Sh RowKit Go.MapKept
section
variable {e : TypeId} {B C Bp : Nat} {W w w' : World} {p q b : Nat} {v u lv : Value} {D : Dv} {Q : Value → World → Prop}
/-- deeds behind a change of another row -/
theorem DsAt_row {ds : List De} {u v2 : Value} (h : DsAt B C w q p u ds) (hc : ChgS (fun k => v2.ownBlock = some k) w w') (ht : ∀ g, v2.ownBlock = some g → ∃ cur, w.heap[g]? = some (.cells cur 165 (0, 0))) (hne : ∀ g, u.ownBlock = some g → v2.ownBlock ≠ some g) : DsAt B C w' q p u ds := by
  obtain ⟨xs, h1, h2⟩ := h
  refine ⟨xs, ownV_chg h1 hc fun g hg => hne g hg, dRs_imp h2 fun x d hx => dR_chg hx hc fun g cur e _ hg he hn => ?_⟩
  obtain ⟨cur', hcur⟩ := ht g hn
  rw [hg] at hcur
  cases hcur
  rcases he with he | he | he <;> revert he <;> decide
/-- a row of one deed -/
theorem lit1_s {x : Value} {d : De} {K : Value → M} (hx : dR C w q p x d) (kk : ∀ w' v', Below w.heap.size w w' → DsAt w.heap.size C w' q p v' [d] → (∀ g, v'.ownBlock = some g → g = w.heap.size) → K v' w' Q) :
    sm Tryz.prog (Instr.buildSlice 138 1 #[(0, x)]) K w Q := by
  obtain ⟨o1, o2⟩ := dR_one hx
  refine bsl1 slD rfl o2 ?_
  have b1 := b_psh w (.cells #[x] 165)
  refine kk _ _ b1 ⟨[x], ownV_mk (xs := [x]) (Nat.le_refl _) blk_psh_new (Nat.le_refl 1) (by unfold maxLen; decide) rfl rfl, dR_chg hx (ChgS.of_below b1 (S := fun _ => False)) (fun _ _ _ _ _ _ h => h), trivial⟩ (fun g hg => by cases hg; rfl)
theorem steps_j3 {st c v5 : Value} {ds : List De} (hq : W.heap[q]? = some (.cells #[pv p, u, st, c] 133 (0, 0))) (hb : Below W.heap.size W w) (h : DsAt W.heap.size W.heap.size w q p v5 ds) (hl : ds.length ≤ 1000)
    (kk : ∀ w' v', Below W.heap.size W w' → DsAt W.heap.size W.heap.size w' q p v' (ds ++ markD false) → Q v' w') : f91_j3 (pv q) v5 w Q := by
  unfold f91_j3
  have hq1 := stay hb hq
  try simp only [↓reduceIte, ↓LL, LM, Value.cells, Nat.reduceAdd, Option.some.injEq, exists_eq_left', decide_true, decide_false, if_true, if_false, reduceCtorEq, cond_true, cond_false]
  refine f115_s (p := p) (by rw [cell_of_blk hq1]; rfl) fun w2 v2 b2 d2 => ?_
  have hb2 := bt hb b2
  try simp only [↓reduceIte, ↓LL, LM, Value.cells, Nat.reduceAdd, Option.some.injEq, exists_eq_left', decide_true, decide_false, if_true, if_false, reduceCtorEq, cond_true, cond_false]
  refine ap_ds (h.below b2) (d2.weak (Nat.le_refl _) hb.size) (by simp [markD]; omega) hb2.size fun w3 v3 b3 d3 _ _ => ?_
  try simp only [↓reduceIte, ↓LL, LM, Value.cells, Nat.reduceAdd, Option.some.injEq, exists_eq_left', decide_true, decide_false, if_true, if_false, reduceCtorEq, cond_true, cond_false]
  exact kk w3 v3 (hb2.trans b3) d3
theorem f91_s {L : List ByteArray} {cs : List Ch} {st c : Value} (hq : w.heap[q]? = some (.cells #[pv p, u, st, c] 133 (0, 0))) (hu : ownV Bp 9 w u (L.map .string)) (hcs : rdS 2 (eR encC) w lv cs) (hl : cs.length ≤ 31) (hbd : ∀ x ∈ cs, 0 ≤ x.1 ∧ x.1 < (L.length : Int)) (hL : L.length ≤ 1000)
    (kk : ∀ w' v', Below w.heap.size w w' → DsAt w.heap.size w.heap.size w' q p v' (stepsD L cs) → Q v' w') : f91 (pv q) lv w Q := by
  unfold f91
  have ll := lnl_S hcs
  have lI := imsD_len L cs cs.length
  have lP := pgsD_len cs cs.length
  try simp only [↓reduceIte, ↓LL, LM, Value.cells, Nat.reduceAdd, Option.some.injEq, exists_eq_left', decide_true, decide_false, if_true, if_false, reduceCtorEq, cond_true, cond_false, ll]
  refine ⟨_, steps_loop (W := w) (q := q) (p := p) hq hu hcs hl hbd hL cs.length (cs.length + 1) 0 w _ _ _ [] [] (by omega) (by omega) (Below.refl _ _) ownV_nil ownV_nil trivial (fun f a b c h => by simp at h) ownV_nil trivial (fun f a b c h => by simp at h) (fun g hg => by cases hg) fun w1 v5 v6 v7 b1 o5 d6 d7 hne => ?_⟩
  unfold f91_j1
  have hmem : ∀ x ∈ cs.map (·.1), x ≤ 9223372036854775807 := fun x hx => by
    obtain ⟨y, hy, rfl⟩ := List.mem_map.1 hx
    have := hbd y hy; omega
  try simp only [↓reduceIte, ↓LL, LM, Value.cells, Nat.reduceAdd, Option.some.injEq, exists_eq_left', decide_true, decide_false, if_true, if_false, reduceCtorEq, cond_true, cond_false]
  refine f118_s (ownI_rd o5) (by rw [List.length_map]; omega) hmem fun w2 b2 => ?_
  have hb2 := bt b1 b2
  try simp only [↓reduceIte, ↓LL, LM, Value.cells, Nat.reduceAdd, Option.some.injEq, exists_eq_left', decide_true, decide_false, if_true, if_false, reduceCtorEq, cond_true, cond_false, get0, get1]
  refine f119_s (p := p) fun w3 x b3 hx => ?_
  have hb3 := bt hb2 b3
  have hx := dR_weak hx hb2.size
  try simp only [↓reduceIte, ↓LL, LM, Value.cells, Nat.reduceAdd, Option.some.injEq, exists_eq_left', decide_true, decide_false, if_true, if_false, reduceCtorEq, cond_true, cond_false]
  refine lit1_s hx fun w4 v4 b4 d4 fr4 => ?_
  have hb4 := bt hb3 b4
  have d4 := d4.weak hb3.size (Nat.le_refl _)
  have b24 := bt b2 (bt b3 b4)
  have d6 := d6.below b24
  have d7 := d7.below b24
  have lt7 : ∀ g, v7.ownBlock = some g → g < w3.heap.size := fun g hg => by
    have := (DsAt_lt (ds := pgsD cs cs.length) ‹DsAt w.heap.size w.heap.size w1 q p v7 _› g hg).2
    have := (bt b2 b3).size
    omega
  have ne4 : ∀ g, v7.ownBlock = some g → v4.ownBlock ≠ some g := fun g hg h => by have := lt7 g hg; have := fr4 g h; omega
  try simp only [↓reduceIte, ↓LL, LM, Value.cells, Nat.reduceAdd, Option.some.injEq, exists_eq_left', decide_true, decide_false, if_true, if_false, reduceCtorEq, cond_true, cond_false]
  refine ap_ds d4 d6 (by simp only [List.length_cons, List.length_nil]; omega) hb4.size fun w5 v5' b5 d5 hc5 fr5 => ?_
  have hb5 := hb4.trans b5
  have d7 := DsAt_row d7 hc5 (fun g hg => (DsAt_ty d4 g hg).2.2) ne4
  have ne5 : ∀ g, v7.ownBlock = some g → v5'.ownBlock ≠ some g := fun g hg h => by
    rcases fr5 g h with h' | h'
    · exact ne4 g hg h'
    · have := lt7 g hg; have := b4.size; omega
  have hq5 := stay hb5 hq
  have cq0 : w5.cell? ⟨q, 0, none⟩ = some (pv p) := by rw [cell_of_blk hq5]; rfl
  try simp only [↓reduceIte, ↓LL, LM, Value.cells, Nat.reduceAdd, Option.some.injEq, exists_eq_left', decide_true, decide_false, if_true, if_false, reduceCtorEq, cond_true, cond_false, cq0]
  refine ap_d d5 (show dR w.heap.size w5 q p _ .sy from rfl) (by simp only [List.length_append, List.length_cons, List.length_nil]; omega) hb5.size fun w6 v6' b6 d6' hc6 fr6 => ?_
  have hb6 := hb5.trans b6
  have d7 := DsAt_row d7 hc6 (fun g hg => (DsAt_ty d5 g hg).2.2) ne5
  have ne6 : ∀ g, v7.ownBlock = some g → v6'.ownBlock ≠ some g := fun g hg h => by
    rcases fr6 g h with h' | h'
    · exact ne5 g hg h'
    · have := lt7 g hg; have := b4.size; have := hc5.size; omega
  have hq6 := stay hb6 hq
  try simp only [↓reduceIte, ↓LL, LM, Value.cells, Nat.reduceAdd, Option.some.injEq, exists_eq_left', decide_true, decide_false, if_true, if_false, reduceCtorEq, cond_true, cond_false]
  refine f115_s (p := p) (by rw [cell_of_blk hq6]; rfl) fun w7 v7m b7 dm => ?_
  have hb7 := bt hb6 b7
  have d7 := d7.below b7
  try simp only [↓reduceIte, ↓LL, LM, Value.cells, Nat.reduceAdd, Option.some.injEq, exists_eq_left', decide_true, decide_false, if_true, if_false, reduceCtorEq, cond_true, cond_false]
  refine ap_ds (d6'.below b7) (dm.weak (Nat.le_refl _) hb6.size) (by simp only [List.length_append, List.length_cons, List.length_nil, markD]; omega) hb7.size fun w8 v8 b8 d8 hc8 fr8 => ?_
  have hb8 := hb7.trans b8
  have d7 := DsAt_row d7 hc8 (fun g hg => (DsAt_ty (d6'.below b7) g hg).2.2) ne6
  have hq8 := stay hb8 hq
  have cq8 : w8.cell? ⟨q, 0, none⟩ = some (pv p) := by rw [cell_of_blk hq8]; rfl
  have ne8 : ∀ g, v7.ownBlock = some g → v8.ownBlock ≠ some g := fun g hg h => by
    rcases fr8 g h with h' | h'
    · exact ne6 g hg h'
    · have := lt7 g hg; have := b4.size; have := hc5.size; have := hc6.size; have := b7.size; omega
  have eS : stepsD L cs = [De.wr 1 (dirW (cs.map (fun x : Ch => x.1))).1] ++ imsD L cs cs.length ++ [De.sy] ++ markD true ++ pgsD cs cs.length ++ [.sy] ++ markD false := rfl
  rw [eS] at kk
  have lA : ([De.wr 1 (dirW (cs.map (fun x : Ch => x.1))).1] ++ imsD L cs cs.length ++ [De.sy] ++ markD true).length ≤ 300 := by simp only [List.length_append, List.length_cons, List.length_nil, markD]; omega
  generalize [De.wr 1 (dirW (cs.map (fun x : Ch => x.1))).1] ++ imsD L cs cs.length ++ [De.sy] ++ markD true = dA at *
  try simp only [↓reduceIte, ↓LL, LM, Value.cells, Nat.reduceAdd, Option.some.injEq, exists_eq_left', decide_true, decide_false, if_true, if_false, reduceCtorEq, cond_true, cond_false, cq8]
  have fin : ∀ w9 v9, Below w.heap.size w w9 → DsAt w.heap.size w.heap.size w9 q p v9 (dA ++ pgsD cs cs.length ++ [.sy]) → f91_j3 (pv q) v9 w9 Q := fun w9 v9 hb9 h9 =>
    steps_j3 hq hb9 h9 (by simp only [List.length_append, List.length_cons, List.length_nil]; omega) kk
  have d8d : DsAt w.heap.size w.heap.size (drw w8) q p v8 dA := d8.below ⟨rfl, rfl, rfl, Nat.le_refl _, fun _ _ => rfl⟩
  have d7d : DsAt w.heap.size w.heap.size (drw w8) q p v7 (pgsD cs cs.length) := d7.below ⟨rfl, rfl, rfl, Nat.le_refl _, fun _ _ => rfl⟩
  refine ⟨?_, ?_⟩
  · refine ap_ds d8d d7d (by omega) (show _ ≤ (drw w8).heap.size from hb8.size) fun w9 v9 b9 d9 hc9 _ => ?_
    have hb8' : Below w.heap.size w (drw w8) := ⟨hb8.os, hb8.tape, hb8.output, hb8.size, hb8.block⟩
    have hb9 := hb8'.trans b9
    have hq9 := stay hb9 hq
    have cq9 : w9.cell? ⟨q, 0, none⟩ = some (pv p) := by rw [cell_of_blk hq9]; rfl
    refine ⟨by rw [Kld_e]; exact cq9, ?_⟩
    refine ap_d d9 (show dR w.heap.size w9 q p _ .sy from rfl) (by simp only [List.length_append]; omega) hb9.size fun w10 v10 b10 d10 _ _ => ?_
    try simp only [↓reduceIte, ↓LL, LM, Value.cells, Nat.reduceAdd, Option.some.injEq, exists_eq_left', decide_true, decide_false, if_true, if_false, reduceCtorEq, cond_true, cond_false]
    exact fin w10 v10 (hb9.trans b10) d10
  · have hb8' : Below w.heap.size w (drw w8) := ⟨hb8.os, hb8.tape, hb8.output, hb8.size, hb8.block⟩
    refine lit1_s (show dR w.heap.size (drw w8) q p _ .sy from rfl) fun w9 v9 b9 d9 fr9 => ?_
    have hb9 := bt hb8' b9
    have d9 := d9.weak hb8.size (Nat.le_refl _)
    refine ap_ds (d8d.below b9) (d7d.below b9) (by omega) hb9.size fun w10 v10 b10 d10 hc10 _ => ?_
    have hb10 := hb9.trans b10
    have hq10 := stay hb10 hq
    have cq10 : w10.cell? ⟨q, 0, none⟩ = some (pv p) := by rw [cell_of_blk hq10]; rfl
    have d9 := DsAt_row d9 hc10 (fun g hg => (DsAt_ty (d8d.below b9) g hg).2.2) fun g hg h => by
      have := fr9 g hg
      have := (DsAt_lt d8d g h).2
      omega
    refine ⟨by rw [Kld_e]; exact cq10, ?_⟩
    refine ap_ds d10 d9 (by simp only [List.length_append, List.length_cons, List.length_nil]; omega) hb10.size fun w11 v11 b11 d11 _ _ => ?_
    try simp only [↓reduceIte, ↓LL, LM, Value.cells, Nat.reduceAdd, Option.some.injEq, exists_eq_left', decide_true, decide_false, if_true, if_false, reduceCtorEq, cond_true, cond_false]
    exact fin w11 v11 (hb10.trans b11) d11
end
end Go.Proofs.YtongpnolikkknaaGreatDoor

set_option maxRecDepth 20000
set_option maxHeartbeats 4000000
namespace Go.Proofs.YtongpnolikkknaaGreatDoor
open Sh RowKit Go.MapKept
structure Pg where
  L : List ByteArray
  st : Bool
  c : Int
def setL (L : List ByteArray) (cs : List Ch) : List ByteArray := cs.foldl (fun L c => L.set c.1.toNat c.2) L
theorem setL_len (cs : List Ch) : ∀ L : List ByteArray, (setL L cs).length = L.length := by
  induction cs with
  | nil => intro L; rfl
  | cons c cs ih => intro L; show (setL (L.set c.1.toNat c.2) cs).length = _; rw [ih, List.length_set]
theorem setL_snoc (L : List ByteArray) (cs : List Ch) (c : Ch) : setL L (cs ++ [c]) = (setL L cs).set c.1.toNat c.2 := by
  unfold setL; rw [List.foldl_append]; rfl
/-- a commit: the error, the device and the pager behind it -/
def commitB (G : Pg) (D : Dv) (cs : List Ch) : Int × Dv × Pg :=
  if mayB G.st G.L.length cs ≠ 0 ∨ cs = [] then (mayB G.st G.L.length cs, D, G)
  else if (runs (stepsD G.L cs) D).1 ≠ 0 then ((runs (stepsD G.L cs) D).1, (runs (stepsD G.L cs) D).2, { G with st := true })
  else (0, (runs (stepsD G.L cs) D).2, ⟨setL G.L cs, G.st, G.c + 1⟩)
theorem mayB_ok {st : Bool} {N : Nat} {cs : List Ch} (h : mayB st N cs = 0) : st = false ∧ cs.length ≤ 31 ∧ (∀ x ∈ cs, 0 ≤ x.1 ∧ x.1 < (N : Int)) ∧ (cs.map (·.1)).Nodup ∧ ∀ c ∈ cs, c.2.size = 256 := by
  unfold mayB at h
  split at h
  · cases h
  · rename_i h1
    split at h
    · cases h
    · rename_i h2
      split at h
      · cases h
      · rename_i h3
        split at h
        · cases h
        · rename_i h4
          unfold oddL at h4
          have h4 := Classical.not_not.1 (fun h => h4 (decide_eq_true h))
          refine ⟨by simpa using h1, by omega, fun x hx => ?_, h4.1, h4.2⟩
          have h5 : ¬ (x.1 < 0 ∨ (N : Int) ≤ x.1) := fun h => h3 ⟨x, hx, h⟩
          omega
section
variable {e : TypeId} {B C Bp Bc : Nat} {W w w' : World} {p q b : Nat} {v u lv : Value} {D : Dv} {Q : Value → World → Prop}
theorem ownE_chg {α : Type} {enc : α → List Value} {n : Nat} {l : List α} {S : Nat → Prop} (h : ownE C e n enc w u l) (hc : ChgS S w w') (hS : ∀ g, u.ownBlock = some g → ¬ S g) : ownE C e n enc w' u l :=
  ownE_stay h fun g hg => by
    obtain ⟨_, hl, cur, hcur⟩ := ownE_blk h g hg
    rw [hcur]; exact hc.keep hcur (hS g hg)
theorem commit_loop {L : List ByteArray} {cs : List Ch} {st c : Value} {j1 : Value → M} (hq : W.heap[q]? = some (.cells #[pv p, u, st, c] 133 (0, 0))) (hu : ownV Bp 9 W u (L.map .string)) (hcs : ownE Bc 48 2 encC W lv cs) (hl : cs.length ≤ 31) (hbd : ∀ x ∈ cs, 0 ≤ x.1 ∧ x.1 < (L.length : Int)) :
    ∀ (d m i : Nat) (w : World), i + d = cs.length → d < m → ChgS (fun k => u.ownBlock = some k) W w → ownV Bp 9 w u ((setL L (cs.take i)).map .string) →
    (∀ w', ChgS (fun k => u.ownBlock = some k) W w' → ownV Bp 9 w' u ((setL L cs).map .string) → j1 (pv q) w' Q) →
    itr (fun _ _ _ _ => bot) (f44_b2 j1) m (pv q) lv (.int .i64 ((cs.length : Nat) : Int)) (.int .i64 ((i : Nat) : Int)) w Q := by
  have uT : ∀ g, u.ownBlock = some g → g < W.heap.size ∧ ∃ cur, W.heap[g]? = some (.cells cur 9 (0, 0)) := fun g hg => ⟨(ownV_lt hu g hg).2.1, (ownV_lt hu g hg).2.2⟩
  have no : ∀ g cur e', W.heap[g]? = some (.cells cur e' (0, 0)) → e' ≠ 9 → ¬ u.ownBlock = some g := fun g cur e' hg he hn => by
    obtain ⟨_, cur', hcur⟩ := uT g hn
    rw [hg] at hcur; cases hcur; exact he rfl
  intro d
  induction d with
  | zero =>
    intro m i w hi hm hc ho kk
    obtain ⟨m, rfl⟩ : ∃ x, m = x + 1 := ⟨m - 1, by omega⟩
    show f44_b2 j1 _ _ _ _ _ w Q
    unfold f44_b2
    have cc : ¬ (i : Int) < (cs.length : Nat) := by omega
    try simp only [↓reduceIte, ↓LL, LM, Value.cells, Nat.reduceAdd, Option.some.injEq, exists_eq_left', decide_true, decide_false, if_true, if_false, reduceCtorEq, cond_true, cond_false, cc]
    rw [List.take_of_length_le (by omega)] at ho
    exact kk w hc ho
  | succ d ih =>
    intro m i w hi hm hc ho kk
    obtain ⟨m, rfl⟩ : ∃ x, m = x + 1 := ⟨m - 1, by omega⟩
    show f44_b2 j1 _ _ _ _ _ w Q
    unfold f44_b2
    have cc : (i : Int) < (cs.length : Nat) := by omega
    have hil : i < cs.length := by omega
    have h3 : IntKind.i64.wrap ((i : Int) + 1) = ((i + 1 : Nat) : Int) := by rw [w64 (by omega) (by omega)]; rfl
    have hcsw : ownE Bc 48 2 encC w lv cs := ownE_chg hcs hc fun g hg hn => by
      obtain ⟨_, _, cur, hcur⟩ := ownE_blk hcs g hg
      exact no g cur _ hcur (by decide) hn
    obtain ⟨ad, es, he1, he2, he3, hia⟩ := rdS_at (ownE_rd encC_len (by decide) hcsw) hil
    have hts : cs.take (i + 1) = cs.take i ++ [cs[i]] := List.take_succ_eq_append_getElem hil
    have hmem := List.getElem_mem hil
    try simp only [↓reduceIte, ↓LL, LM, Value.cells, Nat.reduceAdd, Option.some.injEq, exists_eq_left', decide_true, decide_false, if_true, if_false, reduceCtorEq, cond_true, cond_false, cc, hia]
    refine ldn_at he2 he1 ?_
    have he3 : es = encC cs[i] := he3
    rw [he3]
    generalize cs[i] = x at *
    obtain ⟨n, s⟩ := x
    obtain ⟨n0, n1'⟩ := hbd _ hmem
    have n0 : 0 ≤ n := n0
    have n1' : n < (L.length : Int) := n1'
    obtain ⟨n, rfl⟩ := Int.eq_ofNat_of_zero_le n0
    have b1 := b_psh w (.cells #[.int .i64 0, .string ⟨#[]⟩] 48)
    have k1 := blk_psh_new (w := w) (o := .cells #[.int .i64 0, .string ⟨#[]⟩] 48)
    try simp only [↓reduceIte, ↓LL, LM, Value.cells, Nat.reduceAdd, Option.some.injEq, exists_eq_left', decide_true, decide_false, if_true, if_false, reduceCtorEq, cond_true, cond_false]
    refine stn_box k1 (by simp) (by simp [encC]) (by intro x hx; exact encC_one (((n : Nat) : Int), s) x (by simpa using hx)) fun w2 k2 u2 => ?_
    have b2 : Below w.heap.size w w2 := b1.trans (u2.below (Nat.le_refl _))
    have hc2 : ChgS (fun k => u.ownBlock = some k) W w2 := hc.trans (ChgS.of_below b2) fun _ _ h => h
    have c0 : w2.cell? ⟨w.heap.size, 0, none⟩ = some (.int .i64 ((n : Nat) : Int)) := by rw [cell_of_blk k2]; rfl
    have c1 : w2.cell? ⟨w.heap.size, 1, none⟩ = some (.string s) := by rw [cell_of_blk k2]; rfl
    have hq2 := hc2.keep hq (no q _ _ hq (by decide))
    have cq : w2.cell? ⟨q, 1, none⟩ = some u := by rw [cell_of_blk hq2]; rfl
    have ho2 := ownV_below ho b2
    try simp only [↓reduceIte, ↓LL, LM, Value.cells, Nat.reduceAdd, Option.some.injEq, exists_eq_left', decide_true, decide_false, if_true, if_false, reduceCtorEq, cond_true, cond_false, c0, c1, cq]
    refine ia_stV (w := drw w2) (show ownV Bp 9 (drw w2) u _ from ho2) (i := n) (by rw [List.length_map, setL_len]; omega) rfl fun w3 g3 hg3 o3 up3 => ?_
    have es3 : ((setL L (cs.take i)).map Value.string).set n (.string s) = (setL L (cs.take (i + 1))).map .string := by rw [hts, setL_snoc, List.map_set]; rfl
    rw [es3] at o3
    try simp only [↓reduceIte, ↓LL, LM, Value.cells, Nat.reduceAdd, Option.some.injEq, exists_eq_left', decide_true, decide_false, if_true, if_false, reduceCtorEq, cond_true, cond_false, h3]
    exact ih m (i + 1) w3 (by omega) (by omega) (hc2.drw.trans (ChgS.of_upd up3 hg3) fun _ _ h => h) o3 kk
theorem f44_s {G : Pg} {cs : List Ch} (hd : DevAt B w p v b D) (hq : w.heap[q]? = some (.cells #[pv p, u, .bool G.st, .int .i64 G.c] 133 (0, 0))) (hu : ownV Bp 9 w u (G.L.map .string)) (hcs : ownE Bc 48 2 encC w lv cs)
    (h0 : 0 ≤ D.c) (h1 : D.c + 300 ≤ 1000000) (hG0 : 0 ≤ G.c) (hG1 : G.c ≤ 1000000) (hL : G.L.length ≤ 1000)
    (kk : ∀ w', DevAt B w' p v b (commitB G D cs).2.1 → w'.heap[q]? = some (.cells #[pv p, u, .bool (commitB G D cs).2.2.st, .int .i64 (commitB G D cs).2.2.c] 133 (0, 0)) → ownV Bp 9 w' u ((commitB G D cs).2.2.L.map .string) →
      ChgS (fun k => k = q ∨ u.ownBlock = some k ∨ fpD p v b k) w w' → Q (.int .i64 (commitB G D cs).1) w') : f44 (pv q) lv w Q := by
  unfold f44
  rw [pn_eq pt49]
  have hrd := ownE_rd encC_len (by decide) hcs
  have ll := lnl_S hrd
  have uq : ¬ u.ownBlock = some q := fun hn => by
    obtain ⟨_, _, cur, hcur⟩ := ownV_lt hu q hn
    rw [hcur] at hq; cases hq
  try simp only [↓reduceIte, ↓LL, LM, Value.cells, Nat.reduceAdd, Option.some.injEq, exists_eq_left', decide_true, decide_false, if_true, if_false, reduceCtorEq, cond_true, cond_false, Option.isNone]
  refine f89_s hq hu hrd (by omega) fun w1 b1 => ?_
  by_cases cm : mayB G.st G.L.length cs ≠ 0 ∨ cs = []
  · have e : commitB G D cs = (mayB G.st G.L.length cs, D, G) := by unfold commitB; rw [if_pos cm]
    rw [e] at kk
    have fin := kk w1 (hd.below b1) (stay b1 hq) (ownV_below hu b1) (ChgS.of_below b1)
    by_cases c1 : mayB G.st G.L.length cs = 0
    · have c2 : cs = [] := cm.resolve_left fun h => h c1
      have c3 : ((cs.length : Nat) : Int) = 0 := by rw [c2]; rfl
      try simp only [↓reduceIte, ↓LL, LM, Value.cells, Nat.reduceAdd, Option.some.injEq, exists_eq_left', decide_true, decide_false, if_true, if_false, reduceCtorEq, cond_true, cond_false, ne_eq, c1, ll, c3]
      rw [c1] at fin
      exact fin
    · try simp only [↓reduceIte, ↓LL, LM, Value.cells, Nat.reduceAdd, Option.some.injEq, exists_eq_left', decide_true, decide_false, if_true, if_false, reduceCtorEq, cond_true, cond_false, ne_eq, c1, ll]
      exact fin
  · have c1 : mayB G.st G.L.length cs = 0 := Classical.not_not.1 fun h => cm (.inl h)
    have c2 : cs ≠ [] := fun h => cm (.inr h)
    have c3 : ¬ ((cs.length : Nat) : Int) = 0 := by
      intro h
      exact c2 (List.length_eq_zero_iff.1 (by omega))
    obtain ⟨e1, e2, e3, e4, e5⟩ := mayB_ok c1
    have hq1 := stay b1 hq
    have hu1 := ownV_below hu b1
    have hcs1 := ownE_below hcs b1
    have hd1 := hd.below b1
    have lS := stepsD_len G.L cs
    try simp only [↓reduceIte, ↓LL, LM, Value.cells, Nat.reduceAdd, Option.some.injEq, exists_eq_left', decide_true, decide_false, if_true, if_false, reduceCtorEq, cond_true, cond_false, ne_eq, c1, ll, c3]
    refine f91_s (p := p) hq1 hu1 (ownE_rd encC_len (by decide) hcs1) e2 e3 hL fun w2 v2 b2 d2 => ?_
    have b02 := bt b1 b2
    have hq2 := stay b02 hq
    have hd2 := hd.below b02
    try simp only [↓reduceIte, ↓LL, LM, Value.cells, Nat.reduceAdd, Option.some.injEq, exists_eq_left', decide_true, decide_false, if_true, if_false, reduceCtorEq, cond_true, cond_false]
    refine f90_s (B2 := 0) hd2 hq2 rfl d2 (by omega) h0 (by omega) fun w3 d3 hc3 => ?_
    have hc03 : ChgS (fpD p v b) w w3 := (ChgS.of_below b02).trans hc3 fun _ _ h => h
    have hq3 := pg_dev hd2 hq2 hc3
    have hu3 := own_dev hd2 (ownV_below hu b02) (by decide) (by decide) hc3
    by_cases cz : (runs (stepsD G.L cs) D).1 = 0
    · have e : commitB G D cs = (0, (runs (stepsD G.L cs) D).2, ⟨setL G.L cs, G.st, G.c + 1⟩) := by unfold commitB; rw [if_neg cm, if_neg (fun h => h cz)]
      rw [e] at kk
      have hcs3 : ownE Bc 48 2 encC w3 lv cs := ownE_chg (ownE_below hcs b02) hc3 fun g hg => by
        obtain ⟨_, _, cur, hcur⟩ := ownE_blk (ownE_below hcs b02) g hg
        exact dev_ne hd2 hcur (by decide) (by decide)
      have ll3 := lnl_S hrd
      try simp only [↓reduceIte, ↓LL, LM, Value.cells, Nat.reduceAdd, Option.some.injEq, exists_eq_left', decide_true, decide_false, if_true, if_false, reduceCtorEq, cond_true, cond_false, ne_eq, cz, ll]
      refine ⟨_, commit_loop (W := w3) hq3 hu3 hcs3 e2 e3 cs.length (cs.length + 1) 0 w3 (by omega) (by omega) (ChgS.refl _ _) hu3 fun w4 hc4 hu4 => ?_⟩
      have hq4 := hc4.keep hq3 uq
      have c3 : w4.cell? ⟨q, 3, none⟩ = some (.int .i64 G.c) := by rw [cell_of_blk hq4]; rfl
      have ew : IntKind.i64.wrap (G.c + 1) = G.c + 1 := w64 (by omega) (by omega)
      have hd4 := d3.chgV hu3 (by decide) (by decide) hc4
      unfold f44_j1
      try simp only [↓reduceIte, ↓LL, LM, Value.cells, Nat.reduceAdd, Option.some.injEq, exists_eq_left', decide_true, decide_false, if_true, if_false, reduceCtorEq, cond_true, cond_false, c3, ew]
      refine st_box (o := 3) (v := .int .i64 (G.c + 1)) hq4 (show 3 < 4 by decide) rfl fun w5 hq5 u5 => ?_
      try simp only [↓reduceIte, ↓LL, LM, Value.cells, Nat.reduceAdd, Option.some.injEq, exists_eq_left', decide_true, decide_false, if_true, if_false, reduceCtorEq, cond_true, cond_false]
      refine kk w5 (hd4.chg (ChgS.of_upd u5 rfl (S := fun k => k = q)) fun k hk e => dev_ne hd4 hq4 (by decide) (by decide) (e ▸ hk)) hq5 ?_ ?_
      · exact ownV_stay hu4 fun g hg => u5.block g fun e => by rw [e] at hg; exact uq hg
      · refine (hc03.mono (T := fun k => k = q ∨ u.ownBlock = some k ∨ fpD p v b k) fun k h => .inr (.inr h)).trans (T := fun k => k = q ∨ u.ownBlock = some k ∨ fpD p v b k) ?_ fun _ _ h => h
        exact (hc4.mono fun k h => .inr (.inl h)).trans (ChgS.of_upd u5 (S := fun k => k = q ∨ u.ownBlock = some k ∨ fpD p v b k) (.inl rfl)) fun _ _ h => h
    · have e : commitB G D cs = ((runs (stepsD G.L cs) D).1, (runs (stepsD G.L cs) D).2, { G with st := true }) := by unfold commitB; rw [if_neg cm, if_pos cz]
      rw [e] at kk
      try simp only [↓reduceIte, ↓LL, LM, Value.cells, Nat.reduceAdd, Option.some.injEq, exists_eq_left', decide_true, decide_false, if_true, if_false, reduceCtorEq, cond_true, cond_false, ne_eq, cz]
      refine st_box (o := 2) (v := .bool true) hq3 (show 2 < 4 by decide) rfl fun w5 hq5 u5 => ?_
      try simp only [↓reduceIte, ↓LL, LM, Value.cells, Nat.reduceAdd, Option.some.injEq, exists_eq_left', decide_true, decide_false, if_true, if_false, reduceCtorEq, cond_true, cond_false]
      refine kk w5 (d3.chg (ChgS.of_upd u5 rfl (S := fun k => k = q)) fun k hk e => dev_ne d3 hq3 (by decide) (by decide) (e ▸ hk)) hq5 ?_ ?_
      · exact ownV_stay hu3 fun g hg => u5.block g fun e => by rw [e] at hg; exact uq hg
      · exact (hc03.mono fun k h => .inr (.inr h)).trans (ChgS.of_upd u5 (S := fun k => k = q ∨ u.ownBlock = some k ∨ fpD p v b k) (.inl rfl)) fun _ _ h => h
end
end Go.Proofs.YtongpnolikkknaaGreatDoor

set_option maxRecDepth 20000
namespace Go.Proofs.YtongpnolikkknaaGreatDoor
open Sh RowKit Go.MapKept
def De.ex : De → List Sec → List Sec
  | .wr i s, A => match A[i.toNat]? with
    | some x => A.set i.toNat ⟨x.s, some (pad s)⟩
    | none => A
  | .sy, A => A.map fun x => ⟨x.now, none⟩
def exs (ds : List De) (A : List Sec) : List Sec := ds.foldl (fun A d => d.ex A) A
def De.good (N : Nat) : De → Prop
  | .wr i s => 0 ≤ i ∧ i < (N : Int) ∧ s.size ≤ 64
  | .sy => True
theorem ex_wr_some {i : Int} {s : ByteArray} {A : List Sec} {x : Sec} (h : A[i.toNat]? = some x) : (De.wr i s).ex A = A.set i.toNat ⟨x.s, some (pad s)⟩ := by
  show (match A[i.toNat]? with
    | some x => A.set i.toNat ⟨x.s, some (pad s)⟩
    | none => A) = _
  rw [h]
theorem ex_wr_none {i : Int} {s : ByteArray} {A : List Sec} (h : A[i.toNat]? = none) : (De.wr i s).ex A = A := by
  show (match A[i.toNat]? with
    | some x => A.set i.toNat ⟨x.s, some (pad s)⟩
    | none => A) = _
  rw [h]
theorem ex_len (d : De) (A : List Sec) : (d.ex A).length = A.length := by
  cases d with
  | wr i s =>
    cases h : A[i.toNat]? with
    | none => rw [ex_wr_none h]
    | some x => rw [ex_wr_some h, List.length_set]
  | sy => show (A.map _).length = _; rw [List.length_map]
theorem exs_len : ∀ (ds : List De) (A : List Sec), (exs ds A).length = A.length
  | [], A => rfl
  | d :: ds, A => by
    show (exs ds (d.ex A)).length = _
    rw [exs_len ds, ex_len]
theorem exs_app (ds es : List De) (A : List Sec) : exs (ds ++ es) A = exs es (exs ds A) := by unfold exs; rw [List.foldl_append]
theorem exs_cons (d : De) (ds : List De) (A : List Sec) : exs (d :: ds) A = exs ds (d.ex A) := rfl
theorem run_ex {d : De} {D : Dv} (hg : d.good D.A.length) : d.run D = if D.h < D.c + 1 then (9, D.tick) else (0, ⟨d.ex D.A, D.c + 1, D.h⟩) := by
  cases d with
  | wr i s =>
    obtain ⟨h0, h1, h2⟩ := hg
    show D.wr i s = _
    unfold Dv.wr
    by_cases hh : D.h < D.c + 1
    · rw [if_pos hh, if_pos hh]
    · rw [if_neg hh, if_neg hh]
      obtain ⟨x, hx⟩ := at_some (D := D) h0 h1
      have hx2 := (at_lt hx).2.2
      rw [hx]
      have : ¬ 64 < s.size := by omega
      simp only [this, if_false]
      have e : De.ex (.wr i s) D.A = D.A.set i.toNat ⟨x.s, some (pad s)⟩ := ex_wr_some hx2
      rw [e]; rfl
  | sy =>
    show D.sync = _
    unfold Dv.sync
    by_cases hh : D.h < D.c + 1
    · rw [if_pos hh, if_pos hh]
    · rw [if_neg hh, if_neg hh]; rfl
theorem runs_ok : ∀ (ds : List De) (D : Dv), (∀ d ∈ ds, d.good D.A.length) → D.c + ds.length ≤ D.h → runs ds D = (0, ⟨exs ds D.A, D.c + ds.length, D.h⟩)
  | [], D, _, _ => by
    show ((0 : Int), D) = _
    rw [List.length_nil]
    show _ = ((0 : Int), (⟨D.A, D.c + ((0 : Nat) : Int), D.h⟩ : Dv))
    rw [show D.c + ((0 : Nat) : Int) = D.c by omega]
  | d :: ds, D, hg, hh => by
    rw [List.length_cons] at hh
    have hr := run_ex (hg d (List.mem_cons_self ..))
    rw [if_neg (by omega)] at hr
    show (if (d.run D).1 = 0 then runs ds (d.run D).2 else d.run D) = _
    rw [hr, if_pos rfl, runs_ok ds _ (fun x hx => by show x.good (d.ex D.A).length; rw [ex_len]; exact hg x (List.mem_cons_of_mem _ hx)) (by show D.c + 1 + (ds.length : Int) ≤ D.h; omega)]
    show ((0 : Int), (⟨exs ds (d.ex D.A), D.c + 1 + (ds.length : Int), D.h⟩ : Dv)) = _
    rw [List.length_cons, exs_cons, show D.c + 1 + (ds.length : Int) = D.c + ((ds.length + 1 : Nat) : Int) by omega]
theorem runs_two : ∀ (ds : List De) (D : Dv), (∀ d ∈ ds, d.good D.A.length) → (runs ds D = (0, ⟨exs ds D.A, D.c + ds.length, D.h⟩)) ∨ ((runs ds D).1 = 9 ∧ (runs ds D).2.h = D.h ∧ ∃ k, k < ds.length ∧ (runs ds D).2.A = exs (ds.take k) D.A)
  | [], D, _ => .inl (by
    show ((0 : Int), D) = _
    rw [List.length_nil]
    show _ = ((0 : Int), (⟨D.A, D.c + ((0 : Nat) : Int), D.h⟩ : Dv))
    rw [show D.c + ((0 : Nat) : Int) = D.c by omega])
  | d :: ds, D, hg => by
    have hr := run_ex (hg d (List.mem_cons_self ..))
    have e : runs (d :: ds) D = (if (d.run D).1 = 0 then runs ds (d.run D).2 else d.run D) := rfl
    by_cases hh : D.h < D.c + 1
    · rw [if_pos hh] at hr
      right
      rw [e, hr, if_neg (show ¬ (9 : Int) = 0 by decide)]
      exact ⟨rfl, rfl, 0, by simp, rfl⟩
    · rw [if_neg hh] at hr
      rw [e, hr, if_pos rfl]
      rcases runs_two ds ⟨d.ex D.A, D.c + 1, D.h⟩ (fun x hx => by show x.good (d.ex D.A).length; rw [ex_len]; exact hg x (List.mem_cons_of_mem _ hx)) with h | ⟨h1, h2, k, hk, h3⟩
      · left
        rw [h]
        show ((0 : Int), (⟨exs ds (d.ex D.A), D.c + 1 + (ds.length : Int), D.h⟩ : Dv)) = _
        rw [List.length_cons, exs_cons, show D.c + 1 + (ds.length : Int) = D.c + ((ds.length + 1 : Nat) : Int) by omega]
      · right
        exact ⟨h1, h2, k + 1, by rw [List.length_cons]; omega, by rw [h3, List.take_succ_cons, exs_cons]⟩
/-- writing to sector i leaves the others -/
theorem ex_wr_out {i : Nat} {a : Int} {s : ByteArray} {A : List Sec} (h : i ≠ a.toNat) : ((De.wr a s).ex A)[i]? = A[i]? := by
  cases hx : A[a.toNat]? with
  | none => rw [ex_wr_none hx]
  | some x => rw [ex_wr_some hx, List.getElem?_set_ne (fun e => h e.symm)]
theorem ex_wr_in {i : Nat} {a : Int} {s : ByteArray} {A : List Sec} {x : Sec} (h : i = a.toNat) (hx : A[i]? = some x) : ((De.wr a s).ex A)[i]? = some ⟨x.s, some (pad s)⟩ := by
  subst h
  have := (List.getElem?_eq_some_iff.1 hx).1
  rw [ex_wr_some hx, List.getElem?_set_self this]
theorem ex_sy {i : Nat} {A : List Sec} : (De.sy.ex A)[i]? = A[i]?.map fun x => ⟨x.now, none⟩ := by
  show (A.map _)[i]? = _
  rw [List.getElem?_map]
/-- a page's four sectors from b on -/
def pgW (b : Nat) (s : ByteArray) : List De := (List.range 4).map fun j => .wr ((b + j : Nat) : Int) (chunk s j)
theorem pageD_pgW {g : Nat → Int} {b : Nat} {s : ByteArray} (hs : s.size = 256) (hg : ∀ j, g j = ((b + j : Nat) : Int)) : pageD g s = pgW b s := by
  unfold pageD pgW
  rw [if_pos hs]
  refine List.map_congr_left fun j _ => ?_
  rw [hg j]
def blkW (xs : List (Nat × ByteArray)) : List De := xs.flatMap fun x => pgW x.1 x.2
theorem blkW_cons (x : Nat × ByteArray) (xs : List (Nat × ByteArray)) : blkW (x :: xs) = pgW x.1 x.2 ++ blkW xs := rfl
theorem pgW_len (b : Nat) (s : ByteArray) : (pgW b s).length = 4 := by unfold pgW; simp
theorem blkW_len : ∀ xs : List (Nat × ByteArray), (blkW xs).length = 4 * xs.length
  | [] => rfl
  | x :: xs => by rw [blkW_cons, List.length_append, pgW_len, blkW_len xs, List.length_cons]; omega
theorem mem_pgW {d : De} {b : Nat} {s : ByteArray} : d ∈ pgW b s ↔ ∃ j, j < 4 ∧ d = .wr ((b + j : Nat) : Int) (chunk s j) := by
  unfold pgW
  rw [List.mem_map]
  constructor
  · rintro ⟨j, hj, rfl⟩; exact ⟨j, List.mem_range.1 hj, rfl⟩
  · rintro ⟨j, hj, rfl⟩; exact ⟨j, List.mem_range.2 hj, rfl⟩
theorem mem_blkW {d : De} {xs : List (Nat × ByteArray)} : d ∈ blkW xs ↔ ∃ x ∈ xs, ∃ j, j < 4 ∧ d = .wr ((x.1 + j : Nat) : Int) (chunk x.2 j) := by
  unfold blkW
  rw [List.mem_flatMap]
  constructor
  · rintro ⟨x, hx, h⟩
    exact ⟨x, hx, mem_pgW.1 h⟩
  · rintro ⟨x, hx, h⟩
    exact ⟨x, hx, mem_pgW.2 h⟩
/-- deeds that write, none of them to sector i -/
def Off (i : Nat) (ds : List De) : Prop := ∀ d ∈ ds, ∃ (a : Nat) (s : ByteArray), d = .wr (a : Int) s ∧ i ≠ a
theorem exs_off : ∀ {ds : List De} {i : Nat} {A : List Sec}, Off i ds → (exs ds A)[i]? = A[i]?
  | [], _, _, _ => rfl
  | d :: ds, i, A, h => by
    obtain ⟨a, s, rfl, ha⟩ := h d (List.mem_cons_self ..)
    rw [exs_cons, exs_off (fun x hx => h x (List.mem_cons_of_mem _ hx)), ex_wr_out (by rw [Int.toNat_natCast]; exact ha)]
theorem Off.take {i : Nat} {ds : List De} (h : Off i ds) (k : Nat) : Off i (ds.take k) := fun d hd => h d (List.mem_of_mem_take hd)
theorem Off.app {i : Nat} {ds es : List De} (h : Off i ds) (g : Off i es) : Off i (ds ++ es) := fun d hd => (List.mem_append.1 hd).elim (h d) (g d)
theorem off_blk {i : Nat} {xs : List (Nat × ByteArray)} (h : ∀ x ∈ xs, ∀ j, j < 4 → i ≠ x.1 + j) : Off i (blkW xs) := by
  intro d hd
  obtain ⟨x, hx, j, hj, rfl⟩ := mem_blkW.1 hd
  exact ⟨_, _, rfl, h x hx j hj⟩
theorem off_pg {i b : Nat} {s : ByteArray} (h : ∀ j, j < 4 → i ≠ b + j) : Off i (pgW b s) := by
  intro d hd
  obtain ⟨j, hj, rfl⟩ := mem_pgW.1 hd
  exact ⟨_, _, rfl, h j hj⟩
theorem pg_in {b j : Nat} {s : ByteArray} {A : List Sec} {y : Sec} (hj : j < 4) (hy : A[b + j]? = some y) : (exs (pgW b s) A)[b + j]? = some ⟨y.s, some (pad (chunk s j))⟩ := by
  have key : ∀ (n : Nat) (B : List Sec), (∀ y, B[b + j]? = some y → j < n → (exs ((List.range n).map fun j => De.wr ((b + j : Nat) : Int) (chunk s j)) B)[b + j]? = some ⟨y.s, some (pad (chunk s j))⟩) ∧ ((¬ j < n) → (exs ((List.range n).map fun j => De.wr ((b + j : Nat) : Int) (chunk s j)) B)[b + j]? = B[b + j]?) := by
    intro n
    induction n with
    | zero => intro B; exact ⟨fun y _ h => absurd h (by omega), fun _ => rfl⟩
    | succ n ih =>
      intro B
      obtain ⟨h1, h2⟩ := ih B
      rw [List.range_succ, List.map_append, exs_app]
      refine ⟨fun y hy hjn => ?_, fun hjn => ?_⟩
      · show (De.ex (.wr ((b + n : Nat) : Int) (chunk s n)) _)[b + j]? = _
        by_cases e : j = n
        · subst e
          exact ex_wr_in (by rw [Int.toNat_natCast]) (by rw [h2 (by omega)]; exact hy)
        · rw [ex_wr_out (by rw [Int.toNat_natCast]; omega), h1 y hy (by omega)]
      · show (De.ex (.wr ((b + n : Nat) : Int) (chunk s n)) _)[b + j]? = _
        rw [ex_wr_out (by rw [Int.toNat_natCast]; omega), h2 (by omega)]
  exact (key 4 A).1 y hy hj
theorem blk_in {b j : Nat} {s : ByteArray} (hj : j < 4) : ∀ {xs : List (Nat × ByteArray)} {A : List Sec} {y : Sec}, (xs.map (·.1)).Nodup → (∀ x ∈ xs, x.1 % 4 = 2) → (b, s) ∈ xs → A[b + j]? = some y → (exs (blkW xs) A)[b + j]? = some ⟨y.s, some (pad (chunk s j))⟩
  | [], _, _, _, _, h, _ => by simp at h
  | x :: xs, A, y, hn, hm, h, hy => by
    rw [List.map_cons] at hn
    obtain ⟨hn1, hn2⟩ := List.nodup_cons.1 hn
    rw [blkW_cons, exs_app]
    rcases List.mem_cons.1 h with rfl | h
    · rw [exs_off (off_blk fun x hx j' hj' e => ?_)]
      · exact pg_in hj hy
      · have h1 := hm x (List.mem_cons_of_mem _ hx)
        have h2 := hm (b, s) (List.mem_cons_self ..)
        have h2 : b % 4 = 2 := h2
        have : x.1 = b := by omega
        exact hn1 (List.mem_map.2 ⟨x, hx, this⟩)
    · refine blk_in hj hn2 (fun x hx => hm x (List.mem_cons_of_mem _ hx)) h ?_
      rw [exs_off (off_pg fun j' hj' e => ?_)]
      · exact hy
      · have h1 := hm x (List.mem_cons_self ..)
        have h2 := hm (b, s) (List.mem_cons_of_mem _ h)
        have h2 : b % 4 = 2 := h2
        have : x.1 = b := by omega
        exact hn1 (List.mem_map.2 ⟨(b, s), h, this.symm⟩)
theorem good_blk {N : Nat} {xs : List (Nat × ByteArray)} (h : ∀ x ∈ xs, x.1 + 4 ≤ N ∧ x.2.size = 256) : ∀ d ∈ blkW xs, d.good N := by
  intro d hd
  obtain ⟨x, hx, j, hj, rfl⟩ := mem_blkW.1 hd
  obtain ⟨h1, h2⟩ := h x hx
  exact ⟨by omega, by omega, Nat.le_of_eq (chunk_size h2 hj)⟩
/-- a crash: what is sure stays; a mark says what one of both says -/
def Cr (A A' : List Sec) : Prop := A'.length = A.length ∧ ∀ (i : Nat) (x : Sec), A[i]? = some x → ∃ z, A'[i]? = some ⟨z, none⟩ ∧ (x.u = none → z = x.s) ∧ (mkd z.1 = mkd x.s.1 ∨ mkd z.1 = mkd x.now.1)
theorem Cr.sure {A A' : List Sec} (h : Cr A A') {i : Nat} {z : Sct} (hz : A[i]? = some ⟨z, none⟩) : A'[i]? = some ⟨z, none⟩ := by
  obtain ⟨y, h1, h2, _⟩ := h.2 i _ hz
  have e : y = z := h2 rfl
  rw [h1, e]
theorem Cr.all {A A' : List Sec} (h : Cr A A') : ∀ x ∈ A', x.u = none := by
  intro x hx
  obtain ⟨i, hi, rfl⟩ := List.mem_iff_getElem.1 hx
  have hi2 : i < A.length := by rw [← h.1]; exact hi
  obtain ⟨z, h1, _⟩ := h.2 i A[i] (List.getElem?_eq_getElem hi2)
  rw [List.getElem?_eq_getElem hi] at h1
  rw [Option.some.inj h1]
end Go.Proofs.YtongpnolikkknaaGreatDoor

set_option maxRecDepth 20000
namespace Go.Proofs.YtongpnolikkknaaGreatDoor
open Sh RowKit Go.MapKept
theorem pad_64 {s : ByteArray} (h : s.size = 64) : (pad s).1 = s := by
  show strOfNums (padL s) = s
  unfold padL
  rw [h, List.take_of_length_le (by rw [byL_len]; omega)]
  show strOfNums (byL s ++ []) = s
  rw [List.append_nil, son_byL]
theorem pad_chunk {s : ByteArray} {j : Nat} (h : s.size = 256) (hj : j < 4) : (pad (chunk s j)).1 = chunk s j := pad_64 (chunk_size h hj)
def PgS (A : List Sec) (L : List ByteArray) : Prop := ∀ (n : Nat) (s : ByteArray), L[n]? = some s → ∀ j, j < 4 → A[126 + 4 * n + j]? = some ⟨pad (chunk s j), none⟩
def Ing (A : List Sec) (L : List ByteArray) (l : List Int) : Prop := ∃ d : Sct, A[1]? = some ⟨d, none⟩ ∧ dirB d.1 = true ∧ lst d.1 = l ∧ (∀ n ∈ l, n < (L.length : Int)) ∧
  (∀ (k : Nat) (n : Int) (s : ByteArray), l[k]? = some n → L[n.toNat]? = some s → ∀ j, j < 4 → A[2 + 4 * k + j]? = some ⟨pad (chunk s j), none⟩) ∧
  (∀ (n : Nat) (s : ByteArray), ((n : Nat) : Int) ∉ l → L[n]? = some s → ∀ j, j < 4 → A[126 + 4 * n + j]? = some ⟨pad (chunk s j), none⟩)
def Mk (A : List Sec) (b : Bool) : Prop := ∃ z : Sct, A[0]? = some ⟨z, none⟩ ∧ mkd z.1 = b
structure Fit (A : List Sec) (L : List ByteArray) : Prop where
  len : 126 + 4 * L.length ≤ A.length
  sz : ∀ s ∈ L, s.size = 256
  n1 : 1 ≤ L.length
  n2 : L.length ≤ 160
def Holds (A : List Sec) (L : List ByteArray) : Prop := Mk A false ∧ PgS A L ∨ Mk A true ∧ ∃ l, Ing A L l
def AllS (A : List Sec) : Prop := ∀ x ∈ A, x.u = none
theorem PgS.sub {A A' : List Sec} {L : List ByteArray} (h : PgS A L) (hs : ∀ i z, 126 ≤ i → A[i]? = some ⟨z, none⟩ → A'[i]? = some ⟨z, none⟩) : PgS A' L := fun n s hn j hj => hs _ _ (by omega) (h n s hn j hj)
theorem Ing.ok {A : List Sec} {L : List ByteArray} {l : List Int} (h : Ing A L l) : l.length ≤ 31 ∧ l.Nodup ∧ ∀ n ∈ l, 0 ≤ n ∧ n < (L.length : Int) := by
  obtain ⟨d, _, hd, rfl, hl, _⟩ := h
  obtain ⟨_, h2, h3, h4⟩ := dirB_lst hd
  exact ⟨h2, h3, fun n hn => ⟨(h4 n hn).1, hl n hn⟩⟩
theorem Ing.sub {A A' : List Sec} {L : List ByteArray} {l : List Int} (h : Ing A L l) (hs : ∀ i z, i ≠ 0 → (∀ n ∈ l, ∀ j, j < 4 → i ≠ 126 + 4 * n.toNat + j) → A[i]? = some ⟨z, none⟩ → A'[i]? = some ⟨z, none⟩) : Ing A' L l := by
  obtain ⟨h31, hnd, hbd⟩ := h.ok
  obtain ⟨d, h1, hd, hl, hb, him, hpg⟩ := h
  refine ⟨d, hs _ _ (by omega) (fun n _ j _ => by omega) h1, hd, hl, hb, fun k n s hk hn j hj => hs _ _ (by omega) (fun n' _ j' _ => ?_) (him k n s hk hn j hj), fun n s hn hs' j hj => hs _ _ (by omega) (fun n' hn' j' hj' e => ?_) (hpg n s hn hs' j hj)⟩
  · have := (List.getElem?_eq_some_iff.1 hk).1
    omega
  · have := hbd n' hn'
    have e2 : ((n : Nat) : Int) = n' := by omega
    exact hn (e2 ▸ hn')
theorem Mk.sub {A A' : List Sec} {b : Bool} (h : Mk A b) (hs : ∀ z, A[0]? = some ⟨z, none⟩ → A'[0]? = some ⟨z, none⟩) : Mk A' b := by
  obtain ⟨z, h1, h2⟩ := h
  exact ⟨z, hs z h1, h2⟩
theorem sy_sub {A : List Sec} {i : Nat} {z : Sct} (h : A[i]? = some ⟨z, none⟩) : (De.sy.ex A)[i]? = some ⟨z, none⟩ := by rw [ex_sy, h]; rfl
theorem sy_all (A : List Sec) : AllS (De.sy.ex A) := by
  intro x hx
  obtain ⟨y, _, rfl⟩ := List.mem_map.1 hx
  rfl
theorem wr0_at {A : List Sec} {b c : Bool} (h : Mk A b) : ∃ z : Sct, mkd z.1 = b ∧ ((De.wr 0 (markB c).1).ex A)[0]? = some ⟨z, some (markB c)⟩ := by
  obtain ⟨z, h1, h2⟩ := h
  refine ⟨z, h2, ?_⟩
  have e := ex_wr_in (i := 0) (a := (0 : Int)) (s := (markB c).1) rfl h1
  rw [e]
  have : pad (markB c).1 = markB c := Subtype.ext (pad_64 (markB c).2)
  rw [this]
theorem wr0_cr {A A' : List Sec} {b c : Bool} (h : Mk A b) (hc : Cr ((De.wr 0 (markB c).1).ex A) A') : Mk A' b ∨ Mk A' c := by
  obtain ⟨z, h1, h2⟩ := wr0_at (c := c) h
  obtain ⟨y, h3, _, h4⟩ := hc.2 0 _ h2
  rcases h4 with h4 | h4
  · exact .inl ⟨y, h3, by rw [h4]; exact h1⟩
  · exact .inr ⟨y, h3, by rw [h4]; exact mkd_mark c⟩
theorem wr0_sy {A : List Sec} {b c : Bool} (h : Mk A b) : Mk (De.sy.ex ((De.wr 0 (markB c).1).ex A)) c := by
  obtain ⟨z, h1, h2⟩ := wr0_at (c := c) h
  exact ⟨markB c, by rw [ex_sy, h2]; rfl, mkd_mark c⟩
theorem wr0_out {A : List Sec} {c : Bool} {i : Nat} (h : i ≠ 0) : ((De.wr 0 (markB c).1).ex A)[i]? = A[i]? := ex_wr_out h
/-- at each deed, not behind the last -/
def Pre (C : List Sec → Prop) (ds : List De) (A : List Sec) : Prop := ∀ k, k < ds.length → C (exs (ds.take k) A)
theorem Pre_app {C : List Sec → Prop} {ds es : List De} {A : List Sec} (h : Pre C ds A) (g : Pre C es (exs ds A)) : Pre C (ds ++ es) A := by
  intro k hk
  rw [List.length_append] at hk
  by_cases c : k < ds.length
  · rw [List.take_append_of_le_length (by omega)]
    exact h k c
  · rw [List.take_append, List.take_of_length_le (by omega), exs_app]
    exact g _ (by omega)
theorem Pre_cons {C : List Sec → Prop} {d : De} {ds : List De} {A : List Sec} (h : C A) (g : Pre C ds (d.ex A)) : Pre C (d :: ds) A := by
  intro k hk
  cases k with
  | zero => exact h
  | succ k => rw [List.take_succ_cons, exs_cons]; exact g k (by rw [List.length_cons] at hk; omega)
theorem Pre_nil {C : List Sec → Prop} {A : List Sec} : Pre C [] A := fun k hk => absurd hk (by simp)
theorem Pre_off {C : List Sec → Prop} {ds : List De} {A : List Sec} (h : ∀ A' : List Sec, (∀ i, Off i ds → A'[i]? = A[i]?) → C A') : Pre C ds A := fun k _ => h _ fun i hi => exs_off (hi.take k)
theorem Pre.mono {C C' : List Sec → Prop} {ds : List De} {A : List Sec} (h : Pre C ds A) (hc : ∀ A, C A → C' A) : Pre C' ds A := fun k hk => hc _ (h k hk)
/-- behind a crash -/
def CrH (L L2 : List ByteArray) (A : List Sec) : Prop := ∀ A', Cr A A' → Holds A' L ∨ Holds A' L2
theorem crh_no {A : List Sec} {L L2 : List ByteArray} (hm : Mk A false) (hp : PgS A L) : CrH L L2 A := fun A' hc => .inl (.inl ⟨hm.sub fun z h => hc.sure h, hp.sub fun i z _ h => hc.sure h⟩)
theorem crh_yes {A : List Sec} {L L2 : List ByteArray} {l : List Int} (hm : Mk A true) (hp : Ing A L l) : CrH L L2 A := fun A' hc => .inl (.inr ⟨hm.sub fun z h => hc.sure h, l, hp.sub fun i z _ _ h => hc.sure h⟩)
/-- the mark taken away -/
theorem tail_no {A : List Sec} {L L2 : List ByteArray} {l : List Int} (hm : Mk A true) (hi : Ing A L l) (hp : PgS A L2) :
    Pre (CrH L L2) (markD false) A ∧ Mk (exs (markD false) A) false ∧ PgS (exs (markD false) A) L2 ∧ AllS (exs (markD false) A) := by
  refine ⟨Pre_cons (crh_yes hm hi) (Pre_cons (fun A' hc => ?_) Pre_nil), wr0_sy hm, ?_, sy_all _⟩
  · rcases wr0_cr hm hc with h | h
    · exact .inl (.inr ⟨h, l, hi.sub fun i z h0 _ h => hc.sure (by rw [wr0_out h0]; exact h)⟩)
    · exact .inr (.inl ⟨h, hp.sub fun i z h0 h => hc.sure (by rw [wr0_out (by omega)]; exact h)⟩)
  · exact hp.sub fun i z h0 h => sy_sub (by rw [wr0_out (by omega)]; exact h)
theorem tail_yes {A : List Sec} {L L2 : List ByteArray} {l : List Int} (hm : Mk A false) (hi : Ing A L l) (hp : PgS A L) :
    Pre (CrH L L2) (markD true) A ∧ Mk (exs (markD true) A) true ∧ PgS (exs (markD true) A) L ∧ Ing (exs (markD true) A) L l := by
  refine ⟨Pre_cons (crh_no hm hp) (Pre_cons (fun A' hc => ?_) Pre_nil), wr0_sy hm, ?_, ?_⟩
  · rcases wr0_cr hm hc with h | h
    · exact .inl (.inl ⟨h, hp.sub fun i z h0 h => hc.sure (by rw [wr0_out (by omega)]; exact h)⟩)
    · exact .inl (.inr ⟨h, l, hi.sub fun i z h0 _ h => hc.sure (by rw [wr0_out h0]; exact h)⟩)
  · exact hp.sub fun i z h0 h => sy_sub (by rw [wr0_out (by omega)]; exact h)
  · exact hi.sub fun i z h0 _ h => sy_sub (by rw [wr0_out h0]; exact h)
/-- pages read -/
theorem rd_nat {D : Dv} {i : Nat} {y : Sec} (h : D.A[i]? = some y) : D.rd ((i : Nat) : Int) = y.now.1 := by
  unfold Dv.rd Dv.at
  rw [if_pos (by omega), Int.toNat_natCast, h]; rfl
theorem join_at {D : Dv} {b : Nat} {g : Nat → Int} {s : ByteArray} (hg : ∀ j, g j = ((b + j : Nat) : Int)) (hs : s.size = 256) (h : ∀ j, j < 4 → D.A[b + j]? = some ⟨pad (chunk s j), none⟩) : (joinB (rdL D g 4)).1 = s := by
  have e : rdL D g 4 = cutL s 4 := by
    unfold rdL cutL
    refine List.map_congr_left fun j hj => ?_
    have hj := List.mem_range.1 hj
    rw [hg j, rd_nat (h j hj)]
    exact pad_chunk hs hj
  rw [e, joinB_ok (by rw [cutL_len]) (fun x hx => by
    obtain ⟨j, hj, rfl⟩ := List.mem_map.1 hx
    exact chunk_size hs (List.mem_range.1 hj))]
  exact (cut_back hs).2
theorem plG_nat (n : Nat) (j : Nat) : plG ((n : Nat) : Int) j = ((126 + 4 * n + j : Nat) : Int) := by unfold plG; omega
theorem imG_nat (n : Nat) (j : Nat) : imG n j = ((2 + 4 * n + j : Nat) : Int) := by unfold imG; omega
theorem pgL_eq {D : Dv} {L : List ByteArray} (hz : ∀ s ∈ L, s.size = 256) (hp : PgS D.A L) : pgL D L.length = L := by
  apply List.ext_getElem?
  intro n
  unfold pgL
  rw [List.getElem?_map]
  by_cases c : n < L.length
  · rw [List.getElem?_range c, List.getElem?_eq_getElem c]
    have := hz L[n] (List.getElem_mem c)
    show some (pgP D n) = _
    unfold pgP
    rw [join_at (plG_nat n) this (hp n _ (List.getElem?_eq_getElem c))]
  · rw [List.getElem?_eq_none (by rw [List.length_range]; omega), List.getElem?_eq_none (by omega)]; rfl
theorem openB_un {D : Dv} {L : List ByteArray} (h : Fit D.A L) : openB D (L.length : Nat) = if mkd (D.rd 0) = true then recB D (pgL D L.length) else (0, D, pgL D L.length) := by
  have := h.len
  have := h.n1
  have := h.n2
  unfold openB
  rw [if_neg (by omega), Int.toNat_natCast]
theorem mk_rd {D : Dv} {b : Bool} (h : Mk D.A b) : mkd (D.rd 0) = b := by
  obtain ⟨z, h1, h2⟩ := h
  rw [show (0 : Int) = ((0 : Nat) : Int) from rfl, rd_nat h1]
  exact h2
theorem open_no {D : Dv} {L : List ByteArray} (h : Fit D.A L) (hm : Mk D.A false) (hp : PgS D.A L) : openB D (L.length : Nat) = (0, D, L) := by
  rw [openB_un h, mk_rd hm, if_neg (by decide), pgL_eq h.sz hp]
theorem getD_some {L : List ByteArray} {n : Nat} (h : n < L.length) : L[n]? = some (L.getD n ⟨#[]⟩) := by rw [List.getD_eq_getElem?_getD, List.getElem?_eq_getElem h]; rfl
theorem nodup_map_inj {α β : Type} {f : α → β} {l : List α} (h : l.Nodup) (hf : ∀ a ∈ l, ∀ b ∈ l, f a = f b → a = b) : (l.map f).Nodup := by
  induction l with
  | nil => exact List.nodup_nil
  | cons a l ih =>
    obtain ⟨h1, h2⟩ := List.nodup_cons.1 h
    rw [List.map_cons, List.nodup_cons]
    refine ⟨fun hc => ?_, ih h2 fun a ha b hb => hf a (List.mem_cons_of_mem _ ha) b (List.mem_cons_of_mem _ hb)⟩
    obtain ⟨b, hb, e⟩ := List.mem_map.1 hc
    exact h1 (hf b (List.mem_cons_of_mem _ hb) a (List.mem_cons_self ..) e ▸ hb)
end Go.Proofs.YtongpnolikkknaaGreatDoor

set_option maxRecDepth 20000
namespace Go.Proofs.YtongpnolikkknaaGreatDoor
open Sh RowKit Go.MapKept
def imX (L : List ByteArray) (cs : List Ch) : List (Nat × ByteArray) := (List.range cs.length).map fun k => (2 + 4 * k, L.getD (chG cs k).1.toNat ⟨#[]⟩)
def pgX (cs : List Ch) : List (Nat × ByteArray) := cs.map fun c => (126 + 4 * c.1.toNat, c.2)
theorem chG_get {cs : List Ch} {k : Nat} (h : k < cs.length) : chG cs k = cs[k] := by
  unfold chG; rw [List.getD_eq_getElem?_getD, List.getElem?_eq_getElem h]; rfl
theorem ims_eq {L : List ByteArray} {cs : List Ch} (hz : ∀ s ∈ L, s.size = 256) (hb : ∀ x ∈ cs, 0 ≤ x.1 ∧ x.1 < (L.length : Int)) : imsD L cs cs.length = blkW (imX L cs) := by
  unfold imsD blkW imX
  rw [List.flatMap_map]
  have key : ∀ l : List Nat, (∀ k ∈ l, k < cs.length) → (l.flatMap fun k => pageD (imG k) (L.getD (chG cs k).1.toNat ⟨#[]⟩)) = l.flatMap fun k => pgW (2 + 4 * k) (L.getD (chG cs k).1.toNat ⟨#[]⟩) := by
    intro l
    induction l with
    | nil => intro _; rfl
    | cons a l ih =>
      intro h
      rw [List.flatMap_cons, List.flatMap_cons, ih fun k hk => h k (List.mem_cons_of_mem _ hk)]
      have ha := h a (List.mem_cons_self ..)
      have hx := hb _ (List.getElem_mem ha)
      have hlt : (chG cs a).1.toNat < L.length := by rw [chG_get ha]; omega
      rw [pageD_pgW (hz _ (List.mem_of_getElem? (getD_some hlt))) (imG_nat a)]
  exact key _ fun k hk => List.mem_range.1 hk
theorem pgs_eq {cs : List Ch} (hz : ∀ x ∈ cs, x.2.size = 256) (hb : ∀ x ∈ cs, 0 ≤ x.1) : pgsD cs cs.length = blkW (pgX cs) := by
  have e : pgX cs = (List.range cs.length).map fun k => (126 + 4 * (chG cs k).1.toNat, (chG cs k).2) := by
    apply List.ext_getElem?
    intro k
    unfold pgX
    rw [List.getElem?_map, List.getElem?_map]
    by_cases c : k < cs.length
    · rw [List.getElem?_range c, List.getElem?_eq_getElem c]
      show some (126 + 4 * cs[k].1.toNat, cs[k].2) = some (126 + 4 * (chG cs k).1.toNat, (chG cs k).2)
      rw [chG_get c]
    · rw [List.getElem?_eq_none (by omega), List.getElem?_eq_none (by rw [List.length_range]; omega)]; rfl
  rw [e]
  unfold pgsD blkW
  rw [List.flatMap_map]
  have key : ∀ l : List Nat, (∀ k ∈ l, k < cs.length) → (l.flatMap fun k => pageD (plG (chG cs k).1) (chG cs k).2) = l.flatMap fun k => pgW (126 + 4 * (chG cs k).1.toNat) (chG cs k).2 := by
    intro l
    induction l with
    | nil => intro _; rfl
    | cons a l ih =>
      intro h
      rw [List.flatMap_cons, List.flatMap_cons, ih fun k hk => h k (List.mem_cons_of_mem _ hk)]
      have ha := h a (List.mem_cons_self ..)
      have h1 := hz _ (List.getElem_mem ha)
      have h2 := hb _ (List.getElem_mem ha)
      rw [← chG_get ha] at h1 h2
      have e : plG (chG cs a).1 = plG (((chG cs a).1.toNat : Nat) : Int) := by rw [Int.toNat_of_nonneg h2]
      rw [e, pageD_pgW h1 (plG_nat _)]
  exact key _ fun k hk => List.mem_range.1 hk
theorem setL_out : ∀ (cs : List Ch) (L : List ByteArray) (n : Nat), (∀ x ∈ cs, x.1.toNat ≠ n) → (setL L cs)[n]? = L[n]?
  | [], L, n, _ => rfl
  | c :: cs, L, n, h => by
    show (setL (L.set c.1.toNat c.2) cs)[n]? = _
    rw [setL_out cs _ n fun x hx => h x (List.mem_cons_of_mem _ hx), List.getElem?_set_ne (h c (List.mem_cons_self ..))]
theorem setL_in : ∀ (cs : List Ch) (L : List ByteArray) (x : Ch), (cs.map (·.1)).Nodup → (∀ y ∈ cs, 0 ≤ y.1 ∧ y.1 < (L.length : Int)) → x ∈ cs → (setL L cs)[x.1.toNat]? = some x.2
  | [], L, x, _, _, h => by simp at h
  | c :: cs, L, x, hn, hb, h => by
    rw [List.map_cons] at hn
    obtain ⟨h1, h2⟩ := List.nodup_cons.1 hn
    show (setL (L.set c.1.toNat c.2) cs)[x.1.toNat]? = _
    rcases List.mem_cons.1 h with rfl | h
    · rw [setL_out cs _ _ fun y hy e => ?_]
      · have := hb x (List.mem_cons_self ..)
        rw [List.getElem?_set_self (by omega)]
      · have q1 := hb x (List.mem_cons_self ..)
        have q2 := hb y (List.mem_cons_of_mem _ hy)
        have : y.1 = x.1 := by omega
        exact h1 (List.mem_map.2 ⟨y, hy, this⟩)
    · exact setL_in cs _ x h2 (fun y hy => by rw [List.length_set]; exact hb y (List.mem_cons_of_mem _ hy)) h
theorem setL_sz {cs : List Ch} {L : List ByteArray} (hz : ∀ s ∈ L, s.size = 256) (hc : ∀ x ∈ cs, x.2.size = 256) : ∀ s ∈ setL L cs, s.size = 256 := by
  induction cs generalizing L with
  | nil => exact hz
  | cons c cs ih =>
    refine ih (fun s hs => ?_) (fun x hx => hc x (List.mem_cons_of_mem _ hx))
    rcases List.mem_or_eq_of_mem_set hs with h | rfl
    · exact hz s h
    · exact hc c (List.mem_cons_self ..)
/-- a commit's deeds -/
theorem commit_stage {A : List Sec} {L : List ByteArray} {cs : List Ch} (h : Fit A L) (hm : Mk A false) (hp : PgS A L) (hv : mayB false L.length cs = 0) :
    Pre (CrH L (setL L cs)) (stepsD L cs) A ∧ Mk (exs (stepsD L cs) A) false ∧ PgS (exs (stepsD L cs) A) (setL L cs) ∧ AllS (exs (stepsD L cs) A) ∧ (∀ d ∈ stepsD L cs, d.good A.length) ∧ (stepsD L cs).length = 8 * cs.length + 7 := by
  obtain ⟨_, h31, hbd, hnd, hsz⟩ := mayB_ok hv
  have hlen := h.len
  have n160 := h.n2
  have hbl : ∀ n ∈ cs.map (fun x : Ch => x.1), 0 ≤ n ∧ n < (L.length : Int) := fun n hn => by
    obtain ⟨x, hx, rfl⟩ := List.mem_map.1 hn
    exact hbd x hx
  have hr : rightB (cs.map (·.1)) = true := decide_eq_true ⟨hnd, fun x hx => by have := hbl x hx; omega⟩
  obtain ⟨_, hl1, _, hl3⟩ := dir_back (l := cs.map (·.1)) (by rw [List.length_map]; exact h31) hr
  have hd64 : (dirW (cs.map (·.1))).1.size = 64 := by
    unfold dirW
    rw [List.length_map, if_neg (by omega), if_pos hr]
    exact (pad _).2
  have eim := ims_eq h.sz hbd
  have epg := pgs_eq hsz fun x hx => (hbd x hx).1
  -- the first deeds
  have offP : ∀ i, (i = 0 ∨ 126 ≤ i) → Off i ([De.wr 1 (dirW (cs.map (·.1))).1] ++ blkW (imX L cs)) := by
    intro i hi
    refine Off.app (fun d hd => ⟨1, _, List.mem_singleton.1 hd, by omega⟩) (off_blk fun x hx j hj => ?_)
    obtain ⟨k, hk, rfl⟩ := List.mem_map.1 hx
    have := List.mem_range.1 hk
    show i ≠ 2 + 4 * k + j
    omega
  have off1 : Off 1 (blkW (imX L cs)) := off_blk fun x hx j hj => by
    obtain ⟨k, hk, rfl⟩ := List.mem_map.1 hx
    show 1 ≠ 2 + 4 * k + j
    omega
  have keep : ∀ A' : List Sec, (∀ i, Off i ([De.wr 1 (dirW (cs.map (·.1))).1] ++ blkW (imX L cs)) → A'[i]? = A[i]?) → Mk A' false ∧ PgS A' L := fun A' hA => ⟨hm.sub fun z hz => by rw [hA 0 (offP 0 (.inl rfl))]; exact hz, hp.sub fun i z hi hz => by rw [hA i (offP i (.inr hi))]; exact hz⟩
  obtain ⟨m1, p1⟩ := keep (exs ([De.wr 1 (dirW (cs.map (·.1))).1] ++ blkW (imX L cs)) A) fun i hi => exs_off hi
  have m2 : Mk (De.sy.ex (exs ([De.wr 1 (dirW (cs.map (·.1))).1] ++ blkW (imX L cs)) A)) false := m1.sub fun z hz => sy_sub hz
  have p2 : PgS (De.sy.ex (exs ([De.wr 1 (dirW (cs.map (·.1))).1] ++ blkW (imX L cs)) A)) L := p1.sub fun i z _ hz => sy_sub hz
  have i2 : Ing (De.sy.ex (exs ([De.wr 1 (dirW (cs.map (·.1))).1] ++ blkW (imX L cs)) A)) L (cs.map (·.1)) := by
    refine ⟨pad (dirW (cs.map (·.1))).1, ?_, by rw [pad_64 hd64]; exact hl3, by rw [pad_64 hd64]; exact hl1, fun n hn => (hbl n hn).2, fun k n s hk hs j hj => ?_, fun n s _ hs j hj => p2 n s hs j hj⟩
    · have hy : A[1]? = some (A[1]'(by omega)) := List.getElem?_eq_getElem (by omega)
      have e := ex_wr_in (i := 1) (a := (1 : Int)) (s := (dirW (cs.map (·.1))).1) rfl hy
      rw [ex_sy, exs_app, exs_off off1, exs_cons]
      show Option.map _ ((De.wr 1 (dirW (cs.map (·.1))).1).ex A)[1]? = _
      rw [e]; rfl
    · have hkl : k < cs.length := by have := (List.getElem?_eq_some_iff.1 hk).1; rwa [List.length_map] at this
      have hmem : (2 + 4 * k, s) ∈ imX L cs := by
        refine List.mem_map.2 ⟨k, List.mem_range.2 hkl, ?_⟩
        rw [List.getElem?_map, List.getElem?_eq_getElem hkl] at hk
        have : cs[k].1 = n := Option.some.inj hk
        rw [chG_get hkl, this, List.getD_eq_getElem?_getD, hs]; rfl
      have ndI : ((imX L cs).map (·.1)).Nodup := by
        have e : (imX L cs).map (·.1) = (List.range cs.length).map fun k => 2 + 4 * k := by unfold imX; rw [List.map_map]; rfl
        rw [e]
        exact nodup_map_inj List.nodup_range fun a _ b _ e => by omega
      have hy : (exs [De.wr 1 (dirW (cs.map (·.1))).1] A)[2 + 4 * k + j]? = some ((exs [De.wr 1 (dirW (cs.map (·.1))).1] A)[2 + 4 * k + j]'(by rw [exs_len]; omega)) := List.getElem?_eq_getElem _
      rw [ex_sy, exs_app, blk_in hj ndI (fun x hx => by obtain ⟨k, _, rfl⟩ := List.mem_map.1 hx; show (2 + 4 * k) % 4 = 2; omega) hmem hy]
      rfl
  obtain ⟨t1, t2, t3, t4⟩ := tail_yes (L2 := setL L cs) m2 i2 p2
  generalize hA4 : exs (markD true) (De.sy.ex (exs ([De.wr 1 (dirW (cs.map (·.1))).1] ++ blkW (imX L cs)) A)) = A4 at *
  have l4 : A4.length = A.length := by rw [← hA4, exs_len, ex_len, exs_len]
  -- the pages
  have pX : ∀ x ∈ pgX cs, ∃ c ∈ cs, x = (126 + 4 * c.1.toNat, c.2) := fun x hx => by
    obtain ⟨c, hc, rfl⟩ := List.mem_map.1 hx
    exact ⟨c, hc, rfl⟩
  have off4 : Off 0 (blkW (pgX cs)) := off_blk fun x hx j hj => by obtain ⟨c, hc, rfl⟩ := pX x hx; show 0 ≠ 126 + 4 * c.1.toNat + j; omega
  have offI : ∀ i, (∀ n ∈ cs.map (fun x : Ch => x.1), ∀ j, j < 4 → i ≠ 126 + 4 * n.toNat + j) → Off i (blkW (pgX cs)) := fun i hi => off_blk fun x hx j hj => by
    obtain ⟨c, hc, rfl⟩ := pX x hx
    exact hi c.1 (List.mem_map.2 ⟨c, hc, rfl⟩) j hj
  have keep4 : ∀ A' : List Sec, (∀ i, Off i (blkW (pgX cs)) → A'[i]? = A4[i]?) → Mk A' true ∧ Ing A' L (cs.map (·.1)) := fun A' hA => ⟨t2.sub fun z hz => by rw [hA 0 off4]; exact hz, t4.sub fun i z _ h2 hz => by rw [hA i (offI i h2)]; exact hz⟩
  obtain ⟨m5, i5⟩ := keep4 (exs (blkW (pgX cs)) A4) fun i hi => exs_off hi
  have m6 : Mk (De.sy.ex (exs (blkW (pgX cs)) A4)) true := m5.sub fun z hz => sy_sub hz
  have i6 : Ing (De.sy.ex (exs (blkW (pgX cs)) A4)) L (cs.map (·.1)) := i5.sub fun i z _ _ hz => sy_sub hz
  have ndP : ((pgX cs).map (·.1)).Nodup := by
    have e : (pgX cs).map (·.1) = (cs.map (·.1)).map fun n => 126 + 4 * n.toNat := by unfold pgX; rw [List.map_map, List.map_map]; rfl
    rw [e]
    exact nodup_map_inj hnd fun a ha b hb e => by have := hbl a ha; have := hbl b hb; omega
  have p6 : PgS (De.sy.ex (exs (blkW (pgX cs)) A4)) (setL L cs) := by
    intro n s hs j hj
    by_cases c : ((n : Nat) : Int) ∈ cs.map (fun x : Ch => x.1)
    · obtain ⟨x, hx, hxn⟩ := List.mem_map.1 c
      have hxn : x.1 = ((n : Nat) : Int) := hxn
      have e1 := setL_in cs L x hnd hbd hx
      have e2 : x.1.toNat = n := by omega
      rw [e2, hs] at e1
      have e1 : s = x.2 := Option.some.inj e1
      have hmem : (126 + 4 * n, s) ∈ pgX cs := List.mem_map.2 ⟨x, hx, by rw [e2, e1]⟩
      have := hbd x hx
      have hy : A4[126 + 4 * n + j]? = some (A4[126 + 4 * n + j]'(by omega)) := List.getElem?_eq_getElem (by omega)
      rw [ex_sy, blk_in hj ndP (fun x hx => by obtain ⟨c, hc, rfl⟩ := pX x hx; show (126 + 4 * c.1.toNat) % 4 = 2; omega) hmem hy]
      rfl
    · rw [setL_out cs L n fun x hx e => c (List.mem_map.2 ⟨x, hx, by have := hbd x hx; omega⟩)] at hs
      obtain ⟨d, _, _, _, _, _, hpg⟩ := i6
      exact hpg n s c hs j hj
  obtain ⟨u1, u2, u3, u4⟩ := tail_no (L2 := setL L cs) m6 i6 p6
  have eS : stepsD L cs = [De.wr 1 (dirW (cs.map (·.1))).1] ++ blkW (imX L cs) ++ [De.sy] ++ markD true ++ blkW (pgX cs) ++ [.sy] ++ markD false := by
    unfold stepsD; rw [eim, epg]
  have eE : exs (stepsD L cs) A = exs (markD false) (De.sy.ex (exs (blkW (pgX cs)) A4)) := by
    rw [eS, exs_app, exs_app, exs_app, exs_app, exs_app, ← hA4]; rfl
  refine ⟨?_, by rw [eE]; exact u2, by rw [eE]; exact u3, by rw [eE]; exact u4, ?_, ?_⟩
  · rw [eS]
    refine Pre_app (Pre_app (Pre_app (Pre_app (Pre_app (Pre_off fun A' hA => ?_) (Pre_cons (crh_no m1 p1) Pre_nil)) ?_) ?_) ?_) ?_
    · obtain ⟨a1, a2⟩ := keep A' hA
      exact crh_no a1 a2
    · rw [exs_app]
      exact t1
    · rw [exs_app, exs_app]
      show Pre _ _ (exs (markD true) (De.sy.ex (exs ([De.wr 1 (dirW (cs.map (·.1))).1] ++ blkW (imX L cs)) A)))
      rw [hA4]
      refine Pre_off fun A' hA => ?_
      obtain ⟨a1, a2⟩ := keep4 A' hA
      exact crh_yes a1 a2
    · rw [exs_app, exs_app, exs_app]
      show Pre _ _ (exs (blkW (pgX cs)) (exs (markD true) (De.sy.ex (exs ([De.wr 1 (dirW (cs.map (·.1))).1] ++ blkW (imX L cs)) A))))
      rw [hA4]
      exact Pre_cons (crh_yes m5 i5) Pre_nil
    · rw [exs_app, exs_app, exs_app, exs_app]
      show Pre _ _ (De.sy.ex (exs (blkW (pgX cs)) (exs (markD true) (De.sy.ex (exs ([De.wr 1 (dirW (cs.map (·.1))).1] ++ blkW (imX L cs)) A)))))
      rw [hA4]
      exact u1
  · have gm : ∀ b, ∀ d ∈ markD b, d.good A.length := fun b d hd => by
      rcases List.mem_cons.1 hd with rfl | hd
      · exact ⟨by omega, by omega, Nat.le_of_eq (markB b).2⟩
      · rw [List.mem_singleton.1 hd]; trivial
    have gs : ∀ d ∈ [De.sy], d.good A.length := fun d hd => by rw [List.mem_singleton.1 hd]; trivial
    have gI : ∀ d ∈ blkW (imX L cs), d.good A.length := good_blk fun x hx => by
      obtain ⟨k, hk, rfl⟩ := List.mem_map.1 hx
      have hkl := List.mem_range.1 hk
      have := hbd _ (List.getElem_mem hkl)
      have hlt : (chG cs k).1.toNat < L.length := by rw [chG_get hkl]; omega
      exact ⟨by show 2 + 4 * k + 4 ≤ _; omega, h.sz _ (List.mem_of_getElem? (getD_some hlt))⟩
    have gP : ∀ d ∈ blkW (pgX cs), d.good A.length := good_blk fun x hx => by
      obtain ⟨c, hc, rfl⟩ := pX x hx
      have := hbd c hc
      exact ⟨by show 126 + 4 * c.1.toNat + 4 ≤ _; omega, hsz c hc⟩
    have g1 : ∀ d ∈ [De.wr 1 (dirW (cs.map (·.1))).1], d.good A.length := fun d hd => by rw [List.mem_singleton.1 hd]; exact ⟨by omega, by omega, Nat.le_of_eq hd64⟩
    have ga : ∀ {x y : List De}, (∀ d ∈ x, d.good A.length) → (∀ d ∈ y, d.good A.length) → ∀ d ∈ x ++ y, d.good A.length := fun hx hy d hd => (List.mem_append.1 hd).elim (hx d) (hy d)
    rw [eS]
    exact ga (ga (ga (ga (ga (ga g1 gI) gs) (gm true)) gP) gs) (gm false)
  · rw [eS]
    have a1 : (imX L cs).length = cs.length := by unfold imX; simp
    have a2 : (pgX cs).length = cs.length := by unfold pgX; simp
    simp only [List.length_append, blkW_len, a1, a2, List.length_cons, List.length_nil, markD]
    omega
theorem setL_fit {A A' : List Sec} {L : List ByteArray} {cs : List Ch} (h : Fit A L) (hv : mayB false L.length cs = 0) (hl : A'.length = A.length) : Fit A' (setL L cs) := by
  obtain ⟨_, _, _, _, hsz⟩ := mayB_ok hv
  exact ⟨by rw [setL_len, hl]; exact h.len, setL_sz h.sz hsz, by rw [setL_len]; exact h.n1, by rw [setL_len]; exact h.n2⟩
/-- a commit that may be, of some changes -/
theorem commit_two {G : Pg} {D : Dv} {cs : List Ch} (h : Fit D.A G.L) (hm : Mk D.A false) (hp : PgS D.A G.L) (hv : mayB G.st G.L.length cs = 0) (hne : cs ≠ []) :
    (commitB G D cs).2.1.h = D.h ∧ D.c ≤ (commitB G D cs).2.1.c ∧ (commitB G D cs).2.1.c ≤ D.c + 300 ∧ (commitB G D cs).2.1.A.length = D.A.length ∧ (∀ A', Cr (commitB G D cs).2.1.A A' → Holds A' G.L ∨ Holds A' (setL G.L cs)) ∧
    ((commitB G D cs).1 = 0 ∧ (commitB G D cs).2.2 = ⟨setL G.L cs, G.st, G.c + 1⟩ ∧ Mk (commitB G D cs).2.1.A false ∧ PgS (commitB G D cs).2.1.A (setL G.L cs) ∧ AllS (commitB G D cs).2.1.A ∧ (commitB G D cs).2.1.c = D.c + (8 * cs.length + 7 : Nat) ∨
     (commitB G D cs).1 = 9 ∧ (commitB G D cs).2.2 = { G with st := true }) ∧ (D.c + 300 ≤ D.h → (commitB G D cs).1 = 0) := by
  have hst := (mayB_ok hv).1
  have h31 := (mayB_ok hv).2.1
  have hv' := hv
  rw [hst] at hv'
  obtain ⟨s1, s2, s3, s4, s5, s6⟩ := commit_stage h hm hp hv'
  have hcm : ¬ (mayB G.st G.L.length cs ≠ 0 ∨ cs = []) := fun hx => hx.elim (fun h => h hv) hne
  have hc := runs_c (stepsD G.L cs) D
  rcases runs_two (stepsD G.L cs) D s5 with e | ⟨e1, e2, k, hk, e3⟩
  · have eC : commitB G D cs = (0, ⟨exs (stepsD G.L cs) D.A, D.c + (stepsD G.L cs).length, D.h⟩, ⟨setL G.L cs, G.st, G.c + 1⟩) := by
      unfold commitB
      rw [if_neg hcm, e, if_neg (fun h => h rfl)]
    rw [eC]
    refine ⟨rfl, by show D.c ≤ D.c + ((stepsD G.L cs).length : Int); omega, by show D.c + ((stepsD G.L cs).length : Int) ≤ _; omega, exs_len _ _, fun A' hc => ?_, .inl ⟨rfl, rfl, s2, s3, s4, by show D.c + ((stepsD G.L cs).length : Int) = _; rw [s6]⟩, fun _ => rfl⟩
    exact (crh_no (L2 := G.L) s2 s3 A' hc).symm
  · have n9 : ¬ (runs (stepsD G.L cs) D).1 = 0 := by rw [e1]; decide
    have eC : commitB G D cs = ((runs (stepsD G.L cs) D).1, (runs (stepsD G.L cs) D).2, { G with st := true }) := by
      unfold commitB
      rw [if_neg hcm, if_pos n9]
    rw [eC]
    refine ⟨e2, hc.1, by have := hc.2; show (runs (stepsD G.L cs) D).2.c ≤ _; omega, by show (runs (stepsD G.L cs) D).2.A.length = _; rw [e3, exs_len], fun A' hcr => ?_, .inr ⟨e1, rfl⟩, fun hd => ?_⟩
    · have hcr : Cr (runs (stepsD G.L cs) D).2.A A' := hcr
      rw [e3] at hcr
      exact s1 k hk A' hcr
    · have := runs_ok _ _ s5 (by omega)
      rw [this] at n9
      exact absurd rfl n9
/-- a commit that may not be, or of nothing -/
theorem commit_no {G : Pg} {D : Dv} {cs : List Ch} (h : mayB G.st G.L.length cs ≠ 0 ∨ cs = []) : commitB G D cs = (mayB G.st G.L.length cs, D, G) := by
  unfold commitB
  rw [if_pos h]
/-- a new device's pages -/
theorem new_mk (n : Nat) (h : 0 < n) : Mk (newD n).A false := ⟨pad ⟨#[]⟩, by unfold newD; rw [List.getElem?_replicate, if_pos h], by show mkd (markB false).1 = false; exact mkd_mark false⟩
theorem zs_chunk {j : Nat} (hj : j < 4) : chunk (zs 256) j = zs 64 := by
  apply byL_inj
  unfold chunk
  rw [byL_take, byL_zs, byL_zs]
  rcases (by omega : j = 0 ∨ j = 1 ∨ j = 2 ∨ j = 3) with rfl | rfl | rfl | rfl <;> decide
theorem pad_zs : pad (zs 64) = pad ⟨#[]⟩ := by
  apply Subtype.ext
  rw [pad_64 (zs_size 64)]
  apply byL_inj
  rw [byL_zs, byL_pad]
  rfl
theorem new_pgs (m n : Nat) (h : 126 + 4 * m ≤ n) : PgS (newD n).A (List.replicate m (zs 256)) := by
  intro k s hs j hj
  rw [List.getElem?_replicate] at hs
  split at hs
  · rename_i hk
    obtain rfl : zs 256 = s := Option.some.inj hs
    unfold newD
    rw [List.getElem?_replicate, if_pos (by omega), zs_chunk hj, pad_zs]
  · cases hs
theorem new_fit (m n : Nat) (h1 : 1 ≤ m) (h2 : m ≤ 160) (h : 126 + 4 * m ≤ n) : Fit (newD n).A (List.replicate m (zs 256)) :=
  ⟨by unfold newD; simp; exact h, fun s hs => by rw [List.eq_of_mem_replicate hs]; exact zs_size 256, by simpa using h1, by simpa using h2⟩
end Go.Proofs.YtongpnolikkknaaGreatDoor

set_option maxRecDepth 20000
set_option maxHeartbeats 4000000
namespace Go.Proofs.YtongpnolikkknaaGreatDoor
open Sh RowKit Go.MapKept
section
variable {B : Nat} {W w : World} {Q : Value → World → Prop}
end
end Go.Proofs.YtongpnolikkknaaGreatDoor

set_option maxRecDepth 20000
set_option maxHeartbeats 4000000
namespace Go.Proofs.YtongpnolikkknaaGreatDoor
open Sh RowKit Go.MapKept
theorem w8 {i : Int} : IntKind.u8.wrap i = i % 256 := by
  unfold IntKind.wrap
  simp [IntKind.signed, IntKind.bits]
theorem slC : slT Tryz.prog 49 48 (.agg #[.int .i64 0, .string ⟨#[]⟩]) 2 24 := ⟨by kernel_rfl, by kernel_rfl⟩
theorem buildC (n : Int) (s : ByteArray) (w : World) : (Instr.build 48 #[(0, .int .i64 n), (1, .string s)]).run Tryz.prog w = .ok (.agg (encC (n, s)).toArray) w := by
  kernel_rfl
section
variable {B : Nat} {W w : World} {Q : Value → World → Prop}
/-- one element of several cells more -/
theorem ap_E1 {α : Type} {enc : α → List Value} {n b : Nat} {t e : TypeId} {z v : Value} {l : List α} {x : α} {K : Value → M} (ht : slT Tryz.prog t e z n b) (hz : z.cells.size = n) (hn0 : 0 < n) (hn24 : n ≤ 16777216) (hn : ∀ x, (enc x).length = n) (h1 : ∀ x, ∀ c ∈ enc x, c.oneCell' = true) (ho : ownE B e n enc w v l)
    (h63 : l.length + 1 ≤ maxLen) (hbytes : (l.length + 1) * b ≤ 140737488355328) (hB : B ≤ w.heap.size)
    (kk : ∀ w' v', ownE B e n enc w' v' (l ++ [x]) → ChgS (fun k => v.ownBlock = some k) w w' → (∀ g, v'.ownBlock = some g → v.ownBlock = some g ∨ w.heap.size ≤ g) → K v' w' Q) :
    sm Tryz.prog (Instr.buildSlice t 1 #[(0, .agg (enc x).toArray)]) (fun u => sm Tryz.prog (Builtin.append_ #[t, t] t #[v, u]) K) w Q := by
  refine bslE ht hz hn0 hn24 (hn x) fun w1 h b1 => ?_
  refine ap_E (m := [x]) ht hz hn0 hn h1 (ownE_below ho b1) (rd_lit (hn x) h) h63 hbytes (Nat.le_trans hB b1.size) fun v' w' o g f => ?_
  have hs : w.heap.size ≤ w1.heap.size := b1.size
  refine kk w' v' o ⟨g.os.trans b1.os, g.tape.trans b1.tape, g.output.trans b1.output, Nat.le_trans hs g.size, fun k hk hne => ?_⟩ fun k hk => ?_
  · rw [g.block k (by omega) (fun e => hne e.symm), b1.block k hk]
  · rcases f with f | f
    · left; rw [← f]; exact hk
    · right
      rw [f] at hk; cases hk; omega
theorem rdI_lnl {k : IntKind} {v : Value} {l : List Int} (h : rdI k w v l) : ∀ (K : Value → M) (w1 : World) (Q : Value → World → Prop), lnl v K w1 Q = K (.int .i64 ((l.length : Nat) : Int)) w1 Q := by
  intro K w1 Q
  obtain ⟨p, c, rfl, _⟩ := h
  rw [lnl_e]
end
end Go.Proofs.YtongpnolikkknaaGreatDoor

namespace Go.Proofs.YtongpnolikkknaaGreatDoor
open Sh RowKit Go.MapKept
structure Bat where
  ps : List Int
  bs : List Int
  vp : Value
  vb : Value
theorem uu8 : Tryz.prog.underlying 5 = some (.int .u8) := by kernel_rfl
end Go.Proofs.YtongpnolikkknaaGreatDoor

set_option maxRecDepth 20000
set_option maxHeartbeats 4000000
namespace Go.Proofs.YtongpnolikkknaaGreatDoor
open Sh RowKit Go.MapKept
/-- a device that is sure, its mark says no -/
structure Rdy (D : Dv) (L : List ByteArray) : Prop where
  fit : Fit D.A L
  mark : Mk D.A false
  pg : PgS D.A L
theorem open_rdy {D : Dv} {L : List ByteArray} (h : Rdy D L) : openB D (L.length : Nat) = (0, D, L) := open_no h.fit h.mark h.pg
theorem rdy_new {m N : Nat} (h1 : 1 ≤ m) (h2 : m ≤ 160) (h : 126 + 4 * m ≤ N) : Rdy (newD N) (List.replicate m (zs 256)) := ⟨new_fit m N h1 h2 h, new_mk N (by omega), new_pgs m N h⟩
theorem open_new {m N : Nat} (h1 : 1 ≤ m) (h2 : m ≤ 160) (h : 126 + 4 * m ≤ N) : openB (newD N) (m : Nat) = (0, newD N, List.replicate m (zs 256)) := by
  have := open_rdy (rdy_new h1 h2 h)
  rwa [List.length_replicate] at this
theorem commit_rdy {G : Pg} {D : Dv} {cs : List Ch} (h : Rdy D G.L) (hv : mayB G.st G.L.length cs = 0) (hne : cs ≠ []) (hh : D.c + 300 ≤ D.h) :
    ∃ D', commitB G D cs = (0, D', ⟨setL G.L cs, G.st, G.c + 1⟩) ∧ Rdy D' (setL G.L cs) ∧ D'.h = D.h ∧ D'.c = D.c + (8 * cs.length + 7 : Nat) ∧ AllS D'.A ∧ D'.A.length = D.A.length := by
  obtain ⟨h1, h2, h3, h4, h5, h6, h7⟩ := commit_two h.fit h.mark h.pg hv hne
  have e0 := h7 hh
  have hst := (mayB_ok hv).1
  have hv' := hv
  rw [hst] at hv'
  rcases h6 with ⟨_, q1, q2, q3, q4, q5⟩ | ⟨q, _⟩
  · refine ⟨(commitB G D cs).2.1, ?_, ⟨setL_fit h.fit hv' h4, q2, q3⟩, h1, q5, q4, h4⟩
    rw [← e0, ← q1]
  · rw [e0] at q; cases q
structure PgAt (B : Nat) (w : World) (q p b : Nat) (v u : Value) (G : Pg) (D : Dv) : Prop where
  dev : DevAt B w p v b D
  qB : B ≤ q
  hq : w.heap[q]? = some (.cells #[pv p, u, .bool G.st, .int .i64 G.c] 133 (0, 0))
  hu : ownV B 9 w u (G.L.map .string)
def fpP (q p b : Nat) (v u : Value) : Nat → Prop := fun k => k = q ∨ u.ownBlock = some k ∨ fpD p v b k
section
variable {B : Nat} {W w w' : World} {q p b : Nat} {v u : Value} {G : Pg} {D : Dv} {Q : Value → World → Prop}
theorem PgAt.below (h : PgAt B w q p b v u G D) (hb : Below w.heap.size w w') : PgAt B w' q p b v u G D := ⟨h.dev.below hb, h.qB, stay hb h.hq, ownV_below h.hu hb⟩
theorem PgAt.fpB (h : PgAt B w q p b v u G D) : ∀ k, fpP q p b v u k → B ≤ k := by
  rintro k (rfl | hk | hk)
  · exact h.qB
  · exact (ownV_lt h.hu k hk).1
  · exact fpD_B h.dev k hk
theorem PgAt.lt (h : PgAt B w q p b v u G D) : ∀ k, fpP q p b v u k → k < w.heap.size := by
  rintro k (rfl | hk | hk)
  · exact blk_lt h.hq
  · exact (ownV_lt h.hu k hk).2.1
  · exact h.dev.lt k hk
theorem PgAt.chg {S : Nat → Prop} (h : PgAt B w q p b v u G D) (hc : ChgS S w w') (hS : ∀ k, fpP q p b v u k → ¬ S k) : PgAt B w' q p b v u G D :=
  ⟨h.dev.chg hc fun k hk => hS k (.inr (.inr hk)), h.qB, hc.keep h.hq (hS q (.inl rfl)), ownV_chg h.hu hc fun g hg => hS g (.inr (.inl hg))⟩
theorem PgAt.bs {B0 : Nat} (h : PgAt B w q p b v u G D) (hc : ChgS (fpP q p b v u) w w') (h0 : B0 ≤ B) (hB : B0 ≤ w.heap.size) : Below B0 w w' := hc.below (fun k hk => Nat.le_trans h0 (h.fpB k hk)) hB
theorem commit_at {Bc : Nat} {lv : Value} {cs : List Ch} (h : PgAt B w q p b v u G D) (hcs : ownE Bc 48 2 encC w lv cs) (h0 : 0 ≤ D.c) (h1 : D.c + 300 ≤ 1000000) (hG0 : 0 ≤ G.c) (hG1 : G.c ≤ 1000000) (hL : G.L.length ≤ 1000)
    (kk : ∀ w', PgAt B w' q p b v u (commitB G D cs).2.2 (commitB G D cs).2.1 → ChgS (fpP q p b v u) w w' → Q (.int .i64 (commitB G D cs).1) w') : f44 (pv q) lv w Q :=
  f44_s h.dev h.hq h.hu hcs h0 h1 hG0 hG1 hL fun w' hd hq hu hc => kk w' ⟨hd, h.qB, hq, hu⟩ hc
/-- opened, without an error -/
theorem open_at {B0 : Nat} {n : Int} {D' : Dv} {L : List ByteArray} (hd : DevAt B w p v b D) (h0 : 0 ≤ D.c) (h1 : D.c + 200 ≤ 1000000) (hB0 : B0 ≤ B) (hBw : B0 ≤ w.heap.size) (e : openB D n = (0, D', L))
    (kk : ∀ w' q u, w.heap.size ≤ q → PgAt B0 w' q p b v u ⟨L, false, 0⟩ D' → DevAt B w' p v b D' → ownV w.heap.size 9 w' u (L.map .string) → ChgS (fpD p v b) w w' → Q (.tuple #[pv q, .int .i64 0]) w') : f40 (pv p) (.int .i64 n) w Q := by
  have e1 : (openB D n).1 = 0 := by rw [e]
  have e2 : (openB D n).2.1 = D' := by rw [e]
  have e3 : (openB D n).2.2 = L := by rw [e]
  refine f40_s hd h0 h1 (fun h => absurd e1 h) (fun _ w' q u hqw hq hu hd' hc => ?_)
  rw [e2] at hd'
  rw [e3] at hu
  refine kk w' q u hqw ⟨?_, Nat.le_trans hBw hqw, hq, ownV_weak hu hBw⟩ hd' hu hc
  obtain ⟨L', hm, hl⟩ := hd'.mp
  exact ⟨Nat.le_trans hB0 hd'.pB, Nat.le_trans hB0 hd'.bB, hd'.n, hd'.hp, ownE_weak hd'.own hB0, L', hm, hl⟩
end
end Go.Proofs.YtongpnolikkknaaGreatDoor

set_option maxRecDepth 20000
namespace Go.Proofs.YtongpnolikkknaaGreatDoor
open Sh RowKit Go.MapKept
structure Ca where
  sz : Nat
  K : List Ch
  h : Int
  m : Int
/-- one used -/
def useK (sz : Nat) (x : Ch) (K : List Ch) : List Ch := (x :: K).take sz
def rdC (C : Ca) (L : List ByteArray) (n : Int) : (ByteArray × Int) × Ca :=
  match C.K.find? (fun x => decide (x.1 = n)) with
  | some x => ((x.2, 0), { C with K := useK C.sz x (C.K.filter fun y => decide (y.1 ≠ n)), h := C.h + 1 })
  | none => if (pgR L n).2 = 0 then (((pgR L n).1, 0), { C with K := useK C.sz (n, (pgR L n).1) C.K, m := C.m + 1 }) else ((⟨#[]⟩, (pgR L n).2), C)
def nums (K : List Ch) : List Int := K.map (·.1)
theorem find_mem {K : List Ch} {n : Int} {x : Ch} (h : K.find? (fun x => decide (x.1 = n)) = some x) : x ∈ K ∧ x.1 = n := by
  have h1 := List.find?_some h
  exact ⟨List.mem_of_find?_eq_some h, by simpa using h1⟩
end Go.Proofs.YtongpnolikkknaaGreatDoor

set_option maxRecDepth 20000
namespace Go.Proofs.YtongpnolikkknaaGreatDoor
open Sh RowKit Go.MapKept
/-- a link; none: the head -/
abbrev Nd := Option Nat
def setP (f : Nd → Nd × Nd) (y v : Nd) : Nd → Nd × Nd := fun n => if n = y then (v, (f n).2) else f n
def setN (f : Nd → Nd × Nd) (y v : Nd) : Nd → Nd × Nd := fun n => if n = y then ((f n).1, v) else f n
/-- neighbours -/
def sg (a : Nd) : List Nd → List (Nd × Nd)
  | [] => []
  | b :: l => (a, b) :: sg b l
def lastD (a : Nd) : List Nd → Nd
  | [] => a
  | b :: l => lastD b l
def Ring (f : Nd → Nd × Nd) (l : List Nd) : Prop := ∀ p ∈ sg none (l ++ [none]), (f p.1).2 = p.2 ∧ (f p.2).1 = p.1
theorem sg_app : ∀ (l1 l2 : List Nd) (a : Nd), sg a (l1 ++ l2) = sg a l1 ++ sg (lastD a l1) l2
  | [], _, _ => rfl
  | b :: l1, l2, a => by
    show (a, b) :: sg b (l1 ++ l2) = (a, b) :: (sg b l1 ++ sg (lastD b l1) l2)
    rw [sg_app l1 l2 b]
theorem sg_snd : ∀ (l : List Nd) (a : Nd), (sg a l).map (·.2) = l
  | [], _ => rfl
  | b :: l, a => by
    show b :: (sg b l).map (·.2) = _
    rw [sg_snd l b]
theorem sg_fst : ∀ (l : List Nd) (a b : Nd), (sg a (l ++ [b])).map (·.1) = a :: l
  | [], _, _ => rfl
  | c :: l, a, b => by
    show a :: (sg c (l ++ [b])).map (·.1) = _
    rw [sg_fst l c b]
theorem lastD_mem : ∀ (l : List Nd) (a : Nd), lastD a l ∈ a :: l
  | [], a => List.mem_cons_self ..
  | b :: l, a => List.mem_cons_of_mem _ (lastD_mem l b)
theorem lastD_snoc : ∀ (l : List Nd) (a b : Nd), lastD a (l ++ [b]) = b
  | [], _, _ => rfl
  | c :: l, a, b => lastD_snoc l c b
theorem tail_split (l : List Nd) : ∃ n c, l ++ [none] = n :: c ∧ n ∈ none :: l := by
  cases l with
  | nil => exact ⟨none, [], rfl, List.mem_cons_self ..⟩
  | cons a l => exact ⟨a, l ++ [none], rfl, by simp⟩
section
variable {f : Nd → Nd × Nd} {l l1 l2 : List Nd} {x : Nd}
/-- a link's neighbours -/
theorem ring_at (h : Ring f (l1 ++ x :: l2)) : (f x).1 = lastD none l1 ∧ ∀ n c, l2 ++ [none] = n :: c → (f x).2 = n := by
  have e : ∀ n c, l2 ++ [none] = n :: c → sg none ((l1 ++ x :: l2) ++ [none]) = sg none l1 ++ (lastD none l1, x) :: (x, n) :: sg n c := by
    intro n c hc
    rw [List.append_assoc, List.cons_append, hc, sg_app]
    rfl
  refine ⟨?_, fun n c hc => ?_⟩
  · obtain ⟨n, c, hc, _⟩ := tail_split l2
    exact (h (lastD none l1, x) (by rw [e n c hc]; simp)).2
  · exact (h (x, n) (by rw [e n c hc]; simp)).1
theorem ring_head (h : Ring f l) : ∀ n c, l ++ [none] = n :: c → (f none).2 = n := by
  intro n c hc
  exact (h (none, n) (by rw [hc]; exact List.mem_cons_self ..)).1
theorem ring_last (h : Ring f l) : (f none).1 = lastD none l := by
  refine (h (lastD none l, none) ?_).2
  rw [sg_app]
  exact List.mem_append_right _ (List.mem_cons_self ..)
/-- one taken out -/
theorem ring_out (h : Ring f (l1 ++ x :: l2)) (hn : (none :: (l1 ++ x :: l2)).Nodup) :
    (f x).1 ∈ none :: (l1 ++ l2) ∧ (f x).2 ∈ none :: (l1 ++ l2) ∧ Ring (setP (setN f (f x).1 (f x).2) (f x).2 (f x).1) (l1 ++ l2) := by
  obtain ⟨n, c, hc, hm⟩ := tail_split l2
  obtain ⟨ep, en⟩ := ring_at h
  have en := en n c hc
  have e1 : sg none ((l1 ++ x :: l2) ++ [none]) = sg none l1 ++ (lastD none l1, x) :: (x, n) :: sg n c := by
    rw [List.append_assoc, List.cons_append, hc, sg_app]
    rfl
  have e2 : sg none ((l1 ++ l2) ++ [none]) = sg none l1 ++ (lastD none l1, n) :: sg n c := by
    rw [List.append_assoc, hc, sg_app]
    rfl
  have hF : ((sg none l1 ++ (lastD none l1, x) :: (x, n) :: sg n c).map (·.1)).Nodup := by rw [← e1, sg_fst]; exact hn
  have hS : ((sg none l1 ++ (lastD none l1, x) :: (x, n) :: sg n c).map (·.2)).Nodup := by
    rw [← e1, sg_snd]
    have hp : ((l1 ++ x :: l2) ++ [none]).Perm (none :: (l1 ++ x :: l2)) := List.perm_append_comm.trans (List.Perm.refl _)
    exact hp.nodup_iff.2 hn
  rw [ep, en]
  refine ⟨?_, ?_, ?_⟩
  · have := lastD_mem l1 none
    rcases List.mem_cons.1 this with h | h
    · rw [h]; exact List.mem_cons_self ..
    · exact List.mem_cons_of_mem _ (List.mem_append_left _ h)
  · rcases List.mem_cons.1 hm with h | h
    · rw [h]; exact List.mem_cons_self ..
    · exact List.mem_cons_of_mem _ (List.mem_append_right _ h)
  · generalize lastD none l1 = p at *
    rw [List.map_append, List.nodup_append] at hF hS
    have hh := h
    unfold Ring at h ⊢
    rw [e1] at h
    rw [e2]
    have keyF : ∀ a ∈ sg none l1 ++ sg n c, a.1 ≠ p := by
      intro a ha e
      rcases List.mem_append.1 ha with ha | ha
      · exact hF.2.2 a.1 (List.mem_map.2 ⟨a, ha, rfl⟩) p (by simp) e
      · have := hF.2.1
        simp only [List.map_cons, List.nodup_cons] at this
        exact this.1 (List.mem_cons_of_mem _ (List.mem_map.2 ⟨a, ha, e⟩))
    have keyS : ∀ a ∈ sg none l1 ++ sg n c, a.2 ≠ n := by
      intro a ha e
      rcases List.mem_append.1 ha with ha | ha
      · exact hS.2.2 a.2 (List.mem_map.2 ⟨a, ha, rfl⟩) n (by simp) e
      · have := hS.2.1
        simp only [List.map_cons, List.nodup_cons] at this
        exact this.2.1 (List.mem_map.2 ⟨a, ha, e⟩)
    have same : ∀ a ∈ sg none l1 ++ sg n c, ((setP (setN f p n) n p) a.1).2 = a.2 ∧ ((setP (setN f p n) n p) a.2).1 = a.1 := by
      intro a ha
      have hfa := h a (by
        rcases List.mem_append.1 ha with ha | ha
        · exact List.mem_append_left _ ha
        · exact List.mem_append_right _ (List.mem_cons_of_mem _ (List.mem_cons_of_mem _ ha)))
      have k1 := keyF a ha
      have k2 := keyS a ha
      constructor
      · have : ((setP (setN f p n) n p) a.1).2 = (f a.1).2 := by
          unfold setP setN
          by_cases c1 : a.1 = n
          · rw [if_pos c1]; simp only; rw [if_neg k1]
          · rw [if_neg c1, if_neg k1]
        rw [this]; exact hfa.1
      · have : ((setP (setN f p n) n p) a.2).1 = (f a.2).1 := by
          unfold setP setN
          rw [if_neg k2]
          by_cases c1 : a.2 = p
          · rw [if_pos c1]
          · rw [if_neg c1]
        rw [this]; exact hfa.2
    intro a ha
    rcases List.mem_append.1 ha with ha | ha
    · exact same a (List.mem_append_left _ ha)
    · rcases List.mem_cons.1 ha with rfl | ha
      · constructor
        · show ((setP (setN f p n) n p) p).2 = n
          unfold setP setN
          by_cases c1 : p = n
          · simp [c1]
          · simp [c1]
        · show ((setP (setN f p n) n p) n).1 = p
          unfold setP
          simp
      · exact same a (List.mem_append_right _ ha)
/-- one put first -/
theorem ring_first (h : Ring f l) (hn : (none :: x :: l).Nodup) :
    (f none).2 ∈ none :: l ∧ Ring (setP (setN (setN (setP f x none) x (f none).2) none x) (f none).2 x) (x :: l) := by
  obtain ⟨n, c, hc, hm⟩ := tail_split l
  have en := ring_head h n c hc
  rw [en]
  refine ⟨hm, ?_⟩
  obtain ⟨hn1, hn2⟩ := List.nodup_cons.1 hn
  obtain ⟨hn3, hn4⟩ := List.nodup_cons.1 hn2
  have x0 : x ≠ none := fun e => hn1 (by rw [← e]; exact List.mem_cons_self ..)
  have e1 : sg none (l ++ [none]) = (none, n) :: sg n c := by rw [hc]; rfl
  have e2 : sg none ((x :: l) ++ [none]) = (none, x) :: (x, n) :: sg n c := by
    show (none, x) :: sg x (l ++ [none]) = _
    rw [hc]; rfl
  have hF : (((none, n) :: sg n c).map (·.1)).Nodup := by
    rw [← e1, sg_fst]
    exact List.nodup_cons.2 ⟨fun hm => hn1 (List.mem_cons_of_mem _ hm), hn4⟩
  have hS : (((none, n) :: sg n c).map (·.2)).Nodup := by
    rw [← e1, sg_snd]
    have hp : (l ++ [none]).Perm (none :: l) := List.perm_append_comm.trans (List.Perm.refl _)
    exact hp.nodup_iff.2 (List.nodup_cons.2 ⟨fun hm => hn1 (List.mem_cons_of_mem _ hm), hn4⟩)
  have hxn : x ≠ n := fun e => by
    rcases List.mem_cons.1 hm with h | h
    · exact x0 (e.trans h)
    · exact hn3 (by rw [e]; exact h)
  unfold Ring at h ⊢
  rw [e1] at h
  rw [e2]
  simp only [List.map_cons, List.nodup_cons] at hF hS
  intro a ha
  rcases List.mem_cons.1 ha with rfl | ha
  · constructor
    · show ((setP (setN (setN (setP f x none) x n) none x) n x) none).2 = x
      unfold setP setN
      by_cases c1 : none = n
      · simp [← c1]
      · simp [c1]
    · show ((setP (setN (setN (setP f x none) x n) none x) n x) x).1 = none
      unfold setP setN
      simp [hxn, x0]
  · rcases List.mem_cons.1 ha with rfl | ha
    · constructor
      · show ((setP (setN (setN (setP f x none) x n) none x) n x) x).2 = n
        unfold setP setN
        simp [hxn, x0]
      · show ((setP (setN (setN (setP f x none) x n) none x) n x) n).1 = x
        unfold setP
        simp
    · have hfa := h a (List.mem_cons_of_mem _ ha)
      have a1 : a.1 ≠ none := fun e => hF.1 (List.mem_map.2 ⟨a, ha, e⟩)
      have a2 : a.2 ≠ n := fun e => hS.1 (List.mem_map.2 ⟨a, ha, e⟩)
      have hsub1 : a.1 ∈ none :: l := by
        have : a.1 ∈ (sg none (l ++ [none])).map (·.1) := List.mem_map.2 ⟨a, by rw [e1]; exact List.mem_cons_of_mem _ ha, rfl⟩
        rwa [sg_fst] at this
      have hsub2 : a.2 ∈ l ++ [none] := by
        have : a.2 ∈ (sg none (l ++ [none])).map (·.2) := List.mem_map.2 ⟨a, by rw [e1]; exact List.mem_cons_of_mem _ ha, rfl⟩
        rwa [sg_snd] at this
      have a3 : a.1 ≠ x := fun e => by
        rcases List.mem_cons.1 hsub1 with h | h
        · exact a1 h
        · exact hn3 (by rw [← e]; exact h)
      have a4 : a.2 ≠ x := fun e => by
        rcases List.mem_append.1 hsub2 with h | h
        · exact hn3 (by rw [← e]; exact h)
        · exact x0 (by rw [← e]; exact List.mem_singleton.1 h)
      constructor
      · have : ((setP (setN (setN (setP f x none) x n) none x) n x) a.1).2 = (f a.1).2 := by
          unfold setP setN
          by_cases c1 : a.1 = n
          · simp only [c1, if_pos rfl]
            rw [c1] at a1 a3
            simp [a1, a3]
          · simp [c1, a1, a3]
        rw [this]; exact hfa.1
      · have : ((setP (setN (setN (setP f x none) x n) none x) n x) a.2).1 = (f a.2).1 := by
          unfold setP setN
          by_cases c1 : a.2 = none
          · simp [a2, a4, c1]
            rw [c1] at a2 a4
            simp [a2, a4]
          · simp [a2, a4, c1]
        rw [this]; exact hfa.2
end
end Go.Proofs.YtongpnolikkknaaGreatDoor

set_option maxRecDepth 20000
set_option maxHeartbeats 4000000
namespace Go.Proofs.YtongpnolikkknaaGreatDoor
open Sh RowKit Go.MapKept
def ptc (c : Nat) : Nd → Addr
  | none => ⟨c, 2, none⟩
  | some a => ⟨a, 0, none⟩
def ptn (c : Nat) : Nd → Addr
  | none => ⟨c, 3, none⟩
  | some a => ⟨a, 1, none⟩
theorem pta0 (c : Nat) (y : Nd) : (ptc c y).add 0 = ptc c y := by cases y <;> rfl
theorem pta1 (c : Nat) (y : Nd) : (ptc c y).add 1 = ptn c y := by cases y <;> rfl
abbrev Pp (c : Nat) (y : Nd) : Value := .pointer (some (ptc c y))
def cCell (c q : Nat) (sz n : Int) (mb : Nat) (h m : Int) (f : Nd → Nd × Nd) : Array Value :=
  #[pv q, .int .i64 sz, Pp c (f none).1, Pp c (f none).2, .int .i64 0, .string ⟨#[]⟩, .int .i64 n, .map (some mb), .int .i64 h, .int .i64 m]
def lCell (c : Nat) (f : Nd → Nd × Nd) (e : Nat × Ch) : Array Value := #[Pp c (f (some e.1)).1, Pp c (f (some e.1)).2, .int .i64 e.2.1, .string e.2.2]
structure Mm (B : Nat) (w : World) (c q : Nat) (sz n : Int) (mb : Nat) (h m : Int) (f : Nd → Nd × Nd) (E : List (Nat × Ch)) : Prop where
  cB : B ≤ c
  eB : ∀ e ∈ E, B ≤ e.1
  cb : w.heap[c]? = some (.cells (cCell c q sz n mb h m f) 124 (0, 0))
  lk : ∀ e ∈ E, w.heap[e.1]? = some (.cells (lCell c f e) 120 (0, 0))
  nd : (E.map (·.1)).Nodup
def InE (E : List (Nat × Ch)) (y : Nd) : Prop := y = none ∨ ∃ e ∈ E, y = some e.1
/-- the blocks of it -/
def fpM (c : Nat) (E : List (Nat × Ch)) : Nat → Prop := fun k => k = c ∨ ∃ e ∈ E, k = e.1
theorem setP_eq {f : Nd → Nd × Nd} {y v : Nd} : setP f y v y = (v, (f y).2) := by unfold setP; rw [if_pos rfl]
theorem setP_ne {f : Nd → Nd × Nd} {y v n : Nd} (h : n ≠ y) : setP f y v n = f n := by unfold setP; rw [if_neg h]
theorem setN_eq {f : Nd → Nd × Nd} {y v : Nd} : setN f y v y = ((f y).1, v) := by unfold setN; rw [if_pos rfl]
theorem setN_ne {f : Nd → Nd × Nd} {y v n : Nd} (h : n ≠ y) : setN f y v n = f n := by unfold setN; rw [if_neg h]
theorem nd_inj {E : List (Nat × Ch)} (hn : (E.map (·.1)).Nodup) {e e' : Nat × Ch} (h : e ∈ E) (h' : e' ∈ E) (he : e.1 = e'.1) : e = e' := by
  induction E with
  | nil => cases h
  | cons x E ih =>
    rw [List.map_cons] at hn
    obtain ⟨h1, h2⟩ := List.nodup_cons.1 hn
    rcases List.mem_cons.1 h with k | k
    · rcases List.mem_cons.1 h' with k' | k'
      · rw [k, k']
      · exact absurd (List.mem_map.2 ⟨e', k', by rw [← he, k]⟩) h1
    · rcases List.mem_cons.1 h' with k' | k'
      · exact absurd (List.mem_map.2 ⟨e, k, by rw [he, k']⟩) h1
      · exact ih h2 k k'
section
variable {B : Nat} {w w' : World} {c q mb : Nat} {sz n h m : Int} {f : Nd → Nd × Nd} {E : List (Nat × Ch)} {y v : Nd} {K0 : M} {Q : Value → World → Prop}
theorem Mm.ne (hm : Mm B w c q sz n mb h m f E) : ∀ e ∈ E, e.1 ≠ c := fun e he hc => by
  have h1 := hm.lk e he
  rw [hc, hm.cb] at h1
  have h2 := Option.some.inj h1
  injection h2 with _ h3 _
  exact absurd h3 (by decide)
theorem Mm.below (hm : Mm B w c q sz n mb h m f E) (hb : Below w.heap.size w w') : Mm B w' c q sz n mb h m f E := ⟨hm.cB, hm.eB, stay hb hm.cb, fun e he => stay hb (hm.lk e he), hm.nd⟩
theorem Mm.chg {S : Nat → Prop} (hm : Mm B w c q sz n mb h m f E) (hc : ChgS S w w') (hS : ∀ k, fpM c E k → ¬ S k) : Mm B w' c q sz n mb h m f E := ⟨hm.cB, hm.eB, hc.keep hm.cb (hS c (.inl rfl)), fun e he => hc.keep (hm.lk e he) (hS e.1 (.inr ⟨e, he, rfl⟩)), hm.nd⟩
theorem Mm.sub {E' : List (Nat × Ch)} (hm : Mm B w c q sz n mb h m f E) (hs : E'.Sublist E) : Mm B w c q sz n mb h m f E' := ⟨hm.cB, fun e he => hm.eB e (hs.subset he), hm.cb, fun e he => hm.lk e (hs.subset he), hm.nd.sublist (hs.map _)⟩
theorem Mm.fpB (hm : Mm B w c q sz n mb h m f E) : ∀ k, fpM c E k → B ≤ k := by
  rintro k (rfl | ⟨e, he, rfl⟩)
  · exact hm.cB
  · exact hm.eB e he
theorem Mm.lt (hm : Mm B w c q sz n mb h m f E) : ∀ k, fpM c E k → k < w.heap.size := by
  rintro k (rfl | ⟨e, he, rfl⟩)
  · exact blk_lt hm.cb
  · exact blk_lt (hm.lk e he)
theorem Mm.gP (hm : Mm B w c q sz n mb h m f E) (hy : InE E y) : w.cell? (ptc c y) = some (Pp c (f y).1) := by
  rcases hy with rfl | ⟨e, he, rfl⟩
  · show w.cell? ⟨c, 2, none⟩ = _
    rw [cell_of_blk hm.cb]; rfl
  · show w.cell? ⟨e.1, 0, none⟩ = _
    rw [cell_of_blk (hm.lk e he)]; rfl
theorem Mm.gN (hm : Mm B w c q sz n mb h m f E) (hy : InE E y) : w.cell? (ptn c y) = some (Pp c (f y).2) := by
  rcases hy with rfl | ⟨e, he, rfl⟩
  · show w.cell? ⟨c, 3, none⟩ = _
    rw [cell_of_blk hm.cb]; rfl
  · show w.cell? ⟨e.1, 1, none⟩ = _
    rw [cell_of_blk (hm.lk e he)]; rfl
theorem Mm.c6 (hm : Mm B w c q sz n mb h m f E) : w.cell? ⟨c, 6, none⟩ = some (.int .i64 n) := by rw [cell_of_blk hm.cb]; rfl
theorem Mm.sP (hm : Mm B w c q sz n mb h m f E) (hy : InE E y) (kk : ∀ w', Mm B w' c q sz n mb h m (setP f y v) E → (∀ S : Nat → Prop, (∀ k, fpM c E k → S k) → ChgS S w w') → K0 w' Q) : st (.pointer (some (ptc c y))) (Pp c v) K0 w Q := by
  rcases hy with rfl | ⟨e, he, rfl⟩
  · refine st_box (o := 2) (v := Pp c v) hm.cb (by show 2 < 10; decide) rfl fun w1 h1 u1 => kk w1 ⟨hm.cB, hm.eB, ?_, fun e he => ?_, hm.nd⟩ fun S hS => ChgS.of_upd u1 (hS _ (.inl rfl))
    · rw [h1]
      unfold cCell
      rw [setP_eq]
      rfl
    · rw [u1.block e.1 (hm.ne e he), hm.lk e he]
      unfold lCell
      rw [setP_ne (by simp)]
  · refine st_box (o := 0) (v := Pp c v) (hm.lk e he) (by show 0 < 4; decide) rfl fun w1 h1 u1 => kk w1 ⟨hm.cB, hm.eB, ?_, fun e' he' => ?_, hm.nd⟩ fun S hS => ChgS.of_upd u1 (hS _ (.inr ⟨e, he, rfl⟩))
    · rw [u1.block c (hm.ne e he).symm, hm.cb]
      unfold cCell
      rw [setP_ne (by simp)]
    · by_cases hee : e'.1 = e.1
      · obtain rfl := nd_inj hm.nd he' he hee
        rw [h1]
        unfold lCell
        rw [setP_eq]
        rfl
      · rw [u1.block e'.1 hee, hm.lk e' he']
        unfold lCell
        rw [setP_ne (by simpa using hee)]
theorem Mm.sN (hm : Mm B w c q sz n mb h m f E) (hy : InE E y) (kk : ∀ w', Mm B w' c q sz n mb h m (setN f y v) E → (∀ S : Nat → Prop, (∀ k, fpM c E k → S k) → ChgS S w w') → K0 w' Q) : st (.pointer (some (ptn c y))) (Pp c v) K0 w Q := by
  rcases hy with rfl | ⟨e, he, rfl⟩
  · refine st_box (o := 3) (v := Pp c v) hm.cb (by show 3 < 10; decide) rfl fun w1 h1 u1 => kk w1 ⟨hm.cB, hm.eB, ?_, fun e he => ?_, hm.nd⟩ fun S hS => ChgS.of_upd u1 (hS _ (.inl rfl))
    · rw [h1]
      unfold cCell
      rw [setN_eq]
      rfl
    · rw [u1.block e.1 (hm.ne e he), hm.lk e he]
      unfold lCell
      rw [setN_ne (by simp)]
  · refine st_box (o := 1) (v := Pp c v) (hm.lk e he) (by show 1 < 4; decide) rfl fun w1 h1 u1 => kk w1 ⟨hm.cB, hm.eB, ?_, fun e' he' => ?_, hm.nd⟩ fun S hS => ChgS.of_upd u1 (hS _ (.inr ⟨e, he, rfl⟩))
    · rw [u1.block c (hm.ne e he).symm, hm.cb]
      unfold cCell
      rw [setN_ne (by simp)]
    · by_cases hee : e'.1 = e.1
      · obtain rfl := nd_inj hm.nd he' he hee
        rw [h1]
        unfold lCell
        rw [setN_eq]
        rfl
      · rw [u1.block e'.1 hee, hm.lk e' he']
        unfold lCell
        rw [setN_ne (by simpa using hee)]
/-- one of the cache's own numbers stored -/
theorem Mm.sI {o : Nat} {x : Int} {n' h' m' : Int} (hm : Mm B w c q sz n mb h m f E) (ho : o < 10) (he : (cCell c q sz n mb h m f).setIfInBounds o (.int .i64 x) = cCell c q sz n' mb h' m' f) (kk : ∀ w', Mm B w' c q sz n' mb h' m' f E → (∀ S : Nat → Prop, (∀ k, fpM c E k → S k) → ChgS S w w') → K0 w' Q) : st (.pointer (some ⟨c, o, none⟩)) (.int .i64 x) K0 w Q := by
  refine st_box (o := o) (v := .int .i64 x) hm.cb (by show o < 10; exact ho) rfl fun w1 h1 u1 => kk w1 ⟨hm.cB, hm.eB, by rw [h1, he], fun e he => by rw [u1.block e.1 (hm.ne e he), hm.lk e he], hm.nd⟩ fun S hS => ChgS.of_upd u1 (hS _ (.inl rfl))
theorem f76_s {e : Nat × Ch} (hm : Mm B w c q sz n mb h m f E) (he : e ∈ E) (hp : InE E (f (some e.1)).1) (hx : InE E (f (some e.1)).2) (hn : 0 ≤ n) (hn2 : n ≤ 1000)
    (kk : ∀ w', Mm B w' c q sz (n - 1) mb h m (setP (setN f (f (some e.1)).1 (f (some e.1)).2) (f (some e.1)).2 (f (some e.1)).1) E → ChgS (fpM c E) w w' → Q (.tuple #[]) w') :
    f76 (.pointer (some ⟨c, 2, none⟩)) (pv e.1) w Q := by
  unfold f76
  have hmd : Mm B (drw w) c q sz n mb h m f E := ⟨hm.cB, hm.eB, hm.cb, hm.lk, hm.nd⟩
  have c0 : (drw w).cell? ⟨e.1, 0, none⟩ = some (Pp c (f (some e.1)).1) := hmd.gP (y := some e.1) (.inr ⟨e, he, rfl⟩)
  have c1 : (drw w).cell? ⟨e.1, 1, none⟩ = some (Pp c (f (some e.1)).2) := hmd.gN (y := some e.1) (.inr ⟨e, he, rfl⟩)
  have c0' : w.cell? ⟨e.1, 0, none⟩ = some (Pp c (f (some e.1)).1) := c0
  have c1' : w.cell? ⟨e.1, 1, none⟩ = some (Pp c (f (some e.1)).2) := c1
  have ew : IntKind.i64.wrap (n - 1) = n - 1 := w64 (by omega) (by omega)
  try simp only [↓reduceIte, ↓LL, LM, Value.cells, Nat.reduceAdd, Option.some.injEq, exists_eq_left', decide_true, decide_false, if_true, if_false, reduceCtorEq, cond_true, cond_false, c0, c1, c0', c1', pta0, pta1]
  generalize (f (some e.1)).1 = p at *
  generalize (f (some e.1)).2 = x at *
  refine hmd.sN hp fun w1 m1 g1 => ?_
  try simp only [↓reduceIte, ↓LL, LM, Value.cells, Nat.reduceAdd, Option.some.injEq, exists_eq_left', decide_true, decide_false, if_true, if_false, reduceCtorEq, cond_true, cond_false, pta0, pta1]
  refine m1.sP hx fun w2 m2 g2 => ?_
  have c6 := m2.c6
  try simp only [↓reduceIte, ↓LL, LM, Value.cells, Nat.reduceAdd, Option.some.injEq, exists_eq_left', decide_true, decide_false, if_true, if_false, reduceCtorEq, cond_true, cond_false, c6, ew]
  refine m2.sI (by decide) rfl fun w3 m3 g3 => ?_
  try simp only [↓reduceIte, ↓LL, LM, Value.cells, Nat.reduceAdd, Option.some.injEq, exists_eq_left', decide_true, decide_false, if_true, if_false, reduceCtorEq, cond_true, cond_false]
  refine kk w3 m3 ?_
  have s1 : ChgS (fpM c E) (drw w) w1 := g1 _ fun _ h => h
  exact ((s1.trans (g2 _ fun _ h => h) fun _ _ h => h).trans (g3 _ fun _ h => h) fun _ _ h => h).of_drw
theorem f107_s {e : Nat × Ch} {va vb : Value} (hm : Mm B w c q sz n mb h m f E) (hne : e.1 ∉ E.map (·.1)) (heB : B ≤ e.1) (hblk : w.heap[e.1]? = some (.cells #[va, vb, .int .i64 e.2.1, .string e.2.2] 120 (0, 0))) (hx : InE E (f none).2) (hn : 0 ≤ n) (hn2 : n ≤ 1000)
    (kk : ∀ w', Mm B w' c q sz (n + 1) mb h m (setP (setN (setN (setP f (some e.1) none) (some e.1) (f none).2) none (some e.1)) (f none).2 (some e.1)) (e :: E) → ChgS (fpM c (e :: E)) w w' → Q (.tuple #[]) w') :
    f107 (.pointer (some ⟨c, 2, none⟩)) (pv e.1) w Q := by
  unfold f107
  have hmd : Mm B (drw w) c q sz n mb h m f E := ⟨hm.cB, hm.eB, hm.cb, hm.lk, hm.nd⟩
  have hie : InE (e :: E) (some e.1) := .inr ⟨e, List.mem_cons_self .., rfl⟩
  have hec : e.1 ≠ c := fun hc => by
    rw [hc, hm.cb] at hblk
    have h2 := Option.some.inj hblk
    injection h2 with _ h3 _
    exact absurd h3 (by decide)
  have c3 : (drw w).cell? ⟨c, 3, none⟩ = some (Pp c (f none).2) := hmd.gN (y := none) (.inl rfl)
  have c3' : w.cell? ⟨c, 3, none⟩ = some (Pp c (f none).2) := c3
  have ew : IntKind.i64.wrap (n + 1) = n + 1 := w64 (by omega) (by omega)
  try simp only [↓reduceIte, ↓LL, LM, Value.cells, Nat.reduceAdd, Option.some.injEq, exists_eq_left', decide_true, decide_false, if_true, if_false, reduceCtorEq, cond_true, cond_false, c3, c3', pta0, pta1]
  generalize hxx : (f none).2 = x at *
  refine st_box (w := drw w) (o := 0) (v := Pp c none) (show (drw w).heap[e.1]? = _ from hblk) (by show 0 < 4; decide) rfl fun w1 h1 u1 => ?_
  try simp only [↓reduceIte, ↓LL, LM, Value.cells, Nat.reduceAdd, Option.some.injEq, exists_eq_left', decide_true, decide_false, if_true, if_false, reduceCtorEq, cond_true, cond_false]
  refine st_box (o := 1) (v := Pp c x) h1 (by show 1 < 4; decide) rfl fun w2 h2 u2 => ?_
  have hk : ∀ k, k ≠ e.1 → w2.heap[k]? = (drw w).heap[k]? := fun k hk => by rw [u2.block k hk, u1.block k hk]
  have m2 : Mm B w2 c q sz n mb h m (setN (setP f (some e.1) none) (some e.1) x) (e :: E) := by
    refine ⟨hm.cB, fun a ha => ?_, ?_, fun a ha => ?_, ?_⟩
    · rcases List.mem_cons.1 ha with rfl | ha
      · exact heB
      · exact hm.eB a ha
    · rw [hk c hec.symm]
      show w.heap[c]? = _
      rw [hm.cb]
      unfold cCell
      rw [setN_ne (by simp), setP_ne (by simp)]
    · rcases List.mem_cons.1 ha with rfl | ha
      · rw [h2]
        unfold lCell
        rw [setN_eq, setP_eq]
        rfl
      · have hae : a.1 ≠ e.1 := fun hc => hne (List.mem_map.2 ⟨a, ha, hc⟩)
        rw [hk a.1 hae]
        show w.heap[a.1]? = _
        rw [hm.lk a ha]
        unfold lCell
        rw [setN_ne (by simpa using hae), setP_ne (by simpa using hae)]
    · rw [List.map_cons]
      exact List.nodup_cons.2 ⟨hne, hm.nd⟩
  have m2d : Mm B (drw w2) c q sz n mb h m _ (e :: E) := ⟨m2.cB, m2.eB, m2.cb, m2.lk, m2.nd⟩
  have hx' : InE (e :: E) x := by
    rcases hx with h | ⟨a, ha, h⟩
    · exact .inl h
    · exact .inr ⟨a, List.mem_cons_of_mem _ ha, h⟩
  have d0 : (drw w2).cell? ⟨e.1, 0, none⟩ = some (Pp c none) := by
    have := m2d.gP (y := some e.1) hie
    rw [setN_eq, setP_eq] at this
    exact this
  have d1 : (drw w2).cell? ⟨e.1, 1, none⟩ = some (Pp c x) := by
    have := m2d.gN (y := some e.1) hie
    rw [setN_eq] at this
    exact this
  have d0' : w2.cell? ⟨e.1, 0, none⟩ = some (Pp c none) := d0
  have d1' : w2.cell? ⟨e.1, 1, none⟩ = some (Pp c x) := d1
  try simp only [↓reduceIte, ↓LL, LM, Value.cells, Nat.reduceAdd, Option.some.injEq, exists_eq_left', decide_true, decide_false, if_true, if_false, reduceCtorEq, cond_true, cond_false, d0, d1, d0', d1', pta0, pta1]
  refine m2d.sN (y := none) (v := some e.1) (.inl rfl) fun w3 m3 g3 => ?_
  try simp only [↓reduceIte, ↓LL, LM, Value.cells, Nat.reduceAdd, Option.some.injEq, exists_eq_left', decide_true, decide_false, if_true, if_false, reduceCtorEq, cond_true, cond_false, pta0, pta1]
  refine m3.sP (v := some e.1) hx' fun w4 m4 g4 => ?_
  have c6 := m4.c6
  try simp only [↓reduceIte, ↓LL, LM, Value.cells, Nat.reduceAdd, Option.some.injEq, exists_eq_left', decide_true, decide_false, if_true, if_false, reduceCtorEq, cond_true, cond_false, c6, ew]
  refine m4.sI (by decide) rfl fun w5 m5 g5 => ?_
  try simp only [↓reduceIte, ↓LL, LM, Value.cells, Nat.reduceAdd, Option.some.injEq, exists_eq_left', decide_true, decide_false, if_true, if_false, reduceCtorEq, cond_true, cond_false]
  refine kk w5 m5 ?_
  have s1 : ChgS (fpM c (e :: E)) (drw w) w1 := ChgS.of_upd u1 (.inr ⟨e, List.mem_cons_self .., rfl⟩)
  have s2 : ChgS (fpM c (e :: E)) (drw w) w2 := s1.trans (ChgS.of_upd u2 (S := fpM c (e :: E)) (.inr ⟨e, List.mem_cons_self .., rfl⟩)) fun _ _ h => h
  have s3 : ChgS (fpM c (e :: E)) w2 w3 := (g3 (fpM c (e :: E)) fun _ h => h).of_drw
  exact ((((s2.trans s3 fun _ _ h => h).trans (g4 _ fun _ h => h) fun _ _ h => h).trans (g5 _ fun _ h => h) fun _ _ h => h)).of_drw
end
end Go.Proofs.YtongpnolikkknaaGreatDoor

set_option maxRecDepth 20000
set_option maxHeartbeats 4000000
namespace Go.Proofs.YtongpnolikkknaaGreatDoor
open Sh RowKit Go.MapKept
section
variable {P : Program} {w : World} {Q : Value → World → Prop} {K : Value → M}
end
section
variable {α : Type} [DecidableEq α]
theorem lk_del {L : List (α × Value)} {k k' : α} : lk (del L k) k' = if k' = k then none else lk L k' := by
  induction L with
  | nil => simp [del, lk]
  | cons p L ih =>
    obtain ⟨a, u⟩ := p
    by_cases ha : a = k
    · have e : del ((a, u) :: L) k = del L k := by unfold del; rw [List.filter_cons_of_neg (by simp [ha])]
      rw [e, ih, lk_cons]
      by_cases hk : k' = k
      · rw [if_pos hk, if_pos hk]
      · rw [if_neg hk, if_neg hk, if_neg (fun e => hk (by rw [← e, ha]))]
    · have e : del ((a, u) :: L) k = (a, u) :: del L k := by unfold del; rw [List.filter_cons_of_pos (by simpa using ha)]
      rw [e, lk_cons, lk_cons, ih]
      by_cases hk : k' = k
      · rw [if_pos hk, if_neg (fun e => ha (by rw [e, hk])), if_pos hk]
      · rw [if_neg hk, if_neg hk]
end
theorem KKc : KeyK Tryz.prog 115 3 116 (.int .i64) kI := ⟨by kernel_rfl, by kernel_rfl, fun a => by simp [kI, IsKey], fun a b h => by simpa [kI] using h⟩
theorem zC : zeroIs Tryz.prog 116 (.pointer none) := by unfold zeroIs; kernel_rfl
theorem ptK : Tryz.prog.underlying 29 = some (.pointer (Tryz.prog.pointee 29)) := by kernel_rfl
end Go.Proofs.YtongpnolikkknaaGreatDoor

set_option maxRecDepth 20000
set_option maxHeartbeats 4000000
namespace Go.Proofs.YtongpnolikkknaaGreatDoor
open Sh RowKit Go.MapKept
def fnd (E : List (Nat × Ch)) (n : Int) : Option (Nat × Ch) := E.find? fun e => decide (e.2.1 = n)
def nds (E : List (Nat × Ch)) : List Nd := E.map fun e => some e.1
structure CaAt (B : Nat) (w : World) (c q mb : Nat) (C : Ca) (E : List (Nat × Ch)) : Prop where
  K : C.K = E.map (·.2)
  rg : ∃ f, Mm B w c q C.sz E.length mb C.h C.m f E ∧ Ring f (nds E)
  mB : B ≤ mb
  mp : ∃ ML, MapAt kI w mb ML ∧ ∀ n, lk ML n = (fnd E n).map fun e => pv e.1
  nk : (nums C.K).Nodup
  le : E.length ≤ C.sz
  l64 : C.sz ≤ 64
def fpA (c mb : Nat) (E : List (Nat × Ch)) : Nat → Prop := fun k => fpM c E k ∨ k = mb
theorem fnd_cons {e : Nat × Ch} {E : List (Nat × Ch)} {n : Int} : fnd (e :: E) n = if e.2.1 = n then some e else fnd E n := by
  unfold fnd
  by_cases h : e.2.1 = n
  · rw [List.find?_cons_of_pos (by simpa using h), if_pos h]
  · rw [List.find?_cons_of_neg (by simpa using h), if_neg h]
theorem fnd_app {E1 E2 : List (Nat × Ch)} {n : Int} : fnd (E1 ++ E2) n = (fnd E1 n).or (fnd E2 n) := by unfold fnd; rw [List.find?_append]
theorem fnd_none {E : List (Nat × Ch)} {n : Int} (h : n ∉ E.map (·.2.1)) : fnd E n = none := by
  unfold fnd
  refine List.find?_eq_none.2 fun e he hn => h (List.mem_map.2 ⟨e, he, by simpa using hn⟩)
theorem nds_none {E : List (Nat × Ch)} (h : (E.map (·.1)).Nodup) : (none :: nds E).Nodup := by
  refine List.nodup_cons.2 ⟨fun hc => ?_, ?_⟩
  · obtain ⟨e, _, h⟩ := List.mem_map.1 hc
    cases h
  · have e : nds E = (E.map (·.1)).map some := by unfold nds; rw [List.map_map]; rfl
    rw [e]
    exact nodup_map_inj h fun a _ b _ hab => Option.some.inj hab
theorem inE_of {E : List (Nat × Ch)} {y : Nd} (h : y ∈ none :: nds E) : InE E y := by
  rcases List.mem_cons.1 h with h | h
  · exact .inl h
  · obtain ⟨e, he, hx⟩ := List.mem_map.1 h
    exact .inr ⟨e, he, hx.symm⟩
theorem find_fnd {E : List (Nat × Ch)} {n : Int} : (E.map (·.2)).find? (fun x => decide (x.1 = n)) = (fnd E n).map (·.2) := by
  unfold fnd
  rw [List.find?_map]; rfl
theorem fnd_mem {E : List (Nat × Ch)} {n : Int} {e : Nat × Ch} (h : fnd E n = some e) : e ∈ E ∧ e.2.1 = n := by
  unfold fnd at h
  have h1 := List.find?_some h
  exact ⟨List.mem_of_find?_eq_some h, by simpa using h1⟩
theorem nums_map (E : List (Nat × Ch)) : nums (E.map (·.2)) = E.map (·.2.1) := by unfold nums; rw [List.map_map]; rfl
section
variable {B : Nat} {w w' : World} {c q mb : Nat} {sz : Nat} {h m n : Int} {f : Nd → Nd × Nd} {E : List (Nat × Ch)} {C : Ca} {L : List ByteArray} {p : Nat} {u st cc : Value} {Bp : Nat} {Q : Value → World → Prop}
theorem CaAt.below (hc : CaAt B w c q mb C E) (hb : Below w.heap.size w w') : CaAt B w' c q mb C E := by
  obtain ⟨f, hm, hr⟩ := hc.rg
  obtain ⟨ML, h1, h2⟩ := hc.mp
  exact ⟨hc.K, ⟨f, hm.below hb, hr⟩, hc.mB, ⟨ML, h1.below hb, h2⟩, hc.nk, hc.le, hc.l64⟩
theorem CaAt.chg {S : Nat → Prop} (hc : CaAt B w c q mb C E) (hg : ChgS S w w') (hS : ∀ k, fpA c mb E k → ¬ S k) : CaAt B w' c q mb C E := by
  obtain ⟨f, hm, hr⟩ := hc.rg
  obtain ⟨ML, h1, h2⟩ := hc.mp
  exact ⟨hc.K, ⟨f, hm.chg hg fun k hk => hS k (.inl hk), hr⟩, hc.mB, ⟨ML, h1.stay (hg.block mb h1.lt (hS mb (.inr rfl))), h2⟩, hc.nk, hc.le, hc.l64⟩
theorem CaAt.fpB (hc : CaAt B w c q mb C E) : ∀ k, fpA c mb E k → B ≤ k := by
  obtain ⟨f, hm, hr⟩ := hc.rg
  rintro k (hk | rfl)
  · exact hm.fpB k hk
  · exact hc.mB
theorem CaAt.lt (hc : CaAt B w c q mb C E) : ∀ k, fpA c mb E k → k < w.heap.size := by
  obtain ⟨f, hm, hr⟩ := hc.rg
  obtain ⟨ML, h1, h2⟩ := hc.mp
  rintro k (hk | rfl)
  · exact hm.lt k hk
  · exact h1.lt
theorem map_ne {ML : List (Int × Value)} {g : Nat} {cur : Array Value} {e : TypeId} (h : MapAt kI w mb ML) (hg : w.heap[g]? = some (.cells cur e (0, 0))) : g ≠ mb := by
  rintro rfl
  obtain ⟨es, clock, h1, _⟩ := h
  rw [h1] at hg; cases hg
theorem Mm.mne {ML : List (Int × Value)} (hm : Mm B w c q sz n mb h m f E) (hp : MapAt kI w mb ML) : ∀ k, fpM c E k → k ≠ mb := by
  rintro k (rfl | ⟨e, he, rfl⟩)
  · exact map_ne hp hm.cb
  · exact map_ne hp (hm.lk e he)
theorem Mm.of_drw (hm : Mm B w c q sz n mb h m f E) : Mm B (drw w) c q sz n mb h m f E := ⟨hm.cB, hm.eB, hm.cb, hm.lk, hm.nd⟩
/-- a link used: put first, the last one away if they are too many -/
theorem f77_s {e : Nat × Ch} {va vb : Value} {ML : List (Int × Value)} (hm : Mm B w c q sz E.length mb h m f E) (hr : Ring f (nds E)) (hne : e.1 ∉ E.map (·.1)) (heB : B ≤ e.1)
    (hblk : w.heap[e.1]? = some (.cells #[va, vb, .int .i64 e.2.1, .string e.2.2] 120 (0, 0))) (hmB : B ≤ mb) (hmp : MapAt kI w mb ML) (hlk : ∀ n, n ≠ e.2.1 → lk ML n = (fnd E n).map fun e => pv e.1)
    (hle : E.length ≤ sz) (h64 : sz ≤ 64) (hnk : ((e :: E).map (·.2.1)).Nodup)
    (kk : ∀ w', CaAt B w' c q mb ⟨sz, useK sz e.2 (E.map (·.2)), h, m⟩ ((e :: E).take sz) → ChgS (fpA c mb (e :: E)) w w' → Q (.tuple #[]) w') : f77 (pv c) (pv e.1) w Q := by
  unfold f77
  have hndn : (none :: some e.1 :: nds E).Nodup := nds_none (E := e :: E) (by rw [List.map_cons]; exact List.nodup_cons.2 ⟨hne, hm.nd⟩)
  obtain ⟨g1, g2⟩ := ring_first hr hndn
  try simp only [↓reduceIte, ↓LL, LM, Value.cells, Nat.reduceAdd, Option.some.injEq, exists_eq_left', decide_true, decide_false, if_true, if_false, reduceCtorEq, cond_true, cond_false]
  refine f107_s hm hne heB hblk (inE_of g1) (by omega) (by omega) fun w1 m1 hc1 => ?_
  generalize setP (setN (setN (setP f (some e.1) none) (some e.1) (f none).2) none (some e.1)) (f none).2 (some e.1) = f1 at *
  have emb : ∀ k, fpM c (e :: E) k → k ≠ mb := by
    rintro k (rfl | ⟨a, ha, rfl⟩)
    · exact map_ne hmp hm.cb
    · rcases List.mem_cons.1 ha with rfl | ha
      · exact map_ne hmp hblk
      · exact map_ne hmp (hm.lk a ha)
  have hmp1 : MapAt kI w1 mb ML := hmp.stay (hc1.block mb hmp.lt fun hk => emb mb hk rfl)
  have hcA : ChgS (fpA c mb (e :: E)) w w1 := hc1.mono fun k hk => .inl hk
  have c7 : (drw w1).cell? ⟨c, 7, none⟩ = some (.map (some mb)) := by show w1.cell? _ = _; rw [cell_of_blk m1.cb]; rfl
  have ce2 : (drw w1).cell? ⟨e.1, 2, none⟩ = some (.int .i64 e.2.1) := by show w1.cell? _ = _; rw [cell_of_blk (m1.lk e (List.mem_cons_self ..))]; rfl
  have c7' : w1.cell? ⟨c, 7, none⟩ = some (.map (some mb)) := c7
  have ce2' : w1.cell? ⟨e.1, 2, none⟩ = some (.int .i64 e.2.1) := ce2
  try simp only [↓reduceIte, ↓LL, LM, Value.cells, Nat.reduceAdd, Option.some.injEq, exists_eq_left', decide_true, decide_false, if_true, if_false, reduceCtorEq, cond_true, cond_false, c7, ce2, c7', ce2']
  refine upd_map (kv := kI) KKc (show MapAt kI (drw w1) mb ML from hmp1) e.2.1 (pv e.1) fun w2 hmp2 u2 => ?_
  have hc2 : ChgS (fpA c mb (e :: E)) w w2 := hcA.trans (T := fpA c mb (e :: E)) ((ChgS.of_upd u2 (S := fpA c mb (e :: E)) (.inr rfl)).of_drw) fun _ _ h => h
  have m2 : Mm B w2 c q sz (E.length + 1) mb h m f1 (e :: E) := m1.of_drw.chg (ChgS.of_upd u2 (S := fun k => k = mb) rfl) fun k hk hn => emb k hk hn
  have lk2 : ∀ n, lk (put ML e.2.1 (pv e.1)) n = (fnd (e :: E) n).map fun e => pv e.1 := by
    intro n
    rw [lk_put, fnd_cons]
    by_cases hn : n = e.2.1
    · rw [if_pos hn, if_pos hn.symm]; rfl
    · rw [if_neg hn, if_neg (fun h => hn h.symm), hlk n hn]
  generalize put ML e.2.1 (pv e.1) = ML2 at *
  have c6 : (drw w2).cell? ⟨c, 6, none⟩ = some (.int .i64 ((E.length : Int) + 1)) := m2.c6
  have c1 : (drw w2).cell? ⟨c, 1, none⟩ = some (.int .i64 (sz : Int)) := by show w2.cell? _ = _; rw [cell_of_blk m2.cb]; rfl
  have c6' : w2.cell? ⟨c, 6, none⟩ = some (.int .i64 ((E.length : Int) + 1)) := c6
  have c1' : w2.cell? ⟨c, 1, none⟩ = some (.int .i64 (sz : Int)) := c1
  have m2d := m2.of_drw
  by_cases cg : sz < E.length + 1
  · have cg1 : (E.length : Int) + 1 > (sz : Int) := by omega
    have cg2 : (sz : Int) < (E.length : Int) + 1 := by omega
    obtain ⟨E2, z, hz⟩ : ∃ E2 z, e :: E = E2 ++ [z] := ⟨(e :: E).dropLast, (e :: E).getLast (by simp), (List.dropLast_concat_getLast (by simp)).symm⟩
    have hzl : E2.length = sz := by
      have := congrArg List.length hz
      rw [List.length_append, List.length_cons] at this
      simp only [List.length_cons, List.length_nil] at this
      omega
    have htk : (e :: E).take sz = E2 := by rw [hz, ← hzl, List.take_left']; rfl
    rw [htk] at kk
    have g2' : Ring f1 (nds E2 ++ [some z.1]) := by
      have : (some e.1 :: nds E : List Nd) = nds E2 ++ [some z.1] := by
        show nds (e :: E) = _
        rw [hz]; unfold nds; rw [List.map_append]; rfl
      rw [← this]; exact g2
    have hlast : (f1 none).1 = some z.1 := by rw [ring_last g2', lastD_snoc]
    have hnd3 : (none :: (nds E2 ++ some z.1 :: [])).Nodup := by
      have : (nds E2 ++ some z.1 :: [] : List Nd) = nds (e :: E) := by rw [hz]; unfold nds; rw [List.map_append]; rfl
      rw [this]
      exact nds_none m2.nd
    have zmem : z ∈ e :: E := by rw [hz]; simp
    have c2 : (drw w2).cell? ⟨c, 2, none⟩ = some (pv z.1) := by
      have := m2d.gP (y := none) (.inl rfl)
      rw [hlast] at this
      exact this
    have c2' : w2.cell? ⟨c, 2, none⟩ = some (pv z.1) := c2
    try simp only [↓reduceIte, ↓LL, LM, Value.cells, Nat.reduceAdd, Option.some.injEq, exists_eq_left', decide_true, decide_false, if_true, if_false, reduceCtorEq, cond_true, cond_false, c6, c1, c6', c1', cg1, cg2, c2, c2']
    obtain ⟨o1, o2, o3⟩ := ring_out (l1 := nds E2) (l2 := []) (x := some z.1) g2' hnd3
    have sub : ∀ y : Nd, y ∈ none :: (nds E2 ++ []) → InE (e :: E) y := fun y hy => by
      rw [List.append_nil] at hy
      rcases inE_of hy with h | ⟨a, ha, h⟩
      · exact .inl h
      · exact .inr ⟨a, by rw [hz]; exact List.mem_append_left _ ha, h⟩
    refine f76_s (e := z) m2d zmem (sub _ o1) (sub _ o2) (by omega) (by omega) fun w3 m3 hc3 => ?_
    rw [List.append_nil] at o3
    generalize setP (setN f1 (f1 (some z.1)).1 (f1 (some z.1)).2) (f1 (some z.1)).2 (f1 (some z.1)).1 = f3 at *
    have hmp3 : MapAt kI w3 mb ML2 := MapAt.stay (w := drw w2) hmp2 (hc3.block mb hmp2.lt fun hk => emb mb hk rfl)
    have hc3' : ChgS (fpA c mb (e :: E)) w w3 := hc2.trans ((hc3.mono fun k hk => .inl hk : ChgS (fpA c mb (e :: E)) (drw w2) w3).of_drw) fun _ _ h => h
    have d7 : (drw w3).cell? ⟨c, 7, none⟩ = some (.map (some mb)) := by show w3.cell? _ = _; rw [cell_of_blk m3.cb]; rfl
    have dz2 : (drw w3).cell? ⟨z.1, 2, none⟩ = some (.int .i64 z.2.1) := by show w3.cell? _ = _; rw [cell_of_blk (m3.lk z zmem)]; rfl
    have d7' : w3.cell? ⟨c, 7, none⟩ = some (.map (some mb)) := d7
    have dz2' : w3.cell? ⟨z.1, 2, none⟩ = some (.int .i64 z.2.1) := dz2
    try simp only [↓reduceIte, ↓LL, LM, Value.cells, Nat.reduceAdd, Option.some.injEq, exists_eq_left', decide_true, decide_false, if_true, if_false, reduceCtorEq, cond_true, cond_false, d7, dz2, d7', dz2']
    refine del_map (kv := kI) KKc (show MapAt kI (drw w3) mb ML2 from hmp3) z.2.1 fun w4 hmp4 u4 => ?_
    try simp only [↓reduceIte, ↓LL, LM, Value.cells, Nat.reduceAdd, Option.some.injEq, exists_eq_left', decide_true, decide_false, if_true, if_false, reduceCtorEq, cond_true, cond_false]
    have hnum : ((E2 ++ [z]).map (·.2.1)).Nodup := by rw [← hz]; exact hnk
    have m4 : Mm B w4 c q sz (E.length + 1 - 1) mb h m f3 (e :: E) := m3.of_drw.chg (ChgS.of_upd u4 (S := fun k => k = mb) rfl) fun k hk hn => emb k hk hn
    refine kk w4 ⟨?_, ⟨f3, ?_, o3⟩, hmB, ⟨_, hmp4, fun n => ?_⟩, ?_, by show E2.length ≤ sz; omega, h64⟩ (hc3'.trans ((ChgS.of_upd u4 (S := fpA c mb (e :: E)) (.inr rfl)).of_drw) fun _ _ h => h)
    · show useK sz e.2 (E.map (·.2)) = _
      unfold useK
      rw [show (e.2 :: E.map (·.2) : List Ch) = (e :: E).map (·.2) from rfl, ← List.map_take, htk]
    · have el : (E.length : Int) + 1 - 1 = ((E2.length : Nat) : Int) := by omega
      rw [el] at m4
      refine m4.sub ?_
      rw [hz]
      exact List.sublist_append_left _ _
    · rw [lk_del, lk2, hz, fnd_app]
      rw [List.map_append, List.nodup_append] at hnum
      by_cases hn : n = z.2.1
      · rw [if_pos hn, fnd_none (E := E2) (n := n) (fun hc => hnum.2.2 _ hc z.2.1 (by simp) hn)]; rfl
      · rw [if_neg hn]
        have : fnd [z] n = none := fnd_none (by simpa using hn)
        rw [this, Option.or_none]
    · show (nums (useK sz e.2 (E.map (·.2)))).Nodup
      unfold useK
      rw [show (e.2 :: E.map (·.2) : List Ch) = (e :: E).map (·.2) from rfl, ← List.map_take, nums_map]
      rw [List.map_take]
      exact hnk.sublist (List.take_sublist _ _)
  · have cg1 : ¬ (E.length : Int) + 1 > (sz : Int) := by omega
    have cg2 : ¬ (sz : Int) < (E.length : Int) + 1 := by omega
    have htk : (e :: E).take sz = e :: E := List.take_of_length_le (by rw [List.length_cons]; omega)
    rw [htk] at kk
    try simp only [↓reduceIte, ↓LL, LM, Value.cells, Nat.reduceAdd, Option.some.injEq, exists_eq_left', decide_true, decide_false, if_true, if_false, reduceCtorEq, cond_true, cond_false, c6, c1, c6', c1', cg1, cg2]
    have el : (E.length : Int) + 1 = (((e :: E).length : Nat) : Int) := by rw [List.length_cons]; omega
    rw [el] at m2d
    refine kk (drw w2) ⟨?_, ⟨f1, m2d, g2⟩, hmB, ⟨ML2, hmp2, lk2⟩, ?_, by rw [List.length_cons]; show E.length + 1 ≤ sz; omega, h64⟩ hc2.drw
    · show useK sz e.2 (E.map (·.2)) = _
      unfold useK
      rw [show (e.2 :: E.map (·.2) : List Ch) = (e :: E).map (·.2) from rfl, ← List.map_take, htk]
    · show (nums (useK sz e.2 (E.map (·.2)))).Nodup
      unfold useK
      rw [show (e.2 :: E.map (·.2) : List Ch) = (e :: E).map (·.2) from rfl, ← List.map_take, nums_map, htk]
      exact hnk
end
end Go.Proofs.YtongpnolikkknaaGreatDoor

set_option maxRecDepth 20000
set_option maxHeartbeats 4000000
namespace Go.Proofs.YtongpnolikkknaaGreatDoor
open Sh RowKit Go.MapKept
theorem buildP1 (n : Int) (s : ByteArray) (w : World) : (Instr.build 118 #[(0, .int .i64 n), (1, .string s)]).run Tryz.prog w = .ok (.agg #[.int .i64 n, .string s]) w := by
  kernel_rfl
theorem buildL1 (n : Int) (s : ByteArray) (w : World) : (Instr.build 120 #[(2, .agg #[.int .i64 n, .string s])]).run Tryz.prog w = .ok (.agg #[.pointer none, .pointer none, .int .i64 n, .string s]) w := by
  kernel_rfl
theorem buildCa (q mb : Nat) (n : Int) (w : World) : (Instr.build 124 #[(0, pv q), (1, .int .i64 n), (3, .map (some mb))]).run Tryz.prog w = .ok (.agg #[pv q, .int .i64 n, .pointer none, .pointer none, .int .i64 0, .string ⟨#[]⟩, .int .i64 0, .map (some mb), .int .i64 0, .int .i64 0]) w := by
  kernel_rfl
theorem filter_out {l1 l2 : List (Nat × Ch)} {e : Nat × Ch} (h : ((l1 ++ e :: l2).map (·.2.1)).Nodup) : (((l1 ++ e :: l2).map (·.2)).filter fun y => decide (y.1 ≠ e.2.1)) = (l1 ++ l2).map (·.2) := by
  rw [List.map_append, List.map_cons, List.filter_append, List.filter_cons_of_neg (by simp), List.map_append]
  rw [List.map_append, List.map_cons, List.nodup_append, List.nodup_cons] at h
  obtain ⟨_, ⟨h2, _⟩, h3⟩ := h
  congr 1
  · refine List.filter_eq_self.2 fun a ha => ?_
    obtain ⟨x, hx, rfl⟩ := List.mem_map.1 ha
    simp only [decide_eq_true_eq]
    exact fun hc => h3 x.2.1 (List.mem_map.2 ⟨x, hx, rfl⟩) e.2.1 (List.mem_cons_self ..) hc
  · refine List.filter_eq_self.2 fun a ha => ?_
    obtain ⟨x, hx, rfl⟩ := List.mem_map.1 ha
    simp only [decide_eq_true_eq]
    exact fun hc => h2 (List.mem_map.2 ⟨x, hx, hc⟩)
theorem fnd_skip {l1 l2 : List (Nat × Ch)} {e : Nat × Ch} {n : Int} (hn : n ≠ e.2.1) : fnd (l1 ++ e :: l2) n = fnd (l1 ++ l2) n := by
  rw [fnd_app, fnd_app, fnd_cons, if_neg (fun h => hn h.symm)]
section
variable {B : Nat} {W w w' : World} {c q mb : Nat} {sz : Nat} {h m n : Int} {f : Nd → Nd × Nd} {E : List (Nat × Ch)} {C : Ca} {L : List ByteArray} {p : Nat} {u st cc : Value} {Bp : Nat} {Q : Value → World → Prop}
theorem CaAt.cb (hc : CaAt B w c q mb C E) : ∃ f, w.heap[c]? = some (.cells (cCell c q C.sz E.length mb C.h C.m f) 124 (0, 0)) := by
  obtain ⟨f, hm, _⟩ := hc.rg
  exact ⟨f, hm.cb⟩
theorem f28_s (hc : CaAt B w c q mb C E) (hq : w.heap[q]? = some (.cells #[pv p, u, st, cc] 133 (0, 0))) (hu : ownV Bp 9 w u (L.map .string)) (kk : Q (.int .i64 (L.length : Nat)) w) : f28 (pv c) w Q := by
  obtain ⟨f, hb⟩ := hc.cb
  unfold f28
  rw [pn_eq ptK]
  have c0 : w.cell? ⟨c, 0, none⟩ = some (pv q) := by rw [cell_of_blk hb]; rfl
  try simp only [↓reduceIte, ↓LL, LM, Value.cells, Nat.reduceAdd, Option.some.injEq, exists_eq_left', decide_true, decide_false, if_true, if_false, reduceCtorEq, cond_true, cond_false, Option.isNone, c0]
  refine f79_s hq hu ?_
  try simp only [↓reduceIte, ↓LL, LM, Value.cells, Nat.reduceAdd, Option.some.injEq, exists_eq_left', decide_true, decide_false, if_true, if_false, reduceCtorEq, cond_true, cond_false]
  exact kk
theorem f27_s (hc : CaAt B w c q mb C E) (hq : w.heap[q]? = some (.cells #[pv p, u, st, cc] 133 (0, 0))) (hu : ownV Bp 9 w u (L.map .string)) (h0 : 0 ≤ C.h) (h1 : C.h ≤ 1000000) (m0 : 0 ≤ C.m) (m1 : C.m ≤ 1000000)
    (kk : ∀ w' E', CaAt B w' c q mb (rdC C L n).2 E' → ChgS (fpA c mb E) w w' → (∀ k, fpA c mb E' k → fpA c mb E k ∨ w.heap.size ≤ k) → Q (.tuple #[.string (rdC C L n).1.1, .int .i64 (rdC C L n).1.2]) w') : f27 (pv c) (.int .i64 n) w Q := by
  unfold f27
  rw [pn_eq ptK]
  obtain ⟨f, hm, hr⟩ := hc.rg
  obtain ⟨ML, hmp, hlk⟩ := hc.mp
  have hmne := hm.mne hmp
  have c7 : w.cell? ⟨c, 7, none⟩ = some (.map (some mb)) := by rw [cell_of_blk hm.cb]; rfl
  have hlook : ∀ (K : Value → M), smr Tryz.prog (Instr.lookup 115 (.map (some mb)) (.int .i64 n) true) K w Q = K (.tuple #[((fnd E n).map fun e => pv e.1).getD (.pointer none), .bool ((fnd E n).map fun e => pv e.1).isSome]) w Q := fun K => by
    rw [show (Value.int .i64 n) = kI n from rfl, look_ok (kv := kI) KKc hmp zC n, hlk n]
  have hKf : C.K.find? (fun x => decide (x.1 = n)) = (fnd E n).map (·.2) := by rw [hc.K, find_fnd]
  have hnn : (E.map (·.2.1)).Nodup := by have := hc.nk; rwa [hc.K, nums_map] at this
  have hl64 := hc.l64
  have hle := hc.le
  cases hf : fnd E n with
  | some e =>
    rw [hf] at hlook hKf
    obtain ⟨hemem, hen⟩ := fnd_mem hf
    obtain ⟨l1, l2, hE⟩ := List.append_of_mem hemem
    have eR : rdC C L n = ((e.2.2, 0), { C with K := useK C.sz e.2 (C.K.filter fun y => decide (y.1 ≠ n)), h := C.h + 1 }) := by unfold rdC; rw [hKf]; rfl
    rw [eR] at kk
    have hfil : (C.K.filter fun y => decide (y.1 ≠ n)) = (l1 ++ l2).map (·.2) := by
      rw [hc.K, hE, ← hen]
      rw [hE] at hnn
      exact filter_out hnn
    rw [hfil] at kk
    have c8 : w.cell? ⟨c, 8, none⟩ = some (.int .i64 C.h) := by rw [cell_of_blk hm.cb]; rfl
    have ew : IntKind.i64.wrap (C.h + 1) = C.h + 1 := w64 (by omega) (by omega)
    have g0 : (((some e).map fun e : Nat × Ch => pv e.1).getD (.pointer none)) = pv e.1 := rfl
    have g1 : ((some e).map fun e : Nat × Ch => pv e.1).isSome = true := rfl
    try simp only [↓reduceIte, ↓LL, LM, Value.cells, Nat.reduceAdd, Option.some.injEq, exists_eq_left', decide_true, decide_false, if_true, if_false, reduceCtorEq, cond_true, cond_false, Option.isNone, c7, hlook, g0, g1, get0, get1, c8, ew]
    refine hm.sI (h' := C.h + 1) (n' := E.length) (m' := C.m) (by decide) rfl fun w1 mm1 gg1 => ?_
    have s1 : ChgS (fpA c mb E) w w1 := gg1 _ fun k hk => .inl hk
    have nds3 : (none :: (nds l1 ++ some e.1 :: nds l2)).Nodup := by
      have : (nds l1 ++ some e.1 :: nds l2 : List Nd) = nds E := by rw [hE]; unfold nds; rw [List.map_append]; rfl
      rw [this]; exact nds_none hm.nd
    have hr' : Ring f (nds l1 ++ some e.1 :: nds l2) := by
      have : (nds l1 ++ some e.1 :: nds l2 : List Nd) = nds E := by rw [hE]; unfold nds; rw [List.map_append]; rfl
      rw [this]; exact hr
    obtain ⟨o1, o2, o3⟩ := ring_out hr' nds3
    have enl : (nds l1 ++ nds l2 : List Nd) = nds (l1 ++ l2) := by unfold nds; rw [List.map_append]
    rw [enl] at o1 o2 o3
    have hsub : (l1 ++ l2).Sublist E := by rw [hE]; exact List.Sublist.append_left (List.sublist_cons_self ..) _
    have sub : ∀ y : Nd, y ∈ none :: nds (l1 ++ l2) → InE E y := fun y hy => by
      rcases inE_of hy with h | ⟨a, ha, h⟩
      · exact .inl h
      · exact .inr ⟨a, hsub.subset ha, h⟩
    try simp only [↓reduceIte, ↓LL, LM, Value.cells, Nat.reduceAdd, Option.some.injEq, exists_eq_left', decide_true, decide_false, if_true, if_false, reduceCtorEq, cond_true, cond_false]
    refine f76_s (e := e) mm1 hemem (sub _ o1) (sub _ o2) (by omega) (by omega) fun w2 mm2 hc2 => ?_
    generalize setP (setN f (f (some e.1)).1 (f (some e.1)).2) (f (some e.1)).2 (f (some e.1)).1 = f2 at *
    have s2 : ChgS (fpA c mb E) w w2 := s1.trans (hc2.mono fun k hk => .inl hk) fun _ _ h => h
    have ss2 : ChgS (fpM c E) w w2 := (gg1 _ fun _ h => h).trans hc2 fun _ _ h => h
    have hmp2 : MapAt kI w2 mb ML := hmp.stay (ss2.block mb hmp.lt fun hk => hmne mb hk rfl)
    have hblk := mm2.lk e hemem
    have el : (E.length : Int) - 1 = (((l1 ++ l2).length : Nat) : Int) := by rw [hE]; simp only [List.length_append, List.length_cons]; omega
    rw [el] at mm2
    have hndE : ((l1 ++ e :: l2).map (·.1)).Nodup := by rw [← hE]; exact hm.nd
    have hne : e.1 ∉ (l1 ++ l2).map (·.1) := by
      rw [List.map_append, List.map_cons, List.nodup_append, List.nodup_cons] at hndE
      obtain ⟨_, ⟨h2, _⟩, h3⟩ := hndE
      rw [List.map_append, List.mem_append]
      rintro (hx | hx)
      · exact h3 _ hx _ (List.mem_cons_self ..) rfl
      · exact h2 hx
    have hperm : (e :: (l1 ++ l2)).Perm E := by rw [hE]; exact List.perm_middle.symm
    try simp only [↓reduceIte, ↓LL, LM, Value.cells, Nat.reduceAdd, Option.some.injEq, exists_eq_left', decide_true, decide_false, if_true, if_false, reduceCtorEq, cond_true, cond_false]
    refine f77_s (e := e) (mm2.sub hsub) o3 hne (hm.eB e hemem) hblk hc.mB hmp2 (fun n' hn' => by rw [hlk n', hE, fnd_skip hn']) (by have := hperm.length_eq; rw [List.length_cons] at this; omega) hl64 (((hperm.map _).nodup_iff).2 hnn) fun w3 ca3 hc3 => ?_
    have hlen : (e :: (l1 ++ l2)).length ≤ C.sz := by rw [hperm.length_eq]; exact hle
    rw [List.take_of_length_le hlen] at ca3
    obtain ⟨f3, mm3, _⟩ := ca3.rg
    have c3 : w3.cell? ⟨e.1, 3, none⟩ = some (.string e.2.2) := by rw [cell_of_blk (mm3.lk e (List.mem_cons_self ..))]; rfl
    have hfp : ∀ k, fpA c mb (e :: (l1 ++ l2)) k → fpA c mb E k := by
      rintro k ((rfl | ⟨a, ha, rfl⟩) | rfl)
      · exact .inl (.inl rfl)
      · exact .inl (.inr ⟨a, hperm.mem_iff.1 ha, rfl⟩)
      · exact .inr rfl
    try simp only [↓reduceIte, ↓LL, LM, Value.cells, Nat.reduceAdd, Option.some.injEq, exists_eq_left', decide_true, decide_false, if_true, if_false, reduceCtorEq, cond_true, cond_false, c3]
    exact kk w3 _ ca3 (s2.trans (hc3.mono hfp) fun _ _ h => h) fun k hk => .inl (hfp k hk)
  | none =>
    rw [hf] at hlook hKf
    have g1 : ((none : Option (Nat × Ch)).map fun e => pv e.1).isSome = false := rfl
    have c0 : w.cell? ⟨c, 0, none⟩ = some (pv q) := by rw [cell_of_blk hm.cb]; rfl
    have c9 : w.cell? ⟨c, 9, none⟩ = some (.int .i64 C.m) := by rw [cell_of_blk hm.cb]; rfl
    have ew : IntKind.i64.wrap (C.m + 1) = C.m + 1 := w64 (by omega) (by omega)
    have eR : rdC C L n = if (pgR L n).2 = 0 then (((pgR L n).1, 0), { C with K := useK C.sz (n, (pgR L n).1) C.K, m := C.m + 1 }) else ((⟨#[]⟩, (pgR L n).2), C) := by unfold rdC; rw [hKf]; rfl
    try simp only [↓reduceIte, ↓LL, LM, Value.cells, Nat.reduceAdd, Option.some.injEq, exists_eq_left', decide_true, decide_false, if_true, if_false, reduceCtorEq, cond_true, cond_false, Option.isNone, c7, hlook, g1, get0, get1, c0]
    refine f78_s hq hu ?_
    by_cases cz : (pgR L n).2 = 0
    · rw [if_pos cz] at eR
      rw [eR] at kk
      generalize (pgR L n).1 = s at *
      try simp only [↓reduceIte, ↓LL, LM, Value.cells, Nat.reduceAdd, Option.some.injEq, exists_eq_left', decide_true, decide_false, if_true, if_false, reduceCtorEq, cond_true, cond_false, get0, get1, ne_eq, cz, c9, ew]
      refine hm.sI (h' := C.h) (n' := E.length) (m' := C.m + 1) (by decide) rfl fun w1 mm1 gg1 => ?_
      try simp only [↓reduceIte, ↓LL, LM, Value.cells, Nat.reduceAdd, Option.some.injEq, exists_eq_left', decide_true, decide_false, if_true, if_false, reduceCtorEq, cond_true, cond_false]
      rw [smr_run (buildP1 n s w1)]
      try simp only [↓reduceIte, ↓LL, LM, Value.cells, Nat.reduceAdd, Option.some.injEq, exists_eq_left', decide_true, decide_false, if_true, if_false, reduceCtorEq, cond_true, cond_false]
      rw [smr_run (buildL1 n s w1)]
      have b2 := b_psh w1 (.cells #[.pointer none, .pointer none, .int .i64 n, .string s] 120)
      have k2 := blk_psh_new (w := w1) (o := .cells #[.pointer none, .pointer none, .int .i64 n, .string s] 120)
      try simp only [↓reduceIte, ↓LL, LM, Value.cells, Nat.reduceAdd, Option.some.injEq, exists_eq_left', decide_true, decide_false, if_true, if_false, reduceCtorEq, cond_true, cond_false]
      generalize psh w1 (.cells #[.pointer none, .pointer none, .int .i64 n, .string s] 120) = w2 at *
      have ss1 : ChgS (fpM c E) w w1 := gg1 _ fun _ h => h
      have s1 : ChgS (fpA c mb E) w w1 := gg1 _ fun k hk => .inl hk
      have z1 : w.heap.size ≤ w1.heap.size := ss1.size
      have hmp2 : MapAt kI w2 mb ML := (hmp.stay (ss1.block mb hmp.lt fun hk => hmne mb hk rfl)).below b2
      have mm2 := mm1.below b2
      have hlt := hm.lt
      have hnew : w1.heap.size ∉ E.map (·.1) := fun hx => by
        obtain ⟨a, ha, hx⟩ := List.mem_map.1 hx
        have := hlt a.1 (.inr ⟨a, ha, rfl⟩)
        omega
      have hcB : B ≤ w.heap.size := Nat.le_trans hm.cB (Nat.le_of_lt (hlt c (.inl rfl)))
      have hnot : n ∉ E.map (·.2.1) := by
        intro hx
        obtain ⟨a, ha, hx⟩ := List.mem_map.1 hx
        have := List.find?_eq_none.1 hf a ha
        simp only [decide_eq_true_eq] at this
        exact this hx
      refine f77_s (e := (w1.heap.size, (n, s))) mm2 hr hnew (Nat.le_trans hcB z1) k2 hc.mB hmp2 (fun n' hn' => hlk n') hle hl64 (List.nodup_cons.2 ⟨hnot, hnn⟩) fun w3 ca3 hc3 => ?_
      try simp only [↓reduceIte, ↓LL, LM, Value.cells, Nat.reduceAdd, Option.some.injEq, exists_eq_left', decide_true, decide_false, if_true, if_false, reduceCtorEq, cond_true, cond_false]
      rw [← hc.K] at ca3
      refine kk w3 _ ca3 ((s1.trans (ChgS.of_below b2) fun _ _ h => h).trans hc3 fun k hk h => ?_) fun k hk => ?_
      · rcases h with (rfl | ⟨a, ha, rfl⟩) | rfl
        · exact .inl (.inl rfl)
        · rcases List.mem_cons.1 ha with rfl | ha
          · exfalso
            have hk : w1.heap.size < w.heap.size := hk
            omega
          · exact .inl (.inr ⟨a, ha, rfl⟩)
        · exact .inr rfl
      · rcases hk with (rfl | ⟨a, ha, rfl⟩) | rfl
        · exact .inl (.inl (.inl rfl))
        · rcases List.mem_cons.1 (List.mem_of_mem_take ha) with rfl | ha
          · exact .inr z1
          · exact .inl (.inl (.inr ⟨a, ha, rfl⟩))
        · exact .inl (.inr rfl)
    · rw [if_neg cz] at eR
      rw [eR] at kk
      try simp only [↓reduceIte, ↓LL, LM, Value.cells, Nat.reduceAdd, Option.some.injEq, exists_eq_left', decide_true, decide_false, if_true, if_false, reduceCtorEq, cond_true, cond_false, get0, get1, ne_eq, cz]
      exact kk w E hc (ChgS.refl _ _) fun k hk => .inl hk
end
end Go.Proofs.YtongpnolikkknaaGreatDoor

set_option maxRecDepth 20000
set_option maxHeartbeats 4000000
namespace Go.Proofs.YtongpnolikkknaaGreatDoor
open Sh RowKit Go.MapKept
def szN (n : Int) : Nat := (min (max n 0) 64).toNat
theorem szN_64 (n : Int) : szN n ≤ 64 := by unfold szN; omega
section
variable {B : Nat} {W w w' : World} {c q mb : Nat} {sz : Nat} {h m n : Int} {f : Nd → Nd × Nd} {E : List (Nat × Ch)} {C : Ca} {L : List ByteArray} {p : Nat} {u st cc : Value} {Bp : Nat} {Q : Value → World → Prop}
theorem f75_s {x : Int} {va vb : Value} (hb : w.heap[c]? = some (.cells #[pv q, .int .i64 x, va, vb, .int .i64 0, .string ⟨#[]⟩, .int .i64 0, .map (some mb), .int .i64 0, .int .i64 0] 124 (0, 0)))
    (kk : ∀ w', w'.heap[c]? = some (.cells (cCell c q x 0 mb 0 0 fun _ => (none, none)) 124 (0, 0)) → ChgS (fun k => k = c) w w' → Q (.tuple #[]) w') : f75 (.pointer (some ⟨c, 2, none⟩)) w Q := by
  unfold f75
  try simp only [↓reduceIte, ↓LL, LM, Value.cells, Nat.reduceAdd, Option.some.injEq, exists_eq_left', decide_true, decide_false, if_true, if_false, reduceCtorEq, cond_true, cond_false]
  refine st_box (w := drw w) (o := 2) (v := Pp c none) (show (drw w).heap[c]? = _ from hb) (by show 2 < 10; decide) rfl fun w1 h1 u1 => ?_
  try simp only [↓reduceIte, ↓LL, LM, Value.cells, Nat.reduceAdd, Option.some.injEq, exists_eq_left', decide_true, decide_false, if_true, if_false, reduceCtorEq, cond_true, cond_false]
  refine st_box (o := 3) (v := Pp c none) h1 (by show 3 < 10; decide) rfl fun w2 h2 u2 => ?_
  try simp only [↓reduceIte, ↓LL, LM, Value.cells, Nat.reduceAdd, Option.some.injEq, exists_eq_left', decide_true, decide_false, if_true, if_false, reduceCtorEq, cond_true, cond_false]
  refine kk w2 h2 ?_
  have s1 : ChgS (fun k => k = c) (drw w) w1 := ChgS.of_upd u1 rfl
  exact (s1.trans (ChgS.of_upd u2 (S := fun k => k = c) rfl) fun _ _ h => h).of_drw
theorem f23_s {n : Int} (kk : ∀ w' c mb, w.heap.size ≤ c → w.heap.size ≤ mb → CaAt w.heap.size w' c q mb ⟨szN n, [], 0, 0⟩ [] → Below w.heap.size w w' → Q (pv c) w') : f23 (pv q) (.int .i64 n) w Q := by
  unfold f23
  rw [pn_eq pt49]
  try simp only [↓reduceIte, ↓LL, LM, Value.cells, Nat.reduceAdd, Option.some.injEq, exists_eq_left', decide_true, decide_false, if_true, if_false, reduceCtorEq, cond_true, cond_false, Option.isNone]
  have e : (if (64 : Int) < (if n < 0 then 0 else n) then 64 else (if n < 0 then 0 else n)) = ((szN n : Nat) : Int) := by unfold szN; omega
  rw [e]
  refine mm_map (kv := kI) fun w1 hm1 b1 => ?_
  try simp only [↓reduceIte, ↓LL, LM, Value.cells, Nat.reduceAdd, Option.some.injEq, exists_eq_left', decide_true, decide_false, if_true, if_false, reduceCtorEq, cond_true, cond_false]
  rw [smr_run (buildCa q w.heap.size _ w1)]
  have b2 := b_psh w1 (.cells #[pv q, .int .i64 ((szN n : Nat) : Int), .pointer none, .pointer none, .int .i64 0, .string ⟨#[]⟩, .int .i64 0, .map (some w.heap.size), .int .i64 0, .int .i64 0] 124)
  have k2 := blk_psh_new (w := w1) (o := .cells #[pv q, .int .i64 ((szN n : Nat) : Int), .pointer none, .pointer none, .int .i64 0, .string ⟨#[]⟩, .int .i64 0, .map (some w.heap.size), .int .i64 0, .int .i64 0] 124)
  try simp only [↓reduceIte, ↓LL, LM, Value.cells, Nat.reduceAdd, Option.some.injEq, exists_eq_left', decide_true, decide_false, if_true, if_false, reduceCtorEq, cond_true, cond_false]
  generalize psh w1 (.cells #[pv q, .int .i64 ((szN n : Nat) : Int), .pointer none, .pointer none, .int .i64 0, .string ⟨#[]⟩, .int .i64 0, .map (some w.heap.size), .int .i64 0, .int .i64 0] 124) = w2 at *
  have hm2 : MapAt kI w2 w.heap.size ([] : List (Int × Value)) := hm1.below b2
  have z1 : w.heap.size ≤ w1.heap.size := b1.size
  have zc : w1.heap.size ≠ w.heap.size := by have := hm1.lt; omega
  refine f75_s k2 fun w3 h3 hc3 => ?_
  try simp only [↓reduceIte, ↓LL, LM, Value.cells, Nat.reduceAdd, Option.some.injEq, exists_eq_left', decide_true, decide_false, if_true, if_false, reduceCtorEq, cond_true, cond_false]
  refine kk w3 w1.heap.size w.heap.size z1 (Nat.le_refl _) ⟨rfl, ⟨fun _ => (none, none), ⟨z1, fun e he => by simp at he, h3, fun e he => by simp at he, List.nodup_nil⟩, ?_⟩, Nat.le_refl _, ⟨[], hm2.stay (hc3.block _ hm2.lt fun h => zc h.symm), fun n => rfl⟩, List.nodup_nil, Nat.zero_le _, szN_64 n⟩ ((bt b1 b2).trans (hc3.below (fun k hk => by rw [hk]; exact z1) (bt b1 b2).size))
  intro p hp
  have hp : p ∈ [((none : Nd), (none : Nd))] := hp
  rw [List.mem_singleton.1 hp]
  exact ⟨rfl, rfl⟩
end
end Go.Proofs.YtongpnolikkknaaGreatDoor

set_option maxRecDepth 20000
set_option maxHeartbeats 4000000
namespace Go.Proofs.YtongpnolikkknaaGreatDoor
open Sh RowKit Go.MapKept
/-- what reads leave: the numbers, the one used last first; hits; misses -/
structure Stk where
  T : List Int
  h : Int
  m : Int
structure CInv (C : Ca) (sz N : Nat) (s : Stk) : Prop where
  size : C.sz = sz
  T : nums C.K = s.T.take sz
  nd : s.T.Nodup
  bd : ∀ t ∈ s.T, 0 ≤ t ∧ t < (N : Int)
  h : C.h = s.h
  m : C.m = s.m
/-- each page that is kept is as the pager has it -/
def Good (C : Ca) (L : List ByteArray) : Prop := ∀ x ∈ C.K, 0 ≤ x.1 ∧ L[x.1.toNat]? = some x.2
theorem Good.rd {C : Ca} {L : List ByteArray} {n : Int} (hg : Good C L) : (rdC C L n).1 = pgR L n ∧ Good (rdC C L n).2 L := by
  unfold rdC
  cases hf : C.K.find? (fun x => decide (x.1 = n)) with
  | some x =>
    obtain ⟨h1, h2⟩ := find_mem hf
    obtain ⟨q0, q1⟩ := hg x h1
    have hlt := (List.getElem?_eq_some_iff.1 q1).1
    have ep : pgR L n = (x.2, 0) := by
      unfold pgR
      rw [← h2, if_pos ⟨q0, by omega⟩, List.getD_eq_getElem?_getD, q1]; rfl
    rw [ep]
    refine ⟨rfl, fun y hy => ?_⟩
    rcases List.mem_cons.1 (List.mem_of_mem_take (show y ∈ (x :: C.K.filter fun y => decide (y.1 ≠ n)).take C.sz from hy)) with rfl | hy
    · exact ⟨q0, q1⟩
    · exact hg y (List.mem_filter.1 hy).1
  | none =>
    simp only
    by_cases c : (pgR L n).2 = 0
    · rw [if_pos c]
      refine ⟨by rw [← c], fun y hy => ?_⟩
      rcases List.mem_cons.1 (List.mem_of_mem_take (show y ∈ ((n, (pgR L n).1) :: C.K).take C.sz from hy)) with rfl | hy
      · have : 0 ≤ n ∧ n < (L.length : Int) := by
          apply Classical.byContradiction
          intro hn
          unfold pgR at c
          rw [if_neg hn] at c
          cases c
        refine ⟨this.1, ?_⟩
        show L[n.toNat]? = some (pgR L n).1
        unfold pgR
        rw [if_pos this, List.getD_eq_getElem?_getD, List.getElem?_eq_getElem (by omega)]; rfl
      · exact hg y hy
    · rw [if_neg c]
      refine ⟨?_, hg⟩
      unfold pgR at c ⊢
      by_cases hn : 0 ≤ n ∧ n < (L.length : Int)
      · rw [if_pos hn] at c; exact absurd rfl c
      · rw [if_neg hn]
/-- a cache and its pager -/
structure CP (B : Nat) (w : World) (c q mb p b : Nat) (v u : Value) (C : Ca) (E : List (Nat × Ch)) (G : Pg) (D : Dv) : Prop where
  ca : CaAt B w c q mb C E
  pg : PgAt B w q p b v u G D
  ap : ∀ k, fpA c mb E k → ¬ fpP q p b v u k
def fpX (c q mb p b : Nat) (v u : Value) (E : List (Nat × Ch)) : Nat → Prop := fun k => fpA c mb E k ∨ fpP q p b v u k
section
variable {B : Nat} {W w w' : World} {c q mb p b : Nat} {v u : Value} {C : Ca} {E : List (Nat × Ch)} {G : Pg} {D : Dv} {Q : Value → World → Prop}
theorem CP.below (h : CP B w c q mb p b v u C E G D) (hb : Below w.heap.size w w') : CP B w' c q mb p b v u C E G D := ⟨h.ca.below hb, h.pg.below hb, h.ap⟩
theorem CP.chg {S : Nat → Prop} (h : CP B w c q mb p b v u C E G D) (hc : ChgS S w w') (hS : ∀ k, fpX c q mb p b v u E k → ¬ S k) : CP B w' c q mb p b v u C E G D := ⟨h.ca.chg hc fun k hk => hS k (.inl hk), h.pg.chg hc fun k hk => hS k (.inr hk), h.ap⟩
theorem CP.fpB (h : CP B w c q mb p b v u C E G D) : ∀ k, fpX c q mb p b v u E k → B ≤ k := by
  rintro k (hk | hk)
  · exact h.ca.fpB k hk
  · exact h.pg.fpB k hk
theorem CP.lt (h : CP B w c q mb p b v u C E G D) : ∀ k, fpX c q mb p b v u E k → k < w.heap.size := by
  rintro k (hk | hk)
  · exact h.ca.lt k hk
  · exact h.pg.lt k hk
theorem CP.read {n : Int} (h : CP B w c q mb p b v u C E G D) (h0 : 0 ≤ C.h) (h1 : C.h ≤ 1000000) (m0 : 0 ≤ C.m) (m1 : C.m ≤ 1000000)
    (kk : ∀ w' E', CP B w' c q mb p b v u (rdC C G.L n).2 E' G D → ChgS (fpX c q mb p b v u E) w w' → (∀ k, fpX c q mb p b v u E' k → fpX c q mb p b v u E k ∨ w.heap.size ≤ k) → Q (.tuple #[.string (rdC C G.L n).1.1, .int .i64 (rdC C G.L n).1.2]) w') : f27 (pv c) (.int .i64 n) w Q := by
  refine f27_s h.ca h.pg.hq h.pg.hu h0 h1 m0 m1 fun w' E' hc' hg hk => ?_
  refine kk w' E' ⟨hc', h.pg.chg hg fun k hp hn => h.ap k hn hp, fun k hk' hp => ?_⟩ (hg.mono fun k hk => .inl hk) fun k hk' => ?_
  · rcases hk k hk' with hk | hk
    · exact h.ap k hk hp
    · have := h.pg.lt k hp
      omega
  · rcases hk' with hk' | hk'
    · rcases hk k hk' with hk | hk
      · exact .inl (.inl hk)
      · exact .inr hk
    · exact .inl (.inr hk')
theorem cp_new {n : Int} (h : PgAt B w q p b v u G D) (hB : B ≤ w.heap.size) (kk : ∀ w' c mb, CP B w' c q mb p b v u ⟨szN n, [], 0, 0⟩ [] G D → (∀ k, fpA c mb [] k → w.heap.size ≤ k) → Below w.heap.size w w' → Q (pv c) w') : f23 (pv q) (.int .i64 n) w Q := by
  refine f23_s fun w' c mb h1 h2 hc hb => ?_
  have hfp : ∀ k, fpA c mb [] k → w.heap.size ≤ k := hc.fpB
  obtain ⟨f, hm, hr⟩ := hc.rg
  refine kk w' c mb ⟨⟨hc.K, ⟨f, ⟨Nat.le_trans hB hm.cB, fun e he => by simp at he, hm.cb, hm.lk, hm.nd⟩, hr⟩, Nat.le_trans hB hc.mB, hc.mp, hc.nk, hc.le, hc.l64⟩, h.below hb, fun k hk hp => ?_⟩ hfp hb
  have := hfp k hk
  have := h.lt k hp
  omega
end
end Go.Proofs.YtongpnolikkknaaGreatDoor

set_option maxRecDepth 20000
set_option maxHeartbeats 4000000
namespace Go.Proofs.YtongpnolikkknaaGreatDoor
open Sh RowKit Go.MapKept
theorem rep_256 (m : Nat) : ∀ s ∈ List.replicate m (zs 256), s.size = 256 := fun s hs => by rw [List.eq_of_mem_replicate hs]; exact zs_size 256
section
variable {B : Nat} {W w w' : World} {c q mb p b : Nat} {v u vr vs : Value} {C : Ca} {E : List (Nat × Ch)} {G : Pg} {D : Dv} {Q : Value → World → Prop}
end
end Go.Proofs.YtongpnolikkknaaGreatDoor

set_option maxRecDepth 20000
set_option maxHeartbeats 4000000
namespace Go.Proofs.YtongpnolikkknaaGreatDoor
open Sh RowKit Go.MapKept
structure Op7 where
  n : Int
  b : Int
  wr : Bool
theorem rep_len (m : Nat) : (List.replicate m (zs 256)).length = m := List.length_replicate
section
variable {B : Nat} {W w w' : World} {c q mb p b : Nat} {v u vr vs : Value} {C : Ca} {E : List (Nat × Ch)} {G : Pg} {D : Dv} {Q : Value → World → Prop}
end
end Go.Proofs.YtongpnolikkknaaGreatDoor

namespace Go.Proofs.YtongpnolikkknaaGreatDoor
open Sh RowKit Go.MapKept
theorem len3 {cs : List Value} (h : cs.length = 3) : ∃ a b c, cs = [a, b, c] := by
  match cs, h with
  | [a, b, c], _ => exact ⟨a, b, c, rfl⟩
end Go.Proofs.YtongpnolikkknaaGreatDoor

namespace Go.Proofs.YtongpnolikkknaaGreatDoor
open Sh RowKit Go.MapKept
end Go.Proofs.YtongpnolikkknaaGreatDoor

namespace Go.Proofs.YtongpnolikkknaaGreatDoor
open Sh RowKit Go.MapKept
end Go.Proofs.YtongpnolikkknaaGreatDoor
