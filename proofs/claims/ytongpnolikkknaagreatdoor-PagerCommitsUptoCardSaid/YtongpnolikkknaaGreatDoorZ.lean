/- The call of PagerCommits returns true for every input of limited bulk, and its arguments read behind it as they read before. -/
import Derived.Test.YtongpnolikkknaaGreatDoorZ3
import Derived.Shelf.SlGeneric
import Derived.Shelf.SlIterI.Nil
import Derived.Shelf.SortM.Plain
import Derived.Shelf.SortM.SortNone
import Derived.Ground.GgzProg
import Derived.Ground.SlgmProg
import Derived.Test.YtongpnolikkknaaGreatDoorProg
set_option linter.unusedVariables false
set_option linter.unusedSimpArgs false
set_option linter.unusedSectionVars false
set_option maxRecDepth 20000
namespace Go.Proofs.YtongpnolikkknaaGreatDoor
open Sh RowKit Go.MapKept
theorem pad_64 {s : ByteArray} (h : s.size = 64) : (pad s).1 = s := by
  show strOfNums (padL s) = s
  unfold padL
  rw [h, List.take_of_length_le (by rw [byL_len]; omega)]
  show strOfNums (byL s ++ []) = s
  rw [List.append_nil, son_byL]
theorem pad_chunk {s : ByteArray} {j : Nat} (h : s.size = 256) (hj : j < 4) : (pad (chunk s j)).1 = chunk s j := pad_64 (chunk_size h hj)
def PgS (A : List Sec) (L : List ByteArray) : Prop := ∀ (n : Nat) (s : ByteArray), L[n]? = some s → ∀ j, j < 4 → A[126 + 4 * n + j]? = some ⟨pad (chunk s j), none⟩
def Ing (A : List Sec) (L : List ByteArray) (l : List Int) : Prop := ∃ d : Sct, A[1]? = some ⟨d, none⟩ ∧ dirB d.1 = true ∧ lst d.1 = l ∧ (∀ n ∈ l, n < (L.length : Int)) ∧
  (∀ (k : Nat) (n : Int) (s : ByteArray), l[k]? = some n → L[n.toNat]? = some s → ∀ j, j < 4 → A[2 + 4 * k + j]? = some ⟨pad (chunk s j), none⟩) ∧
  (∀ (n : Nat) (s : ByteArray), ((n : Nat) : Int) ∉ l → L[n]? = some s → ∀ j, j < 4 → A[126 + 4 * n + j]? = some ⟨pad (chunk s j), none⟩)
def Mk (A : List Sec) (b : Bool) : Prop := ∃ z : Sct, A[0]? = some ⟨z, none⟩ ∧ mkd z.1 = b
structure Fit (A : List Sec) (L : List ByteArray) : Prop where
  len : 126 + 4 * L.length ≤ A.length
  sz : ∀ s ∈ L, s.size = 256
  n1 : 1 ≤ L.length
  n2 : L.length ≤ 160
def Holds (A : List Sec) (L : List ByteArray) : Prop := Mk A false ∧ PgS A L ∨ Mk A true ∧ ∃ l, Ing A L l
def AllS (A : List Sec) : Prop := ∀ x ∈ A, x.u = none
theorem PgS.sub {A A' : List Sec} {L : List ByteArray} (h : PgS A L) (hs : ∀ i z, 126 ≤ i → A[i]? = some ⟨z, none⟩ → A'[i]? = some ⟨z, none⟩) : PgS A' L := fun n s hn j hj => hs _ _ (by omega) (h n s hn j hj)
theorem Ing.ok {A : List Sec} {L : List ByteArray} {l : List Int} (h : Ing A L l) : l.length ≤ 31 ∧ l.Nodup ∧ ∀ n ∈ l, 0 ≤ n ∧ n < (L.length : Int) := by
  obtain ⟨d, _, hd, rfl, hl, _⟩ := h
  obtain ⟨_, h2, h3, h4⟩ := dirB_lst hd
  exact ⟨h2, h3, fun n hn => ⟨(h4 n hn).1, hl n hn⟩⟩
theorem Ing.sub {A A' : List Sec} {L : List ByteArray} {l : List Int} (h : Ing A L l) (hs : ∀ i z, i ≠ 0 → (∀ n ∈ l, ∀ j, j < 4 → i ≠ 126 + 4 * n.toNat + j) → A[i]? = some ⟨z, none⟩ → A'[i]? = some ⟨z, none⟩) : Ing A' L l := by
  obtain ⟨h31, hnd, hbd⟩ := h.ok
  obtain ⟨d, h1, hd, hl, hb, him, hpg⟩ := h
  refine ⟨d, hs _ _ (by omega) (fun n _ j _ => by omega) h1, hd, hl, hb, fun k n s hk hn j hj => hs _ _ (by omega) (fun n' _ j' _ => ?_) (him k n s hk hn j hj), fun n s hn hs' j hj => hs _ _ (by omega) (fun n' hn' j' hj' e => ?_) (hpg n s hn hs' j hj)⟩
  · have := (List.getElem?_eq_some_iff.1 hk).1
    omega
  · have := hbd n' hn'
    have e2 : ((n : Nat) : Int) = n' := by omega
    exact hn (e2 ▸ hn')
theorem Mk.sub {A A' : List Sec} {b : Bool} (h : Mk A b) (hs : ∀ z, A[0]? = some ⟨z, none⟩ → A'[0]? = some ⟨z, none⟩) : Mk A' b := by
  obtain ⟨z, h1, h2⟩ := h
  exact ⟨z, hs z h1, h2⟩
theorem sy_sub {A : List Sec} {i : Nat} {z : Sct} (h : A[i]? = some ⟨z, none⟩) : (De.sy.ex A)[i]? = some ⟨z, none⟩ := by rw [ex_sy, h]; rfl
theorem sy_all (A : List Sec) : AllS (De.sy.ex A) := by
  intro x hx
  obtain ⟨y, _, rfl⟩ := List.mem_map.1 hx
  rfl
theorem wr0_at {A : List Sec} {b c : Bool} (h : Mk A b) : ∃ z : Sct, mkd z.1 = b ∧ ((De.wr 0 (markB c).1).ex A)[0]? = some ⟨z, some (markB c)⟩ := by
  obtain ⟨z, h1, h2⟩ := h
  refine ⟨z, h2, ?_⟩
  have e := ex_wr_in (i := 0) (a := (0 : Int)) (s := (markB c).1) rfl h1
  rw [e]
  have : pad (markB c).1 = markB c := Subtype.ext (pad_64 (markB c).2)
  rw [this]
theorem wr0_cr {A A' : List Sec} {b c : Bool} (h : Mk A b) (hc : Cr ((De.wr 0 (markB c).1).ex A) A') : Mk A' b ∨ Mk A' c := by
  obtain ⟨z, h1, h2⟩ := wr0_at (c := c) h
  obtain ⟨y, h3, _, h4⟩ := hc.2 0 _ h2
  rcases h4 with h4 | h4
  · exact .inl ⟨y, h3, by rw [h4]; exact h1⟩
  · exact .inr ⟨y, h3, by rw [h4]; exact mkd_mark c⟩
theorem wr0_sy {A : List Sec} {b c : Bool} (h : Mk A b) : Mk (De.sy.ex ((De.wr 0 (markB c).1).ex A)) c := by
  obtain ⟨z, h1, h2⟩ := wr0_at (c := c) h
  exact ⟨markB c, by rw [ex_sy, h2]; rfl, mkd_mark c⟩
theorem wr0_out {A : List Sec} {c : Bool} {i : Nat} (h : i ≠ 0) : ((De.wr 0 (markB c).1).ex A)[i]? = A[i]? := ex_wr_out h
/-- at each deed, not behind the last -/
def Pre (C : List Sec → Prop) (ds : List De) (A : List Sec) : Prop := ∀ k, k < ds.length → C (exs (ds.take k) A)
theorem Pre_app {C : List Sec → Prop} {ds es : List De} {A : List Sec} (h : Pre C ds A) (g : Pre C es (exs ds A)) : Pre C (ds ++ es) A := by
  intro k hk
  rw [List.length_append] at hk
  by_cases c : k < ds.length
  · rw [List.take_append_of_le_length (by omega)]
    exact h k c
  · rw [List.take_append, List.take_of_length_le (by omega), exs_app]
    exact g _ (by omega)
theorem Pre_cons {C : List Sec → Prop} {d : De} {ds : List De} {A : List Sec} (h : C A) (g : Pre C ds (d.ex A)) : Pre C (d :: ds) A := by
  intro k hk
  cases k with
  | zero => exact h
  | succ k => rw [List.take_succ_cons, exs_cons]; exact g k (by rw [List.length_cons] at hk; omega)
theorem Pre_nil {C : List Sec → Prop} {A : List Sec} : Pre C [] A := fun k hk => absurd hk (by simp)
theorem Pre_off {C : List Sec → Prop} {ds : List De} {A : List Sec} (h : ∀ A' : List Sec, (∀ i, Off i ds → A'[i]? = A[i]?) → C A') : Pre C ds A := fun k _ => h _ fun i hi => exs_off (hi.take k)
theorem Pre.mono {C C' : List Sec → Prop} {ds : List De} {A : List Sec} (h : Pre C ds A) (hc : ∀ A, C A → C' A) : Pre C' ds A := fun k hk => hc _ (h k hk)
/-- behind a crash -/
def CrH (L L2 : List ByteArray) (A : List Sec) : Prop := ∀ A', Cr A A' → Holds A' L ∨ Holds A' L2
theorem crh_no {A : List Sec} {L L2 : List ByteArray} (hm : Mk A false) (hp : PgS A L) : CrH L L2 A := fun A' hc => .inl (.inl ⟨hm.sub fun z h => hc.sure h, hp.sub fun i z _ h => hc.sure h⟩)
theorem crh_yes {A : List Sec} {L L2 : List ByteArray} {l : List Int} (hm : Mk A true) (hp : Ing A L l) : CrH L L2 A := fun A' hc => .inl (.inr ⟨hm.sub fun z h => hc.sure h, l, hp.sub fun i z _ _ h => hc.sure h⟩)
/-- the mark taken away -/
theorem tail_no {A : List Sec} {L L2 : List ByteArray} {l : List Int} (hm : Mk A true) (hi : Ing A L l) (hp : PgS A L2) :
    Pre (CrH L L2) (markD false) A ∧ Mk (exs (markD false) A) false ∧ PgS (exs (markD false) A) L2 ∧ AllS (exs (markD false) A) := by
  refine ⟨Pre_cons (crh_yes hm hi) (Pre_cons (fun A' hc => ?_) Pre_nil), wr0_sy hm, ?_, sy_all _⟩
  · rcases wr0_cr hm hc with h | h
    · exact .inl (.inr ⟨h, l, hi.sub fun i z h0 _ h => hc.sure (by rw [wr0_out h0]; exact h)⟩)
    · exact .inr (.inl ⟨h, hp.sub fun i z h0 h => hc.sure (by rw [wr0_out (by omega)]; exact h)⟩)
  · exact hp.sub fun i z h0 h => sy_sub (by rw [wr0_out (by omega)]; exact h)
theorem tail_yes {A : List Sec} {L L2 : List ByteArray} {l : List Int} (hm : Mk A false) (hi : Ing A L l) (hp : PgS A L) :
    Pre (CrH L L2) (markD true) A ∧ Mk (exs (markD true) A) true ∧ PgS (exs (markD true) A) L ∧ Ing (exs (markD true) A) L l := by
  refine ⟨Pre_cons (crh_no hm hp) (Pre_cons (fun A' hc => ?_) Pre_nil), wr0_sy hm, ?_, ?_⟩
  · rcases wr0_cr hm hc with h | h
    · exact .inl (.inl ⟨h, hp.sub fun i z h0 h => hc.sure (by rw [wr0_out (by omega)]; exact h)⟩)
    · exact .inl (.inr ⟨h, l, hi.sub fun i z h0 _ h => hc.sure (by rw [wr0_out h0]; exact h)⟩)
  · exact hp.sub fun i z h0 h => sy_sub (by rw [wr0_out (by omega)]; exact h)
  · exact hi.sub fun i z h0 _ h => sy_sub (by rw [wr0_out h0]; exact h)
/-- pages read -/
theorem rd_nat {D : Dv} {i : Nat} {y : Sec} (h : D.A[i]? = some y) : D.rd ((i : Nat) : Int) = y.now.1 := by
  unfold Dv.rd Dv.at
  rw [if_pos (by omega), Int.toNat_natCast, h]; rfl
theorem join_at {D : Dv} {b : Nat} {g : Nat → Int} {s : ByteArray} (hg : ∀ j, g j = ((b + j : Nat) : Int)) (hs : s.size = 256) (h : ∀ j, j < 4 → D.A[b + j]? = some ⟨pad (chunk s j), none⟩) : (joinB (rdL D g 4)).1 = s := by
  have e : rdL D g 4 = cutL s 4 := by
    unfold rdL cutL
    refine List.map_congr_left fun j hj => ?_
    have hj := List.mem_range.1 hj
    rw [hg j, rd_nat (h j hj)]
    exact pad_chunk hs hj
  rw [e, joinB_ok (by rw [cutL_len]) (fun x hx => by
    obtain ⟨j, hj, rfl⟩ := List.mem_map.1 hx
    exact chunk_size hs (List.mem_range.1 hj))]
  exact (cut_back hs).2
theorem plG_nat (n : Nat) (j : Nat) : plG ((n : Nat) : Int) j = ((126 + 4 * n + j : Nat) : Int) := by unfold plG; omega
theorem imG_nat (n : Nat) (j : Nat) : imG n j = ((2 + 4 * n + j : Nat) : Int) := by unfold imG; omega
theorem pgL_eq {D : Dv} {L : List ByteArray} (hz : ∀ s ∈ L, s.size = 256) (hp : PgS D.A L) : pgL D L.length = L := by
  apply List.ext_getElem?
  intro n
  unfold pgL
  rw [List.getElem?_map]
  by_cases c : n < L.length
  · rw [List.getElem?_range c, List.getElem?_eq_getElem c]
    have := hz L[n] (List.getElem_mem c)
    show some (pgP D n) = _
    unfold pgP
    rw [join_at (plG_nat n) this (hp n _ (List.getElem?_eq_getElem c))]
  · rw [List.getElem?_eq_none (by rw [List.length_range]; omega), List.getElem?_eq_none (by omega)]; rfl
theorem openB_un {D : Dv} {L : List ByteArray} (h : Fit D.A L) : openB D (L.length : Nat) = if mkd (D.rd 0) = true then recB D (pgL D L.length) else (0, D, pgL D L.length) := by
  have := h.len
  have := h.n1
  have := h.n2
  unfold openB
  rw [if_neg (by omega), Int.toNat_natCast]
theorem mk_rd {D : Dv} {b : Bool} (h : Mk D.A b) : mkd (D.rd 0) = b := by
  obtain ⟨z, h1, h2⟩ := h
  rw [show (0 : Int) = ((0 : Nat) : Int) from rfl, rd_nat h1]
  exact h2
theorem open_no {D : Dv} {L : List ByteArray} (h : Fit D.A L) (hm : Mk D.A false) (hp : PgS D.A L) : openB D (L.length : Nat) = (0, D, L) := by
  rw [openB_un h, mk_rd hm, if_neg (by decide), pgL_eq h.sz hp]
theorem getD_some {L : List ByteArray} {n : Nat} (h : n < L.length) : L[n]? = some (L.getD n ⟨#[]⟩) := by rw [List.getD_eq_getElem?_getD, List.getElem?_eq_getElem h]; rfl
theorem nodup_map_inj {α β : Type} {f : α → β} {l : List α} (h : l.Nodup) (hf : ∀ a ∈ l, ∀ b ∈ l, f a = f b → a = b) : (l.map f).Nodup := by
  induction l with
  | nil => exact List.nodup_nil
  | cons a l ih =>
    obtain ⟨h1, h2⟩ := List.nodup_cons.1 h
    rw [List.map_cons, List.nodup_cons]
    refine ⟨fun hc => ?_, ih h2 fun a ha b hb => hf a (List.mem_cons_of_mem _ ha) b (List.mem_cons_of_mem _ hb)⟩
    obtain ⟨b, hb, e⟩ := List.mem_map.1 hc
    exact h1 (hf b (List.mem_cons_of_mem _ hb) a (List.mem_cons_self ..) e ▸ hb)
end Go.Proofs.YtongpnolikkknaaGreatDoor

set_option maxRecDepth 20000
namespace Go.Proofs.YtongpnolikkknaaGreatDoor
open Sh RowKit Go.MapKept
def imX (L : List ByteArray) (cs : List Ch) : List (Nat × ByteArray) := (List.range cs.length).map fun k => (2 + 4 * k, L.getD (chG cs k).1.toNat ⟨#[]⟩)
def pgX (cs : List Ch) : List (Nat × ByteArray) := cs.map fun c => (126 + 4 * c.1.toNat, c.2)
theorem chG_get {cs : List Ch} {k : Nat} (h : k < cs.length) : chG cs k = cs[k] := by
  unfold chG; rw [List.getD_eq_getElem?_getD, List.getElem?_eq_getElem h]; rfl
theorem ims_eq {L : List ByteArray} {cs : List Ch} (hz : ∀ s ∈ L, s.size = 256) (hb : ∀ x ∈ cs, 0 ≤ x.1 ∧ x.1 < (L.length : Int)) : imsD L cs cs.length = blkW (imX L cs) := by
  unfold imsD blkW imX
  rw [List.flatMap_map]
  have key : ∀ l : List Nat, (∀ k ∈ l, k < cs.length) → (l.flatMap fun k => pageD (imG k) (L.getD (chG cs k).1.toNat ⟨#[]⟩)) = l.flatMap fun k => pgW (2 + 4 * k) (L.getD (chG cs k).1.toNat ⟨#[]⟩) := by
    intro l
    induction l with
    | nil => intro _; rfl
    | cons a l ih =>
      intro h
      rw [List.flatMap_cons, List.flatMap_cons, ih fun k hk => h k (List.mem_cons_of_mem _ hk)]
      have ha := h a (List.mem_cons_self ..)
      have hx := hb _ (List.getElem_mem ha)
      have hlt : (chG cs a).1.toNat < L.length := by rw [chG_get ha]; omega
      rw [pageD_pgW (hz _ (List.mem_of_getElem? (getD_some hlt))) (imG_nat a)]
  exact key _ fun k hk => List.mem_range.1 hk
theorem pgs_eq {cs : List Ch} (hz : ∀ x ∈ cs, x.2.size = 256) (hb : ∀ x ∈ cs, 0 ≤ x.1) : pgsD cs cs.length = blkW (pgX cs) := by
  have e : pgX cs = (List.range cs.length).map fun k => (126 + 4 * (chG cs k).1.toNat, (chG cs k).2) := by
    apply List.ext_getElem?
    intro k
    unfold pgX
    rw [List.getElem?_map, List.getElem?_map]
    by_cases c : k < cs.length
    · rw [List.getElem?_range c, List.getElem?_eq_getElem c]
      show some (126 + 4 * cs[k].1.toNat, cs[k].2) = some (126 + 4 * (chG cs k).1.toNat, (chG cs k).2)
      rw [chG_get c]
    · rw [List.getElem?_eq_none (by omega), List.getElem?_eq_none (by rw [List.length_range]; omega)]; rfl
  rw [e]
  unfold pgsD blkW
  rw [List.flatMap_map]
  have key : ∀ l : List Nat, (∀ k ∈ l, k < cs.length) → (l.flatMap fun k => pageD (plG (chG cs k).1) (chG cs k).2) = l.flatMap fun k => pgW (126 + 4 * (chG cs k).1.toNat) (chG cs k).2 := by
    intro l
    induction l with
    | nil => intro _; rfl
    | cons a l ih =>
      intro h
      rw [List.flatMap_cons, List.flatMap_cons, ih fun k hk => h k (List.mem_cons_of_mem _ hk)]
      have ha := h a (List.mem_cons_self ..)
      have h1 := hz _ (List.getElem_mem ha)
      have h2 := hb _ (List.getElem_mem ha)
      rw [← chG_get ha] at h1 h2
      have e : plG (chG cs a).1 = plG (((chG cs a).1.toNat : Nat) : Int) := by rw [Int.toNat_of_nonneg h2]
      rw [e, pageD_pgW h1 (plG_nat _)]
  exact key _ fun k hk => List.mem_range.1 hk
theorem setL_out : ∀ (cs : List Ch) (L : List ByteArray) (n : Nat), (∀ x ∈ cs, x.1.toNat ≠ n) → (setL L cs)[n]? = L[n]?
  | [], L, n, _ => rfl
  | c :: cs, L, n, h => by
    show (setL (L.set c.1.toNat c.2) cs)[n]? = _
    rw [setL_out cs _ n fun x hx => h x (List.mem_cons_of_mem _ hx), List.getElem?_set_ne (h c (List.mem_cons_self ..))]
theorem setL_in : ∀ (cs : List Ch) (L : List ByteArray) (x : Ch), (cs.map (·.1)).Nodup → (∀ y ∈ cs, 0 ≤ y.1 ∧ y.1 < (L.length : Int)) → x ∈ cs → (setL L cs)[x.1.toNat]? = some x.2
  | [], L, x, _, _, h => by simp at h
  | c :: cs, L, x, hn, hb, h => by
    rw [List.map_cons] at hn
    obtain ⟨h1, h2⟩ := List.nodup_cons.1 hn
    show (setL (L.set c.1.toNat c.2) cs)[x.1.toNat]? = _
    rcases List.mem_cons.1 h with rfl | h
    · rw [setL_out cs _ _ fun y hy e => ?_]
      · have := hb x (List.mem_cons_self ..)
        rw [List.getElem?_set_self (by omega)]
      · have q1 := hb x (List.mem_cons_self ..)
        have q2 := hb y (List.mem_cons_of_mem _ hy)
        have : y.1 = x.1 := by omega
        exact h1 (List.mem_map.2 ⟨y, hy, this⟩)
    · exact setL_in cs _ x h2 (fun y hy => by rw [List.length_set]; exact hb y (List.mem_cons_of_mem _ hy)) h
theorem setL_sz {cs : List Ch} {L : List ByteArray} (hz : ∀ s ∈ L, s.size = 256) (hc : ∀ x ∈ cs, x.2.size = 256) : ∀ s ∈ setL L cs, s.size = 256 := by
  induction cs generalizing L with
  | nil => exact hz
  | cons c cs ih =>
    refine ih (fun s hs => ?_) (fun x hx => hc x (List.mem_cons_of_mem _ hx))
    rcases List.mem_or_eq_of_mem_set hs with h | rfl
    · exact hz s h
    · exact hc c (List.mem_cons_self ..)
/-- a commit's deeds -/
theorem commit_stage {A : List Sec} {L : List ByteArray} {cs : List Ch} (h : Fit A L) (hm : Mk A false) (hp : PgS A L) (hv : mayB false L.length cs = 0) :
    Pre (CrH L (setL L cs)) (stepsD L cs) A ∧ Mk (exs (stepsD L cs) A) false ∧ PgS (exs (stepsD L cs) A) (setL L cs) ∧ AllS (exs (stepsD L cs) A) ∧ (∀ d ∈ stepsD L cs, d.good A.length) ∧ (stepsD L cs).length = 8 * cs.length + 7 := by
  obtain ⟨_, h31, hbd, hnd, hsz⟩ := mayB_ok hv
  have hlen := h.len
  have n160 := h.n2
  have hbl : ∀ n ∈ cs.map (fun x : Ch => x.1), 0 ≤ n ∧ n < (L.length : Int) := fun n hn => by
    obtain ⟨x, hx, rfl⟩ := List.mem_map.1 hn
    exact hbd x hx
  have hr : rightB (cs.map (·.1)) = true := decide_eq_true ⟨hnd, fun x hx => by have := hbl x hx; omega⟩
  obtain ⟨_, hl1, _, hl3⟩ := dir_back (l := cs.map (·.1)) (by rw [List.length_map]; exact h31) hr
  have hd64 : (dirW (cs.map (·.1))).1.size = 64 := by
    unfold dirW
    rw [List.length_map, if_neg (by omega), if_pos hr]
    exact (pad _).2
  have eim := ims_eq h.sz hbd
  have epg := pgs_eq hsz fun x hx => (hbd x hx).1
  -- the first deeds
  have offP : ∀ i, (i = 0 ∨ 126 ≤ i) → Off i ([De.wr 1 (dirW (cs.map (·.1))).1] ++ blkW (imX L cs)) := by
    intro i hi
    refine Off.app (fun d hd => ⟨1, _, List.mem_singleton.1 hd, by omega⟩) (off_blk fun x hx j hj => ?_)
    obtain ⟨k, hk, rfl⟩ := List.mem_map.1 hx
    have := List.mem_range.1 hk
    show i ≠ 2 + 4 * k + j
    omega
  have off1 : Off 1 (blkW (imX L cs)) := off_blk fun x hx j hj => by
    obtain ⟨k, hk, rfl⟩ := List.mem_map.1 hx
    show 1 ≠ 2 + 4 * k + j
    omega
  have keep : ∀ A' : List Sec, (∀ i, Off i ([De.wr 1 (dirW (cs.map (·.1))).1] ++ blkW (imX L cs)) → A'[i]? = A[i]?) → Mk A' false ∧ PgS A' L := fun A' hA => ⟨hm.sub fun z hz => by rw [hA 0 (offP 0 (.inl rfl))]; exact hz, hp.sub fun i z hi hz => by rw [hA i (offP i (.inr hi))]; exact hz⟩
  obtain ⟨m1, p1⟩ := keep (exs ([De.wr 1 (dirW (cs.map (·.1))).1] ++ blkW (imX L cs)) A) fun i hi => exs_off hi
  have m2 : Mk (De.sy.ex (exs ([De.wr 1 (dirW (cs.map (·.1))).1] ++ blkW (imX L cs)) A)) false := m1.sub fun z hz => sy_sub hz
  have p2 : PgS (De.sy.ex (exs ([De.wr 1 (dirW (cs.map (·.1))).1] ++ blkW (imX L cs)) A)) L := p1.sub fun i z _ hz => sy_sub hz
  have i2 : Ing (De.sy.ex (exs ([De.wr 1 (dirW (cs.map (·.1))).1] ++ blkW (imX L cs)) A)) L (cs.map (·.1)) := by
    refine ⟨pad (dirW (cs.map (·.1))).1, ?_, by rw [pad_64 hd64]; exact hl3, by rw [pad_64 hd64]; exact hl1, fun n hn => (hbl n hn).2, fun k n s hk hs j hj => ?_, fun n s _ hs j hj => p2 n s hs j hj⟩
    · have hy : A[1]? = some (A[1]'(by omega)) := List.getElem?_eq_getElem (by omega)
      have e := ex_wr_in (i := 1) (a := (1 : Int)) (s := (dirW (cs.map (·.1))).1) rfl hy
      rw [ex_sy, exs_app, exs_off off1, exs_cons]
      show Option.map _ ((De.wr 1 (dirW (cs.map (·.1))).1).ex A)[1]? = _
      rw [e]; rfl
    · have hkl : k < cs.length := by have := (List.getElem?_eq_some_iff.1 hk).1; rwa [List.length_map] at this
      have hmem : (2 + 4 * k, s) ∈ imX L cs := by
        refine List.mem_map.2 ⟨k, List.mem_range.2 hkl, ?_⟩
        rw [List.getElem?_map, List.getElem?_eq_getElem hkl] at hk
        have : cs[k].1 = n := Option.some.inj hk
        rw [chG_get hkl, this, List.getD_eq_getElem?_getD, hs]; rfl
      have ndI : ((imX L cs).map (·.1)).Nodup := by
        have e : (imX L cs).map (·.1) = (List.range cs.length).map fun k => 2 + 4 * k := by unfold imX; rw [List.map_map]; rfl
        rw [e]
        exact nodup_map_inj List.nodup_range fun a _ b _ e => by omega
      have hy : (exs [De.wr 1 (dirW (cs.map (·.1))).1] A)[2 + 4 * k + j]? = some ((exs [De.wr 1 (dirW (cs.map (·.1))).1] A)[2 + 4 * k + j]'(by rw [exs_len]; omega)) := List.getElem?_eq_getElem _
      rw [ex_sy, exs_app, blk_in hj ndI (fun x hx => by obtain ⟨k, _, rfl⟩ := List.mem_map.1 hx; show (2 + 4 * k) % 4 = 2; omega) hmem hy]
      rfl
  obtain ⟨t1, t2, t3, t4⟩ := tail_yes (L2 := setL L cs) m2 i2 p2
  generalize hA4 : exs (markD true) (De.sy.ex (exs ([De.wr 1 (dirW (cs.map (·.1))).1] ++ blkW (imX L cs)) A)) = A4 at *
  have l4 : A4.length = A.length := by rw [← hA4, exs_len, ex_len, exs_len]
  -- the pages
  have pX : ∀ x ∈ pgX cs, ∃ c ∈ cs, x = (126 + 4 * c.1.toNat, c.2) := fun x hx => by
    obtain ⟨c, hc, rfl⟩ := List.mem_map.1 hx
    exact ⟨c, hc, rfl⟩
  have off4 : Off 0 (blkW (pgX cs)) := off_blk fun x hx j hj => by obtain ⟨c, hc, rfl⟩ := pX x hx; show 0 ≠ 126 + 4 * c.1.toNat + j; omega
  have offI : ∀ i, (∀ n ∈ cs.map (fun x : Ch => x.1), ∀ j, j < 4 → i ≠ 126 + 4 * n.toNat + j) → Off i (blkW (pgX cs)) := fun i hi => off_blk fun x hx j hj => by
    obtain ⟨c, hc, rfl⟩ := pX x hx
    exact hi c.1 (List.mem_map.2 ⟨c, hc, rfl⟩) j hj
  have keep4 : ∀ A' : List Sec, (∀ i, Off i (blkW (pgX cs)) → A'[i]? = A4[i]?) → Mk A' true ∧ Ing A' L (cs.map (·.1)) := fun A' hA => ⟨t2.sub fun z hz => by rw [hA 0 off4]; exact hz, t4.sub fun i z _ h2 hz => by rw [hA i (offI i h2)]; exact hz⟩
  obtain ⟨m5, i5⟩ := keep4 (exs (blkW (pgX cs)) A4) fun i hi => exs_off hi
  have m6 : Mk (De.sy.ex (exs (blkW (pgX cs)) A4)) true := m5.sub fun z hz => sy_sub hz
  have i6 : Ing (De.sy.ex (exs (blkW (pgX cs)) A4)) L (cs.map (·.1)) := i5.sub fun i z _ _ hz => sy_sub hz
  have ndP : ((pgX cs).map (·.1)).Nodup := by
    have e : (pgX cs).map (·.1) = (cs.map (·.1)).map fun n => 126 + 4 * n.toNat := by unfold pgX; rw [List.map_map, List.map_map]; rfl
    rw [e]
    exact nodup_map_inj hnd fun a ha b hb e => by have := hbl a ha; have := hbl b hb; omega
  have p6 : PgS (De.sy.ex (exs (blkW (pgX cs)) A4)) (setL L cs) := by
    intro n s hs j hj
    by_cases c : ((n : Nat) : Int) ∈ cs.map (fun x : Ch => x.1)
    · obtain ⟨x, hx, hxn⟩ := List.mem_map.1 c
      have hxn : x.1 = ((n : Nat) : Int) := hxn
      have e1 := setL_in cs L x hnd hbd hx
      have e2 : x.1.toNat = n := by omega
      rw [e2, hs] at e1
      have e1 : s = x.2 := Option.some.inj e1
      have hmem : (126 + 4 * n, s) ∈ pgX cs := List.mem_map.2 ⟨x, hx, by rw [e2, e1]⟩
      have := hbd x hx
      have hy : A4[126 + 4 * n + j]? = some (A4[126 + 4 * n + j]'(by omega)) := List.getElem?_eq_getElem (by omega)
      rw [ex_sy, blk_in hj ndP (fun x hx => by obtain ⟨c, hc, rfl⟩ := pX x hx; show (126 + 4 * c.1.toNat) % 4 = 2; omega) hmem hy]
      rfl
    · rw [setL_out cs L n fun x hx e => c (List.mem_map.2 ⟨x, hx, by have := hbd x hx; omega⟩)] at hs
      obtain ⟨d, _, _, _, _, _, hpg⟩ := i6
      exact hpg n s c hs j hj
  obtain ⟨u1, u2, u3, u4⟩ := tail_no (L2 := setL L cs) m6 i6 p6
  have eS : stepsD L cs = [De.wr 1 (dirW (cs.map (·.1))).1] ++ blkW (imX L cs) ++ [De.sy] ++ markD true ++ blkW (pgX cs) ++ [.sy] ++ markD false := by
    unfold stepsD; rw [eim, epg]
  have eE : exs (stepsD L cs) A = exs (markD false) (De.sy.ex (exs (blkW (pgX cs)) A4)) := by
    rw [eS, exs_app, exs_app, exs_app, exs_app, exs_app, ← hA4]; rfl
  refine ⟨?_, by rw [eE]; exact u2, by rw [eE]; exact u3, by rw [eE]; exact u4, ?_, ?_⟩
  · rw [eS]
    refine Pre_app (Pre_app (Pre_app (Pre_app (Pre_app (Pre_off fun A' hA => ?_) (Pre_cons (crh_no m1 p1) Pre_nil)) ?_) ?_) ?_) ?_
    · obtain ⟨a1, a2⟩ := keep A' hA
      exact crh_no a1 a2
    · rw [exs_app]
      exact t1
    · rw [exs_app, exs_app]
      show Pre _ _ (exs (markD true) (De.sy.ex (exs ([De.wr 1 (dirW (cs.map (·.1))).1] ++ blkW (imX L cs)) A)))
      rw [hA4]
      refine Pre_off fun A' hA => ?_
      obtain ⟨a1, a2⟩ := keep4 A' hA
      exact crh_yes a1 a2
    · rw [exs_app, exs_app, exs_app]
      show Pre _ _ (exs (blkW (pgX cs)) (exs (markD true) (De.sy.ex (exs ([De.wr 1 (dirW (cs.map (·.1))).1] ++ blkW (imX L cs)) A))))
      rw [hA4]
      exact Pre_cons (crh_yes m5 i5) Pre_nil
    · rw [exs_app, exs_app, exs_app, exs_app]
      show Pre _ _ (De.sy.ex (exs (blkW (pgX cs)) (exs (markD true) (De.sy.ex (exs ([De.wr 1 (dirW (cs.map (·.1))).1] ++ blkW (imX L cs)) A)))))
      rw [hA4]
      exact u1
  · have gm : ∀ b, ∀ d ∈ markD b, d.good A.length := fun b d hd => by
      rcases List.mem_cons.1 hd with rfl | hd
      · exact ⟨by omega, by omega, Nat.le_of_eq (markB b).2⟩
      · rw [List.mem_singleton.1 hd]; trivial
    have gs : ∀ d ∈ [De.sy], d.good A.length := fun d hd => by rw [List.mem_singleton.1 hd]; trivial
    have gI : ∀ d ∈ blkW (imX L cs), d.good A.length := good_blk fun x hx => by
      obtain ⟨k, hk, rfl⟩ := List.mem_map.1 hx
      have hkl := List.mem_range.1 hk
      have := hbd _ (List.getElem_mem hkl)
      have hlt : (chG cs k).1.toNat < L.length := by rw [chG_get hkl]; omega
      exact ⟨by show 2 + 4 * k + 4 ≤ _; omega, h.sz _ (List.mem_of_getElem? (getD_some hlt))⟩
    have gP : ∀ d ∈ blkW (pgX cs), d.good A.length := good_blk fun x hx => by
      obtain ⟨c, hc, rfl⟩ := pX x hx
      have := hbd c hc
      exact ⟨by show 126 + 4 * c.1.toNat + 4 ≤ _; omega, hsz c hc⟩
    have g1 : ∀ d ∈ [De.wr 1 (dirW (cs.map (·.1))).1], d.good A.length := fun d hd => by rw [List.mem_singleton.1 hd]; exact ⟨by omega, by omega, Nat.le_of_eq hd64⟩
    have ga : ∀ {x y : List De}, (∀ d ∈ x, d.good A.length) → (∀ d ∈ y, d.good A.length) → ∀ d ∈ x ++ y, d.good A.length := fun hx hy d hd => (List.mem_append.1 hd).elim (hx d) (hy d)
    rw [eS]
    exact ga (ga (ga (ga (ga (ga g1 gI) gs) (gm true)) gP) gs) (gm false)
  · rw [eS]
    have a1 : (imX L cs).length = cs.length := by unfold imX; simp
    have a2 : (pgX cs).length = cs.length := by unfold pgX; simp
    simp only [List.length_append, blkW_len, a1, a2, List.length_cons, List.length_nil, markD]
    omega
theorem setL_fit {A A' : List Sec} {L : List ByteArray} {cs : List Ch} (h : Fit A L) (hv : mayB false L.length cs = 0) (hl : A'.length = A.length) : Fit A' (setL L cs) := by
  obtain ⟨_, _, _, _, hsz⟩ := mayB_ok hv
  exact ⟨by rw [setL_len, hl]; exact h.len, setL_sz h.sz hsz, by rw [setL_len]; exact h.n1, by rw [setL_len]; exact h.n2⟩
/-- a commit that may be, of some changes -/
theorem commit_two {G : Pg} {D : Dv} {cs : List Ch} (h : Fit D.A G.L) (hm : Mk D.A false) (hp : PgS D.A G.L) (hv : mayB G.st G.L.length cs = 0) (hne : cs ≠ []) :
    (commitB G D cs).2.1.h = D.h ∧ D.c ≤ (commitB G D cs).2.1.c ∧ (commitB G D cs).2.1.c ≤ D.c + 300 ∧ (commitB G D cs).2.1.A.length = D.A.length ∧ (∀ A', Cr (commitB G D cs).2.1.A A' → Holds A' G.L ∨ Holds A' (setL G.L cs)) ∧
    ((commitB G D cs).1 = 0 ∧ (commitB G D cs).2.2 = ⟨setL G.L cs, G.st, G.c + 1⟩ ∧ Mk (commitB G D cs).2.1.A false ∧ PgS (commitB G D cs).2.1.A (setL G.L cs) ∧ AllS (commitB G D cs).2.1.A ∧ (commitB G D cs).2.1.c = D.c + (8 * cs.length + 7 : Nat) ∨
     (commitB G D cs).1 = 9 ∧ (commitB G D cs).2.2 = { G with st := true }) ∧ (D.c + 300 ≤ D.h → (commitB G D cs).1 = 0) := by
  have hst := (mayB_ok hv).1
  have h31 := (mayB_ok hv).2.1
  have hv' := hv
  rw [hst] at hv'
  obtain ⟨s1, s2, s3, s4, s5, s6⟩ := commit_stage h hm hp hv'
  have hcm : ¬ (mayB G.st G.L.length cs ≠ 0 ∨ cs = []) := fun hx => hx.elim (fun h => h hv) hne
  have hc := runs_c (stepsD G.L cs) D
  rcases runs_two (stepsD G.L cs) D s5 with e | ⟨e1, e2, k, hk, e3⟩
  · have eC : commitB G D cs = (0, ⟨exs (stepsD G.L cs) D.A, D.c + (stepsD G.L cs).length, D.h⟩, ⟨setL G.L cs, G.st, G.c + 1⟩) := by
      unfold commitB
      rw [if_neg hcm, e, if_neg (fun h => h rfl)]
    rw [eC]
    refine ⟨rfl, by show D.c ≤ D.c + ((stepsD G.L cs).length : Int); omega, by show D.c + ((stepsD G.L cs).length : Int) ≤ _; omega, exs_len _ _, fun A' hc => ?_, .inl ⟨rfl, rfl, s2, s3, s4, by show D.c + ((stepsD G.L cs).length : Int) = _; rw [s6]⟩, fun _ => rfl⟩
    exact (crh_no (L2 := G.L) s2 s3 A' hc).symm
  · have n9 : ¬ (runs (stepsD G.L cs) D).1 = 0 := by rw [e1]; decide
    have eC : commitB G D cs = ((runs (stepsD G.L cs) D).1, (runs (stepsD G.L cs) D).2, { G with st := true }) := by
      unfold commitB
      rw [if_neg hcm, if_pos n9]
    rw [eC]
    refine ⟨e2, hc.1, by have := hc.2; show (runs (stepsD G.L cs) D).2.c ≤ _; omega, by show (runs (stepsD G.L cs) D).2.A.length = _; rw [e3, exs_len], fun A' hcr => ?_, .inr ⟨e1, rfl⟩, fun hd => ?_⟩
    · have hcr : Cr (runs (stepsD G.L cs) D).2.A A' := hcr
      rw [e3] at hcr
      exact s1 k hk A' hcr
    · have := runs_ok _ _ s5 (by omega)
      rw [this] at n9
      exact absurd rfl n9
/-- a commit that may not be, or of nothing -/
theorem commit_no {G : Pg} {D : Dv} {cs : List Ch} (h : mayB G.st G.L.length cs ≠ 0 ∨ cs = []) : commitB G D cs = (mayB G.st G.L.length cs, D, G) := by
  unfold commitB
  rw [if_pos h]
/-- a new device's pages -/
theorem new_mk (n : Nat) (h : 0 < n) : Mk (newD n).A false := ⟨pad ⟨#[]⟩, by unfold newD; rw [List.getElem?_replicate, if_pos h], by show mkd (markB false).1 = false; exact mkd_mark false⟩
theorem zs_chunk {j : Nat} (hj : j < 4) : chunk (zs 256) j = zs 64 := by
  apply byL_inj
  unfold chunk
  rw [byL_take, byL_zs, byL_zs]
  rcases (by omega : j = 0 ∨ j = 1 ∨ j = 2 ∨ j = 3) with rfl | rfl | rfl | rfl <;> decide
theorem pad_zs : pad (zs 64) = pad ⟨#[]⟩ := by
  apply Subtype.ext
  rw [pad_64 (zs_size 64)]
  apply byL_inj
  rw [byL_zs, byL_pad]
  rfl
theorem new_pgs (m n : Nat) (h : 126 + 4 * m ≤ n) : PgS (newD n).A (List.replicate m (zs 256)) := by
  intro k s hs j hj
  rw [List.getElem?_replicate] at hs
  split at hs
  · rename_i hk
    obtain rfl : zs 256 = s := Option.some.inj hs
    unfold newD
    rw [List.getElem?_replicate, if_pos (by omega), zs_chunk hj, pad_zs]
  · cases hs
theorem new_fit (m n : Nat) (h1 : 1 ≤ m) (h2 : m ≤ 160) (h : 126 + 4 * m ≤ n) : Fit (newD n).A (List.replicate m (zs 256)) :=
  ⟨by unfold newD; simp; exact h, fun s hs => by rw [List.eq_of_mem_replicate hs]; exact zs_size 256, by simpa using h1, by simpa using h2⟩
end Go.Proofs.YtongpnolikkknaaGreatDoor

set_option maxRecDepth 20000
set_option maxHeartbeats 4000000
namespace Go.Proofs.YtongpnolikkknaaGreatDoor
open Sh RowKit Go.MapKept
def fillL (b : Int) (i : Nat) : List Int := List.replicate i b ++ List.replicate (256 - i) 0
def fillB (b : Int) : ByteArray := strOfNums (List.replicate 256 b)
theorem fillL_len {b : Int} {i : Nat} (h : i ≤ 256) : (fillL b i).length = 256 := by unfold fillL; rw [List.length_append, List.length_replicate, List.length_replicate]; omega
theorem fillL_set {b : Int} {i : Nat} (h : i < 256) : (fillL b i).set i b = fillL b (i + 1) := by
  unfold fillL
  rw [List.set_append_right _ _ (by rw [List.length_replicate]; exact Nat.le_refl _), List.length_replicate, Nat.sub_self, show 256 - i = (256 - (i + 1)) + 1 by omega, List.replicate_succ, List.set_cons_zero, List.replicate_succ', List.append_assoc]
  rfl
theorem fillB_size (b : Int) : (fillB b).size = 256 := by unfold fillB; rw [son_size, List.length_replicate]
section
variable {B : Nat} {W w : World} {Q : Value → World → Prop}
theorem f80_loop {W : World} {B : Nat} {b : Int} : ∀ (d m i : Nat) (w : World) (v : Value), i + d = 256 → d < m → B ≤ w.heap.size → Below B W w → ownI B 5 .u8 w v (fillL b i) →
    (∀ w', Below B W w' → Q (.string (fillB b)) w') →
    itr (fun _ _ _ => bot) (f80_b2 f80_j1) m (.int .u8 b) v (.int .i64 (i : Int)) w Q := by
  intro d
  induction d with
  | zero =>
    intro m i w v hi hm hB hb ho kk
    obtain ⟨m, rfl⟩ : ∃ x, m = x + 1 := ⟨m - 1, by omega⟩
    show f80_b2 f80_j1 _ _ _ _ w Q
    unfold f80_b2
    obtain ⟨pl, cl, el, _⟩ := ownI_len ho
    have ll : ∀ (K : Value → M) (w1 : World) (Q : Value → World → Prop), lnl v K w1 Q = K (.int .i64 (256 : Nat)) w1 Q := fun K w1 Q => by
      rw [el, lnl_e, fillL_len (by omega)]
    have c : ¬ (i : Int) < (256 : Nat) := by omega
    try simp only [↓reduceIte, ↓LL, LM, Value.cells, Nat.reduceAdd, Option.some.injEq, exists_eq_left', decide_true, decide_false, if_true, if_false, reduceCtorEq, cond_true, cond_false, ll, c]
    unfold f80_j1
    refine cvb sl61 ud5 str9 (rdP_rd (ownI_rdP ho)) ?_
    try simp only [↓reduceIte, ↓LL, LM, Value.cells, Nat.reduceAdd, Option.some.injEq, exists_eq_left', decide_true, decide_false, if_true, if_false, reduceCtorEq, cond_true, cond_false]
    have : i = 256 := by omega
    subst this
    have e : strOfNums (fillL b 256) = fillB b := by
      have : fillL b 256 = List.replicate 256 b := by
        unfold fillL
        rw [Nat.sub_self]
        exact List.append_nil _
      rw [this]; rfl
    rw [e]
    exact kk w hb
  | succ d ih =>
    intro m i w v hi hm hB hb ho kk
    obtain ⟨m, rfl⟩ : ∃ x, m = x + 1 := ⟨m - 1, by omega⟩
    show f80_b2 f80_j1 _ _ _ _ w Q
    unfold f80_b2
    obtain ⟨pl, cl, el, _⟩ := ownI_len ho
    have ll : ∀ (K : Value → M) (w1 : World) (Q : Value → World → Prop), lnl v K w1 Q = K (.int .i64 (256 : Nat)) w1 Q := fun K w1 Q => by
      rw [el, lnl_e, fillL_len (by omega)]
    have c : (i : Int) < (256 : Nat) := by omega
    have h3 : IntKind.i64.wrap ((i : Int) + 1) = ((i + 1 : Nat) : Int) := by rw [w64 (by omega) (by omega)]; rfl
    try simp only [↓reduceIte, ↓LL, LM, Value.cells, Nat.reduceAdd, Option.some.injEq, exists_eq_left', decide_true, decide_false, if_true, if_false, reduceCtorEq, cond_true, cond_false, ll, c]
    refine ia_st ho (by rw [fillL_len (by omega)]; omega) fun w' ho' hu => ?_
    rw [fillL_set (by omega)] at ho'
    obtain ⟨g, hg1, hg2, hg3, hu⟩ := hu
    try simp only [↓reduceIte, ↓LL, LM, Value.cells, Nat.reduceAdd, Option.some.injEq, exists_eq_left', decide_true, decide_false, if_true, if_false, reduceCtorEq, cond_true, cond_false, h3]
    exact ih m (i + 1) w' v (by omega) (by omega) (by rw [hu.size]; exact hB) (hb.trans (hu.below hg2)) ho' kk
theorem f80_s {b : Int} (kk : ∀ w', Below w.heap.size w w' → Q (.string (fillB b)) w') : f80 (.int .u8 b) w Q := by
  unfold f80
  refine mkI (n := 256) (B := w.heap.size) sl61 (by omega) (by omega) (Nat.le_refl _) fun v w1 ho hb => ?_
  try simp only [↓reduceIte, ↓LL, LM, Value.cells, Nat.reduceAdd, Option.some.injEq, exists_eq_left', decide_true, decide_false, if_true, if_false, reduceCtorEq, cond_true, cond_false]
  refine ⟨_, f80_loop (W := w) (b := b) 256 257 0 w1 v (by omega) (by omega) hb.size hb ?_ kk⟩
  exact ho
end
end Go.Proofs.YtongpnolikkknaaGreatDoor

set_option maxRecDepth 20000
set_option maxHeartbeats 4000000
namespace Go.Proofs.YtongpnolikkknaaGreatDoor
open Sh RowKit Go.MapKept
def chsB (ps bs : List Int) (n : Nat) : List Ch := (List.range n).map fun i => (ps.getD i 0, fillB (bs.getD i ((i : Int) % 256)))
theorem chsB_succ (ps bs : List Int) (n : Nat) : chsB ps bs (n + 1) = chsB ps bs n ++ [(ps.getD n 0, fillB (bs.getD n ((n : Int) % 256)))] := by unfold chsB; rw [List.range_succ, List.map_append]; rfl
theorem chsB_len (ps bs : List Int) (n : Nat) : (chsB ps bs n).length = n := by unfold chsB; simp
theorem w8 {i : Int} : IntKind.u8.wrap i = i % 256 := by
  unfold IntKind.wrap
  simp [IntKind.signed, IntKind.bits]
theorem slC : slT Tryz.prog 49 48 (.agg #[.int .i64 0, .string ⟨#[]⟩]) 2 24 := ⟨by kernel_rfl, by kernel_rfl⟩
theorem slC6 : slT Tryz.prog 69 136 (.agg #[.int .i64 0, .string ⟨#[]⟩]) 2 24 := ⟨by kernel_rfl, by kernel_rfl⟩
theorem buildC (n : Int) (s : ByteArray) (w : World) : (Instr.build 48 #[(0, .int .i64 n), (1, .string s)]).run Tryz.prog w = .ok (.agg (encC (n, s)).toArray) w := by
  kernel_rfl
theorem buildC6 (n : Int) (s : ByteArray) (w : World) : (Instr.build 136 #[(0, .int .i64 n), (1, .string s)]).run Tryz.prog w = .ok (.agg (encC (n, s)).toArray) w := by
  kernel_rfl
section
variable {B : Nat} {W w : World} {Q : Value → World → Prop}
/-- one element of several cells more -/
theorem ap_E1 {α : Type} {enc : α → List Value} {n b : Nat} {t e : TypeId} {z v : Value} {l : List α} {x : α} {K : Value → M} (ht : slT Tryz.prog t e z n b) (hz : z.cells.size = n) (hn0 : 0 < n) (hn24 : n ≤ 16777216) (hn : ∀ x, (enc x).length = n) (h1 : ∀ x, ∀ c ∈ enc x, c.oneCell' = true) (ho : ownE B e n enc w v l)
    (h63 : l.length + 1 ≤ maxLen) (hbytes : (l.length + 1) * b ≤ 140737488355328) (hB : B ≤ w.heap.size)
    (kk : ∀ w' v', ownE B e n enc w' v' (l ++ [x]) → ChgS (fun k => v.ownBlock = some k) w w' → (∀ g, v'.ownBlock = some g → v.ownBlock = some g ∨ w.heap.size ≤ g) → K v' w' Q) :
    sm Tryz.prog (Instr.buildSlice t 1 #[(0, .agg (enc x).toArray)]) (fun u => sm Tryz.prog (Builtin.append_ #[t, t] t #[v, u]) K) w Q := by
  refine bslE ht hz hn0 hn24 (hn x) fun w1 h b1 => ?_
  refine ap_E (m := [x]) ht hz hn0 hn h1 (ownE_below ho b1) (rd_lit (hn x) h) h63 hbytes (Nat.le_trans hB b1.size) fun v' w' o g f => ?_
  have hs : w.heap.size ≤ w1.heap.size := b1.size
  refine kk w' v' o ⟨g.os.trans b1.os, g.tape.trans b1.tape, g.output.trans b1.output, Nat.le_trans hs g.size, fun k hk hne => ?_⟩ fun k hk => ?_
  · rw [g.block k (by omega) (fun e => hne e.symm), b1.block k hk]
  · rcases f with f | f
    · left; rw [← f]; exact hk
    · right
      rw [f] at hk; cases hk; omega
theorem rdI_b {k : IntKind} {v : Value} {l : List Int} {w' : World} (h : rdI k w v l) (hb : Below w.heap.size w w') : rdI k w' v l := rdI_below hb h
theorem rdI_lnl {k : IntKind} {v : Value} {l : List Int} (h : rdI k w v l) : ∀ (K : Value → M) (w1 : World) (Q : Value → World → Prop), lnl v K w1 Q = K (.int .i64 ((l.length : Nat) : Int)) w1 Q := by
  intro K w1 Q
  obtain ⟨p, c, rfl, _⟩ := h
  rw [lnl_e]
theorem changes_loop {ps bs : List Int} {vp vb : Value} {b : Nat} (hbox : W.heap[b]? = some (.cells #[vp, vb] 72 (0, 0))) (hp : rdI .i64 W vp ps) (hbs : rdI .u8 W vb bs) (hl : ps.length ≤ 1048576) :
    ∀ (d m i : Nat) (w : World) (x y : Value), i + d = ps.length → d < m → Below W.heap.size W w → ownE W.heap.size 48 2 encC w x (chsB ps bs i) → ownE W.heap.size 136 2 encC w y (chsB ps bs i) →
    (∀ w' x' y', Below W.heap.size W w' → ownE W.heap.size 48 2 encC w' x' (chsB ps bs ps.length) → ownE W.heap.size 136 2 encC w' y' (chsB ps bs ps.length) → Q (.tuple #[x', y']) w') →
    itr (fun _ _ _ _ => bot) (f42_b2 f42_j1) m (pv b) x y (.int .i64 ((i : Nat) : Int)) w Q := by
  intro d
  induction d with
  | zero =>
    intro m i w x y hi hm hb hx hy kk
    obtain ⟨m, rfl⟩ : ∃ x, m = x + 1 := ⟨m - 1, by omega⟩
    show f42_b2 f42_j1 _ _ _ _ _ w Q
    unfold f42_b2
    have hbox' := stay hb hbox
    have c0 : w.cell? ⟨b, 0, none⟩ = some vp := by rw [cell_of_blk hbox']; rfl
    have lp := rdI_lnl hp
    have c : ¬ (i : Int) < (ps.length : Nat) := by omega
    try simp only [↓reduceIte, ↓LL, LM, Value.cells, Nat.reduceAdd, Option.some.injEq, exists_eq_left', decide_true, decide_false, if_true, if_false, reduceCtorEq, cond_true, cond_false, c0, lp, c]
    unfold f42_j1
    try simp only [↓reduceIte, ↓LL, LM, Value.cells, Nat.reduceAdd, Option.some.injEq, exists_eq_left', decide_true, decide_false, if_true, if_false, reduceCtorEq, cond_true, cond_false]
    have : i = ps.length := by omega
    subst this
    exact kk w x y hb hx hy
  | succ d ih =>
    intro m i w x y hi hm hb hx hy kk
    obtain ⟨m, rfl⟩ : ∃ x, m = x + 1 := ⟨m - 1, by omega⟩
    show f42_b2 f42_j1 _ _ _ _ _ w Q
    unfold f42_b2
    have hbox' := stay hb hbox
    have c0 : w.cell? ⟨b, 0, none⟩ = some vp := by rw [cell_of_blk hbox']; rfl
    have c1 : w.cell? ⟨b, 1, none⟩ = some vb := by rw [cell_of_blk hbox']; rfl
    have lp := rdI_lnl hp
    have lb := rdI_lnl hbs
    have c : (i : Int) < (ps.length : Nat) := by omega
    have hil : i < ps.length := by omega
    have h3 : IntKind.i64.wrap ((i : Int) + 1) = ((i + 1 : Nat) : Int) := by rw [w64 (by omega) (by omega)]; rfl
    have epi : ps[i] = ps.getD i 0 := by rw [List.getD_eq_getElem?_getD, List.getElem?_eq_getElem hil]; rfl
    have body : ∀ (w1 : World) (v : Int), Below W.heap.size W w1 → ownE W.heap.size 48 2 encC w1 x (chsB ps bs i) → ownE W.heap.size 136 2 encC w1 y (chsB ps bs i) → v = bs.getD i ((i : Int) % 256) →
        f42_j3 (itr (fun _ _ _ _ => bot) (f42_b2 f42_j1) m) (pv b) x y (.int .i64 ((i : Nat) : Int)) (.int .u8 v) w1 Q := by
      intro w1 v hb1 hx1 hy1 hv
      unfold f42_j3
      obtain ⟨ad, hc, hia⟩ := rdI_at hp hil
      have hbx1 := stay hb1 hbox
      have k0 : (drw w1).cell? ⟨b, 0, none⟩ = some vp := by show w1.cell? _ = _; rw [cell_of_blk hbx1]; rfl
      have k1 : (drw w1).cell? ad = some (.int .i64 ps[i]) := show w1.cell? ad = _ from cell_below hb1 hc
      try simp only [↓reduceIte, ↓LL, LM, Value.cells, Nat.reduceAdd, Option.some.injEq, exists_eq_left', decide_true, decide_false, if_true, if_false, reduceCtorEq, cond_true, cond_false, k0, hia, k1]
      refine f80_s fun w2 b2 => ?_
      have hb2 : Below W.heap.size W w2 := bt (show Below W.heap.size W (drw w1) from ⟨hb1.os, hb1.tape, hb1.output, hb1.size, hb1.block⟩) b2
      refine ⟨by rw [Kld_e]; exact cell_below hb2 hc, ?_⟩
      refine ⟨by rw [Kld_e, cell_of_blk (stay hb2 hbox)]; rfl, ?_⟩
      rw [smr_run (buildC _ _ _)]
      have hx2 : ownE W.heap.size 48 2 encC w2 x (chsB ps bs i) := ownE_below (w := drw w1) hx1 b2
      have hy2 : ownE W.heap.size 136 2 encC w2 y (chsB ps bs i) := ownE_below (w := drw w1) hy1 b2
      refine ap_E1 slC rfl (by decide) (by decide) encC_len encC_one hx2 (by rw [chsB_len]; unfold maxLen; omega) (by rw [chsB_len]; omega) hb2.size fun w3 x3 hx3 hc3 _ => ?_
      have xT : ∀ k, x.ownBlock = some k → W.heap.size ≤ k := fun k hk => (ownE_blk hx2 k hk).1
      have hb3 : Below W.heap.size W w3 := hb2.trans (hc3.below xT hb2.size)
      have hy3 : ownE W.heap.size 136 2 encC w3 y (chsB ps bs i) := ownE_chg hy2 hc3 fun g hg hn => by
        obtain ⟨_, _, cur, h1⟩ := ownE_blk hy2 g hg
        obtain ⟨_, _, cur', h2⟩ := ownE_blk hx2 g hn
        rw [h1] at h2
        cases h2
      have hbx3 := stay hb3 hbox
      have k0 : (drw w3).cell? ⟨b, 0, none⟩ = some vp := by show w3.cell? _ = _; rw [cell_of_blk hbx3]; rfl
      have k1 : (drw w3).cell? ad = some (.int .i64 ps[i]) := show w3.cell? ad = _ from cell_below hb3 hc
      try simp only [↓reduceIte, ↓LL, LM, Value.cells, Nat.reduceAdd, Option.some.injEq, exists_eq_left', decide_true, decide_false, if_true, if_false, reduceCtorEq, cond_true, cond_false, k0, hia, k1]
      refine f80_s fun w4 b4 => ?_
      have hb4 : Below W.heap.size W w4 := bt (show Below W.heap.size W (drw w3) from ⟨hb3.os, hb3.tape, hb3.output, hb3.size, hb3.block⟩) b4
      refine ⟨by rw [Kld_e]; exact cell_below hb4 hc, ?_⟩
      refine ⟨by rw [Kld_e, cell_of_blk (stay hb4 hbox)]; rfl, ?_⟩
      rw [smr_run (buildC6 _ _ _)]
      have hx4 : ownE W.heap.size 48 2 encC w4 x3 (chsB ps bs i ++ [(ps[i], fillB v)]) := ownE_below (w := drw w3) hx3 b4
      have hy4 : ownE W.heap.size 136 2 encC w4 y (chsB ps bs i) := ownE_below (w := drw w3) hy3 b4
      refine ap_E1 slC6 rfl (by decide) (by decide) encC_len encC_one hy4 (by rw [chsB_len]; unfold maxLen; omega) (by rw [chsB_len]; omega) hb4.size fun w5 y5 hy5 hc5 _ => ?_
      have yT : ∀ k, y.ownBlock = some k → W.heap.size ≤ k := fun k hk => (ownE_blk hy4 k hk).1
      have hb5 : Below W.heap.size W w5 := hb4.trans (hc5.below yT hb4.size)
      have hx5 : ownE W.heap.size 48 2 encC w5 x3 (chsB ps bs i ++ [(ps[i], fillB v)]) := ownE_chg hx4 hc5 fun g hg hn => by
        obtain ⟨_, _, cur, h1⟩ := ownE_blk hx4 g hg
        obtain ⟨_, _, cur', h2⟩ := ownE_blk hy4 g hn
        rw [h1] at h2
        cases h2
      have ec : chsB ps bs i ++ [(ps[i], fillB v)] = chsB ps bs (i + 1) := by rw [chsB_succ, epi, hv]
      rw [ec] at hx5 hy5
      try simp only [↓reduceIte, ↓LL, LM, Value.cells, Nat.reduceAdd, Option.some.injEq, exists_eq_left', decide_true, decide_false, if_true, if_false, reduceCtorEq, cond_true, cond_false, h3]
      exact ih m (i + 1) w5 x3 y5 (by omega) (by omega) hb5 hx5 hy5 kk
    by_cases c2 : i < bs.length
    · have c2' : (i : Int) < (bs.length : Nat) := by omega
      obtain ⟨ad, hc, hia⟩ := rdI_at (rdI_b hbs hb) c2
      try simp only [↓reduceIte, ↓LL, LM, Value.cells, Nat.reduceAdd, Option.some.injEq, exists_eq_left', decide_true, decide_false, if_true, if_false, reduceCtorEq, cond_true, cond_false, c0, c1, lp, lb, c, c2', hia, hc]
      refine body w _ hb hx hy ?_
      rw [List.getD_eq_getElem?_getD, List.getElem?_eq_getElem c2]; rfl
    · have c2' : ¬ (i : Int) < (bs.length : Nat) := by omega
      try simp only [↓reduceIte, ↓LL, LM, Value.cells, Nat.reduceAdd, Option.some.injEq, exists_eq_left', decide_true, decide_false, if_true, if_false, reduceCtorEq, cond_true, cond_false, c0, c1, lp, lb, c, c2']
      refine body w _ hb hx hy ?_
      rw [List.getD_eq_getElem?_getD, List.getElem?_eq_none (by omega), w8]; rfl
theorem f42_s {ps bs : List Int} {vp vb : Value} (hp : rdI .i64 w vp ps) (hbs : rdI .u8 w vb bs) (hl : ps.length ≤ 1048576)
    (kk : ∀ w' x y, Below w.heap.size w w' → ownE w.heap.size 48 2 encC w' x (chsB ps bs ps.length) → ownE w.heap.size 136 2 encC w' y (chsB ps bs ps.length) → Q (.tuple #[x, y]) w') : f42 (.agg #[vp, vb]) w Q := by
  unfold f42
  try simp only [↓reduceIte, ↓LL, LM, Value.cells, Nat.reduceAdd, Option.some.injEq, exists_eq_left', decide_true, decide_false, if_true, if_false, reduceCtorEq, cond_true, cond_false]
  have b1 := b_psh w (.cells #[vp, vb] 72)
  have k1 := blk_psh_new (w := w) (o := .cells #[vp, vb] 72)
  generalize psh w (.cells #[vp, vb] 72) = w1 at *
  have s1 : w.heap.size ≤ w1.heap.size := b1.size
  refine ⟨_, changes_loop (W := w1) (ps := ps) (bs := bs) k1 (rdI_b hp b1) (rdI_b hbs b1) hl ps.length (ps.length + 1) 0 w1 _ _ (by omega) (by omega) (Below.refl _ _) ownE_nil ownE_nil fun w2 x y b2 hx hy => ?_⟩
  exact kk w2 x y (bt b1 b2) (ownE_weak hx s1) (ownE_weak hy s1)
end
end Go.Proofs.YtongpnolikkknaaGreatDoor

namespace Go.Proofs.YtongpnolikkknaaGreatDoor
open Sh RowKit Go.MapKept
theorem wf8 {x : Int} (h : (Lit.int .u8 x).wf = true) : 0 ≤ x ∧ x ≤ 255 := by
  unfold Lit.wf at h
  simp [IntKind.min, IntKind.max, IntKind.signed, IntKind.bits] at h
  omega
theorem ints_rdk {k : IntKind} {w : World} {v : Value} {l : List Int} (h : rdS 1 (iR k) w v l) : rdI k w v l ∧ ∀ x ∈ l, (Lit.int k x).wf = true := by
  rcases h with ⟨rfl, rfl⟩ | ⟨a, c, rfl, hc, h⟩
  · exact ⟨⟨none, 0, rfl, fun i hi => by simp at hi⟩, fun x hx => by simp at hx⟩
  · refine ⟨⟨_, c, rfl, fun i hi => ⟨a, rfl, ?_⟩⟩, fun x hx => ?_⟩
    · obtain ⟨es, _, h2, h3, _⟩ := h i hi
      subst h3
      have := h2 0 _ rfl
      rw [Nat.mul_one] at this
      exact this
    · obtain ⟨i, hi, rfl⟩ := List.mem_iff_getElem.1 hx
      obtain ⟨es, _, _, _, h4⟩ := h i hi
      exact h4
theorem len2 {cs : List Value} (h : cs.length = 2) : ∃ a b, cs = [a, b] := by
  match cs, h with
  | [a, b], _ => exact ⟨a, b, rfl⟩
structure Bat where
  ps : List Int
  bs : List Int
  vp : Value
  vb : Value
def oBat : RepT Bat := fun w cs x => cs = [x.vp, x.vb] ∧ rdI .i64 w x.vp x.ps ∧ rdI .u8 w x.vb x.bs ∧ ∀ y ∈ x.bs, 0 ≤ y ∧ y ≤ 255
theorem ulb : Tryz.prog.underlying 42 = some (.slice 5) := by kernel_rfl
theorem uu8 : Tryz.prog.underlying 5 = some (.int .u8) := by kernel_rfl
theorem sum_one : ∀ l : List Int, (l.map fun _ => 1).sum = l.length
  | [] => rfl
  | _ :: l => by rw [List.map_cons, List.sum_cons, sum_one l, List.length_cons]; omega
theorem op_bat : Opens Tryz.prog 72 Bat oBat (fun x => x.ps.length) := by
  refine Opens.mono (op_struct Tryz.underlying72 (n := 2) (by kernel_rfl) (opf_cons (n := 1) (by kernel_rfl) (op_slice uli (n := 1) (by kernel_rfl) (op_int ui)) (opf_cons (n := 1) (by kernel_rfl) (op_slice ulb (n := 1) (by kernel_rfl) (op_int uu8)) opf_nil))) ?_
  rintro w cs ⟨ps, bs, ⟨⟩⟩ ⟨hl, ⟨v, h0, h1, _⟩, ⟨v2, h2, h3, _⟩, -⟩
  obtain ⟨c0, c1, rfl⟩ := len2 hl
  have e0 := one_cell (x := c0) h0
  have e1 := one_cell (x := c1) h2
  obtain ⟨k1, _⟩ := ints_rdk h1
  obtain ⟨k2, k3⟩ := ints_rdk h3
  refine ⟨⟨ps, bs, v, v2⟩, ⟨by rw [e0, e1], k1, k2, fun y hy => wf8 (k3 y hy)⟩, ?_⟩
  have h := sum_one ps
  show ps.length ≤ ((ps.map fun _ => 1).sum + 1) + (((bs.map fun _ => 1).sum + 1) + 0) + 1
  omega
end Go.Proofs.YtongpnolikkknaaGreatDoor

namespace Go.Proofs.YtongpnolikkknaaGreatDoor
open Sh RowKit Go.MapKept
theorem ulB : Tryz.prog.underlying 61 = some (.slice 72) := by kernel_rfl
theorem scLB : isSc Tryz.prog 61 = true := by kernel_rfl
theorem sum_memB {l : List Bat} {x : Bat} (h : x ∈ l) : x.ps.length ≤ (l.map fun x => x.ps.length).sum := by
  induction l with
  | nil => cases h
  | cons y l ih =>
    rw [List.map_cons, List.sum_cons]
    rcases List.mem_cons.1 h with rfl | h
    · omega
    · have := ih h; omega
def bkL (l : List Bat) : Nat := (l.map fun x => x.ps.length).sum
/-- a number and batches -/
def RiLB : World → List Value → Int × List Bat → Prop := fun W vs x => ∃ v, vs = [.int .i64 x.1, v] ∧ rdS 2 oBat W v x.2
theorem oaiLB : OpensA Tryz.prog [3, 61] (Int × List Bat) RiLB (fun x => bkL x.2) := by
  refine OpensA.mono (oa_one (op_int ui) scI (fun w cs a h => ⟨_, h.1⟩) (oa_one (op_slice ulB (n := 2) (by kernel_rfl) op_bat) scLB (fun w cs a h => ⟨_, h.choose_spec.1⟩) oa_nil)) ?_
  rintro W vs ⟨n, l, ⟨⟩⟩ ⟨v, r, rfl, ⟨h1, _⟩, v2, r2, rfl, ⟨v', hv, hr, hl⟩, rfl⟩
  exact ⟨(n, l), ⟨v2, by rw [one_cell h1], by rw [one_cell hv]; exact hr⟩, by show bkL l ≤ 1 + ((bkL l + 1) + 0); omega⟩
end Go.Proofs.YtongpnolikkknaaGreatDoor

set_option maxRecDepth 20000
set_option maxHeartbeats 4000000
namespace Go.Proofs.YtongpnolikkknaaGreatDoor
open Sh RowKit Go.MapKept
/-- a device that is sure, its mark says no -/
structure Rdy (D : Dv) (L : List ByteArray) : Prop where
  fit : Fit D.A L
  mark : Mk D.A false
  pg : PgS D.A L
theorem open_rdy {D : Dv} {L : List ByteArray} (h : Rdy D L) : openB D (L.length : Nat) = (0, D, L) := open_no h.fit h.mark h.pg
theorem rdy_new {m N : Nat} (h1 : 1 ≤ m) (h2 : m ≤ 160) (h : 126 + 4 * m ≤ N) : Rdy (newD N) (List.replicate m (zs 256)) := ⟨new_fit m N h1 h2 h, new_mk N (by omega), new_pgs m N h⟩
theorem open_new {m N : Nat} (h1 : 1 ≤ m) (h2 : m ≤ 160) (h : 126 + 4 * m ≤ N) : openB (newD N) (m : Nat) = (0, newD N, List.replicate m (zs 256)) := by
  have := open_rdy (rdy_new h1 h2 h)
  rwa [List.length_replicate] at this
theorem commit_rdy {G : Pg} {D : Dv} {cs : List Ch} (h : Rdy D G.L) (hv : mayB G.st G.L.length cs = 0) (hne : cs ≠ []) (hh : D.c + 300 ≤ D.h) :
    ∃ D', commitB G D cs = (0, D', ⟨setL G.L cs, G.st, G.c + 1⟩) ∧ Rdy D' (setL G.L cs) ∧ D'.h = D.h ∧ D'.c = D.c + (8 * cs.length + 7 : Nat) ∧ AllS D'.A ∧ D'.A.length = D.A.length := by
  obtain ⟨h1, h2, h3, h4, h5, h6, h7⟩ := commit_two h.fit h.mark h.pg hv hne
  have e0 := h7 hh
  have hst := (mayB_ok hv).1
  have hv' := hv
  rw [hst] at hv'
  rcases h6 with ⟨_, q1, q2, q3, q4, q5⟩ | ⟨q, _⟩
  · refine ⟨(commitB G D cs).2.1, ?_, ⟨setL_fit h.fit hv' h4, q2, q3⟩, h1, q5, q4, h4⟩
    rw [← e0, ← q1]
  · rw [e0] at q; cases q
theorem ownE_lit {α : Type} {enc : α → List Value} {n B g : Nat} {e : TypeId} {w : World} {x : α} (hn : (enc x).length = n) (hB : B ≤ g) (h : w.heap[g]? = some (.cells (enc x).toArray e (0, 0))) : ownE B e n enc w (.slice (some ⟨g, 0, none⟩) 1 1) [x] :=
  ⟨by simp [hn], .inr ⟨g, 1, (enc x).toArray, rfl, hB, h, Nat.le_refl _, by unfold maxLen; omega, by simp [hn], by simp [← hn]⟩⟩
structure PgAt (B : Nat) (w : World) (q p b : Nat) (v u : Value) (G : Pg) (D : Dv) : Prop where
  dev : DevAt B w p v b D
  qB : B ≤ q
  hq : w.heap[q]? = some (.cells #[pv p, u, .bool G.st, .int .i64 G.c] 133 (0, 0))
  hu : ownV B 9 w u (G.L.map .string)
def fpP (q p b : Nat) (v u : Value) : Nat → Prop := fun k => k = q ∨ u.ownBlock = some k ∨ fpD p v b k
section
variable {B : Nat} {W w w' : World} {q p b : Nat} {v u : Value} {G : Pg} {D : Dv} {Q : Value → World → Prop}
theorem PgAt.below (h : PgAt B w q p b v u G D) (hb : Below w.heap.size w w') : PgAt B w' q p b v u G D := ⟨h.dev.below hb, h.qB, stay hb h.hq, ownV_below h.hu hb⟩
theorem PgAt.fpB (h : PgAt B w q p b v u G D) : ∀ k, fpP q p b v u k → B ≤ k := by
  rintro k (rfl | hk | hk)
  · exact h.qB
  · exact (ownV_lt h.hu k hk).1
  · exact fpD_B h.dev k hk
theorem PgAt.lt (h : PgAt B w q p b v u G D) : ∀ k, fpP q p b v u k → k < w.heap.size := by
  rintro k (rfl | hk | hk)
  · exact blk_lt h.hq
  · exact (ownV_lt h.hu k hk).2.1
  · exact h.dev.lt k hk
theorem PgAt.chg {S : Nat → Prop} (h : PgAt B w q p b v u G D) (hc : ChgS S w w') (hS : ∀ k, fpP q p b v u k → ¬ S k) : PgAt B w' q p b v u G D :=
  ⟨h.dev.chg hc fun k hk => hS k (.inr (.inr hk)), h.qB, hc.keep h.hq (hS q (.inl rfl)), ownV_chg h.hu hc fun g hg => hS g (.inr (.inl hg))⟩
theorem PgAt.bs {B0 : Nat} (h : PgAt B w q p b v u G D) (hc : ChgS (fpP q p b v u) w w') (h0 : B0 ≤ B) (hB : B0 ≤ w.heap.size) : Below B0 w w' := hc.below (fun k hk => Nat.le_trans h0 (h.fpB k hk)) hB
theorem commit_at {Bc : Nat} {lv : Value} {cs : List Ch} (h : PgAt B w q p b v u G D) (hcs : ownE Bc 48 2 encC w lv cs) (h0 : 0 ≤ D.c) (h1 : D.c + 300 ≤ 1000000) (hG0 : 0 ≤ G.c) (hG1 : G.c ≤ 1000000) (hL : G.L.length ≤ 1000)
    (kk : ∀ w', PgAt B w' q p b v u (commitB G D cs).2.2 (commitB G D cs).2.1 → ChgS (fpP q p b v u) w w' → Q (.int .i64 (commitB G D cs).1) w') : f44 (pv q) lv w Q :=
  f44_s h.dev h.hq h.hu hcs h0 h1 hG0 hG1 hL fun w' hd hq hu hc => kk w' ⟨hd, h.qB, hq, hu⟩ hc
/-- opened, without an error -/
theorem open_at {B0 : Nat} {n : Int} {D' : Dv} {L : List ByteArray} (hd : DevAt B w p v b D) (h0 : 0 ≤ D.c) (h1 : D.c + 200 ≤ 1000000) (hB0 : B0 ≤ B) (hBw : B0 ≤ w.heap.size) (e : openB D n = (0, D', L))
    (kk : ∀ w' q u, w.heap.size ≤ q → PgAt B0 w' q p b v u ⟨L, false, 0⟩ D' → DevAt B w' p v b D' → ownV w.heap.size 9 w' u (L.map .string) → ChgS (fpD p v b) w w' → Q (.tuple #[pv q, .int .i64 0]) w') : f40 (pv p) (.int .i64 n) w Q := by
  have e1 : (openB D n).1 = 0 := by rw [e]
  have e2 : (openB D n).2.1 = D' := by rw [e]
  have e3 : (openB D n).2.2 = L := by rw [e]
  refine f40_s hd h0 h1 (fun h => absurd e1 h) (fun _ w' q u hqw hq hu hd' hc => ?_)
  rw [e2] at hd'
  rw [e3] at hu
  refine kk w' q u hqw ⟨?_, Nat.le_trans hBw hqw, hq, ownV_weak hu hBw⟩ hd' hu hc
  obtain ⟨L', hm, hl⟩ := hd'.mp
  exact ⟨Nat.le_trans hB0 hd'.pB, Nat.le_trans hB0 hd'.bB, hd'.n, hd'.hp, ownE_weak hd'.own hB0, L', hm, hl⟩
theorem f35_s (kk : ∀ w', Below w.heap.size w w' → Q (.bool true) w') : f35 w Q := by
  unfold f35
  try simp only [↓reduceIte, ↓LL, LM, Value.cells, Nat.reduceAdd, Option.some.injEq, exists_eq_left', decide_true, decide_false, if_true, if_false, reduceCtorEq, cond_true, cond_false]
  refine f39_s ⟨by decide, by decide⟩ ?_
  try simp only [↓reduceIte, ↓LL, LM, Value.cells, Nat.reduceAdd, Option.some.injEq, exists_eq_left', decide_true, decide_false, if_true, if_false, reduceCtorEq, cond_true, cond_false]
  refine f38_s (B := w.heap.size) (126 + 4 * 3) (k := 138) (by decide) (Nat.le_refl _) fun w1 p v b pw bw hd hf b1 => ?_
  try simp only [↓reduceIte, ↓LL, LM, Value.cells, Nat.reduceAdd, Option.some.injEq, exists_eq_left', decide_true, decide_false, if_true, if_false, reduceCtorEq, cond_true, cond_false]
  have s1 := b1.size
  refine open_at (B0 := w.heap.size) (n := 3) hd (by decide) (by decide) (Nat.le_refl _) s1 (open_new (m := 3) (N := 138) (by decide) (by decide) (by decide)) fun w2 q u q2 h2 _ _ hc2 => ?_
  have b2 : Below w.heap.size w w2 := bs b1 (fpD_B hd) s1 hc2
  have s2 := b2.size
  try simp only [↓reduceIte, ↓LL, LM, Value.cells, Nat.reduceAdd, Option.some.injEq, exists_eq_left', decide_true, decide_false, if_true, if_false, reduceCtorEq, cond_true, cond_false, get0, get1]
  rw [pn_eq pt49]
  try simp only [↓reduceIte, ↓LL, LM, Value.cells, Nat.reduceAdd, Option.some.injEq, exists_eq_left', decide_true, decide_false, if_true, if_false, reduceCtorEq, cond_true, cond_false, Option.isNone]
  refine f80_s fun w3 b3 => ?_
  try simp only [↓reduceIte, ↓LL, LM, Value.cells, Nat.reduceAdd, Option.some.injEq, exists_eq_left', decide_true, decide_false, if_true, if_false, reduceCtorEq, cond_true, cond_false]
  rw [smr_run (buildC _ _ _)]
  have b03 := bt b2 b3
  have h3 := h2.below b3
  try simp only [↓reduceIte, ↓LL, LM, Value.cells, Nat.reduceAdd, Option.some.injEq, exists_eq_left', decide_true, decide_false, if_true, if_false, reduceCtorEq, cond_true, cond_false]
  refine bslE slC rfl (by decide) (by decide) rfl fun w4 k4 b4 => ?_
  have b04 := bt b03 b4
  have h4 := h3.below b4
  have s3 := b03.size
  try simp only [↓reduceIte, ↓LL, LM, Value.cells, Nat.reduceAdd, Option.some.injEq, exists_eq_left', decide_true, decide_false, if_true, if_false, reduceCtorEq, cond_true, cond_false]
  have hv : mayB false (List.replicate 3 (zs 256)).length [((1 : Int), fillB 7)] = 0 := by
    unfold mayB
    rw [if_neg (by decide), if_neg (by decide), if_neg (by rintro ⟨c, hc, h⟩; rw [List.mem_singleton.1 hc] at h; simp at h), if_neg]
    unfold oddL
    rw [decide_eq_true_iff]
    intro h
    refine h ⟨by simp, fun c hc => ?_⟩
    rw [List.mem_singleton.1 hc]
    exact fillB_size 7
  have hr := rdy_new (m := 3) (N := 138) (by decide) (by decide) (by decide)
  obtain ⟨D', e1, r1, e2, e3, _, e5⟩ := commit_rdy (G := ⟨List.replicate 3 (zs 256), false, 0⟩) hr hv (by simp) (by decide)
  refine commit_at h4 (ownE_lit rfl s3 k4) (by decide) (by decide) (by decide) (by decide) (by simp) fun w5 h5 hc5 => ?_
  rw [e1] at h5 ⊢
  have b05 := bs b04 h4.fpB b04.size hc5
  try simp only [↓reduceIte, ↓LL, LM, Value.cells, Nat.reduceAdd, Option.some.injEq, exists_eq_left', decide_true, decide_false, if_true, if_false, reduceCtorEq, cond_true, cond_false]
  have c5 : D'.c = 15 := by rw [e3]; rfl
  refine open_at (B0 := w.heap.size) (n := 3) (D := D') h5.dev (by omega) (by omega) (Nat.le_refl _) b05.size (open_rdy r1) fun w6 q' u' q6 h6 d6 _ hc6 => ?_
  have b06 := bs b05 (fpD_B h5.dev) b05.size hc6
  have h6' : PgAt w.heap.size w6 q p b v u _ D' := ⟨d6, h5.qB, pg_dev h5.dev h5.hq hc6, own_dev h5.dev h5.hu (by decide) (by decide) hc6⟩
  have er : pgR (setL (List.replicate 3 (zs 256)) [((1 : Int), fillB 7)]) 1 = (fillB 7, 0) := rfl
  try simp only [↓reduceIte, ↓LL, LM, Value.cells, Nat.reduceAdd, Option.some.injEq, exists_eq_left', decide_true, decide_false, if_true, if_false, reduceCtorEq, cond_true, cond_false, get0, get1]
  refine f78_s h6.hq h6.hu ?_
  rw [er]
  try simp only [↓reduceIte, ↓LL, LM, Value.cells, Nat.reduceAdd, Option.some.injEq, exists_eq_left', decide_true, decide_false, if_true, if_false, reduceCtorEq, cond_true, cond_false, get0, get1]
  refine f80_s fun w7 b7 => ?_
  try simp only [↓reduceIte, ↓LL, LM, Value.cells, Nat.reduceAdd, Option.some.injEq, exists_eq_left', decide_true, decide_false, if_true, if_false, reduceCtorEq, cond_true, cond_false]
  refine f50_s (h6'.below b7).hq ?_
  try simp only [↓reduceIte, ↓LL, LM, Value.cells, Nat.reduceAdd, Option.some.injEq, exists_eq_left', decide_true, decide_false, if_true, if_false, reduceCtorEq, cond_true, cond_false]
  refine f79_s (h6.below b7).hq (h6.below b7).hu ?_
  try simp only [↓reduceIte, ↓LL, LM, Value.cells, Nat.reduceAdd, Option.some.injEq, exists_eq_left', decide_true, decide_false, if_true, if_false, reduceCtorEq, cond_true, cond_false]
  exact kk w7 (bt b06 b7)
end
end Go.Proofs.YtongpnolikkknaaGreatDoor

set_option maxRecDepth 20000
set_option maxHeartbeats 4000000
namespace Go.Proofs.YtongpnolikkknaaGreatDoor
open Sh RowKit Go.MapKept
structure RfAt (B : Nat) (w : World) (r : Nat) (u : Value) (L : List ByteArray) : Prop where
  rB : B ≤ r
  hr : w.heap[r]? = some (.cells #[u] 102 (0, 0))
  hu : ownV B 9 w u (L.map .string)
def fpR (r : Nat) (u : Value) : Nat → Prop := fun k => k = r ∨ u.ownBlock = some k
def encT (s : ByteArray) : List Value := [.string s]
theorem encT_len (s : ByteArray) : (encT s).length = 1 := rfl
theorem encT_one (s : ByteArray) : ∀ x ∈ encT s, x.oneCell' = true := fun x hx => by rw [List.mem_singleton.1 hx]; rfl
theorem flat_T (l : List ByteArray) : l.flatMap encT = l.map .string := by
  induction l with
  | nil => rfl
  | cons a l ih => rw [List.flatMap_cons, ih]; rfl
theorem ownV_T {B : Nat} {e : TypeId} {w : World} {v : Value} {l : List ByteArray} (h : ownV B e w v (l.map .string)) : ownE B e 1 encT w v l := by
  unfold ownV at h
  unfold ownE
  rw [flat_T]
  rw [List.length_map] at h
  exact h
theorem ownT_V {B : Nat} {e : TypeId} {w : World} {v : Value} {l : List ByteArray} (h : ownE B e 1 encT w v l) : ownV B e w v (l.map .string) := by
  unfold ownV
  unfold ownE at h
  rw [flat_T] at h
  rw [List.length_map]
  exact h
theorem buildR0 (w : World) : (Instr.build 102 #[]).run Tryz.prog w = .ok (.agg #[.slice none 0 0]) w := by
  kernel_rfl
theorem buildR1 (p : Option Addr) (l c : Nat) (w : World) : (Instr.build 102 #[(0, .slice p l c)]).run Tryz.prog w = .ok (.agg #[.slice p l c]) w := by
  kernel_rfl
section
variable {B : Nat} {W w w' : World} {r : Nat} {u v : Value} {L : List ByteArray} {Q : Value → World → Prop}
theorem RfAt.below (h : RfAt B w r u L) (hb : Below w.heap.size w w') : RfAt B w' r u L := ⟨h.rB, stay hb h.hr, ownV_below h.hu hb⟩
theorem RfAt.chg {S : Nat → Prop} (h : RfAt B w r u L) (hc : ChgS S w w') (hS : ∀ k, fpR r u k → ¬ S k) : RfAt B w' r u L := ⟨h.rB, hc.keep h.hr (hS r (.inl rfl)), ownV_chg h.hu hc fun g hg => hS g (.inr hg)⟩
theorem RfAt.weak {B' : Nat} (h : RfAt B w r u L) (hB : B' ≤ B) : RfAt B' w r u L := ⟨Nat.le_trans hB h.rB, h.hr, ownV_weak h.hu hB⟩
theorem RfAt.c0 (h : RfAt B w r u L) : w.cell? ⟨r, 0, none⟩ = some u := by rw [cell_of_blk h.hr]; rfl
theorem RfAt.lnl (h : RfAt B w r u L) : ∀ (K : Value → M) (w1 : World) (Q : Value → World → Prop), lnl u K w1 Q = K (.int .i64 ((L.length : Nat) : Int)) w1 Q := by
  have := lnl_own h.hu
  rwa [List.length_map] at this
theorem f88_s (kk : ∀ w', Below w.heap.size w w' → Q (.string (zs 256)) w') : f88 w Q := by
  unfold f88
  refine mkI (n := 256) (B := w.heap.size) sl61 (by omega) (by omega) (Nat.le_refl _) fun v w1 ho hb => ?_
  try simp only [↓reduceIte, ↓LL, LM, Value.cells, Nat.reduceAdd, Option.some.injEq, exists_eq_left', decide_true, decide_false, if_true, if_false, reduceCtorEq, cond_true, cond_false]
  refine cvb sl61 ud5 str9 (rdP_rd (ownI_rdP ho)) ?_
  try simp only [↓reduceIte, ↓LL, LM, Value.cells, Nat.reduceAdd, Option.some.injEq, exists_eq_left', decide_true, decide_false, if_true, if_false, reduceCtorEq, cond_true, cond_false]
  exact kk w1 hb
theorem new6_loop {n : Nat} {j1 : Value → M} (hn : n ≤ 1000) (hrW : W.heap.size ≤ r) : ∀ (d m i : Nat) (w : World) (u : Value), i + d = n → d < m → Below W.heap.size W w → w.heap[r]? = some (.cells #[u] 102 (0, 0)) → ownV W.heap.size 9 w u ((List.replicate i (zs 256)).map .string) →
    (∀ w' u', Below W.heap.size W w' → w'.heap[r]? = some (.cells #[u'] 102 (0, 0)) → ownV W.heap.size 9 w' u' ((List.replicate n (zs 256)).map .string) → j1 (pv r) w' Q) →
    itr (fun _ _ _ => bot) (f41_b2 j1) m (.int .i64 ((n : Nat) : Int)) (pv r) (.int .i64 ((i : Nat) : Int)) w Q := by
  intro d
  induction d with
  | zero =>
    intro m i w u hi hm hb hr ho kk
    obtain ⟨m, rfl⟩ : ∃ x, m = x + 1 := ⟨m - 1, by omega⟩
    show f41_b2 j1 _ _ _ _ w Q
    unfold f41_b2
    have c : ¬ (i : Int) < (n : Nat) := by omega
    try simp only [↓reduceIte, ↓LL, LM, Value.cells, Nat.reduceAdd, Option.some.injEq, exists_eq_left', decide_true, decide_false, if_true, if_false, reduceCtorEq, cond_true, cond_false, c]
    have : i = n := by omega
    rw [this] at ho
    exact kk w u hb hr ho
  | succ d ih =>
    intro m i w u hi hm hb hr ho kk
    obtain ⟨m, rfl⟩ : ∃ x, m = x + 1 := ⟨m - 1, by omega⟩
    show f41_b2 j1 _ _ _ _ w Q
    unfold f41_b2
    have c : (i : Int) < (n : Nat) := by omega
    have h3 : IntKind.i64.wrap ((i : Int) + 1) = ((i + 1 : Nat) : Int) := by rw [w64 (by omega) (by omega)]; rfl
    have c0 : w.cell? ⟨r, 0, none⟩ = some u := by rw [cell_of_blk hr]; rfl
    try simp only [↓reduceIte, ↓LL, LM, Value.cells, Nat.reduceAdd, Option.some.injEq, exists_eq_left', decide_true, decide_false, if_true, if_false, reduceCtorEq, cond_true, cond_false, c, c0]
    refine f88_s fun w2 b2 => ?_
    have b2 := of_drw' b2
    have hr2 := stay b2 hr
    have hb2 := bt hb b2
    have ho2 := ownV_below ho b2
    have c2 : w2.cell? ⟨r, 0, none⟩ = some u := by rw [cell_of_blk hr2]; rfl
    try simp only [↓reduceIte, ↓LL, LM, Value.cells, Nat.reduceAdd, Option.some.injEq, exists_eq_left', decide_true, decide_false, if_true, if_false, reduceCtorEq, cond_true, cond_false]
    refine ⟨by rw [Kld_e]; exact c2, ?_⟩
    have b4 := b_psh w2 (.cells #[.string (zs 256)] 9)
    refine ap_Tk (by rw [Kld_e]; exact cell_below b4 c2) ho2 (by rw [List.length_replicate]; omega) hb2.size fun w5 u5 o5 hc5 fr5 => ?_
    have uT : ∀ g, u.ownBlock = some g → W.heap.size ≤ g ∧ g ≠ r := fun g hg => by
      obtain ⟨h1, _, cur, hcur⟩ := ownV_lt ho g hg
      exact ⟨h1, fun e => by rw [e, hr] at hcur; cases hcur⟩
    have hr5 := hc5.keep hr2 fun h => (uT r h).2 rfl
    have hb5 : Below W.heap.size W w5 := hb2.trans (hc5.below (fun k hk => (uT k hk).1) hb2.size)
    try simp only [↓reduceIte, ↓LL, LM, Value.cells, Nat.reduceAdd, Option.some.injEq, exists_eq_left', decide_true, decide_false, if_true, if_false, reduceCtorEq, cond_true, cond_false]
    refine st_box (o := 0) (v := u5) hr5 (show 0 < 1 by decide) (by obtain ⟨x, y, rfl⟩ := ownV_len o5; rfl) fun w6 hr6 u6 => ?_
    have hr6 : w6.heap[r]? = some (.cells #[u5] 102 (0, 0)) := hr6
    try simp only [↓reduceIte, ↓LL, LM, Value.cells, Nat.reduceAdd, Option.some.injEq, exists_eq_left', decide_true, decide_false, if_true, if_false, reduceCtorEq, cond_true, cond_false, h3]
    refine ih m (i + 1) w6 u5 (by omega) (by omega) (hb5.trans (u6.below hrW)) hr6 ?_ kk
    have e : List.replicate (i + 1) (zs 256) = List.replicate i (zs 256) ++ [zs 256] := List.replicate_succ'
    rw [e]
    exact ownV_stay o5 fun g hg => u6.block g fun e => by
      obtain ⟨_, _, cur, hcur⟩ := ownV_lt o5 g hg
      rw [e, hr5] at hcur; cases hcur
theorem f41_s {n : Nat} (hn : n ≤ 1000) (kk : ∀ w' r u, Below w.heap.size w w' → RfAt w.heap.size w' r u (List.replicate n (zs 256)) → Q (pv r) w') : f41 (.int .i64 ((n : Nat) : Int)) w Q := by
  unfold f41
  rw [smr_run (buildR0 w)]
  have b1 := b_psh w (.cells #[.slice none 0 0] 102)
  have r1 := blk_psh_new (w := w) (o := .cells #[.slice none 0 0] 102)
  try simp only [↓reduceIte, ↓LL, LM, Value.cells, Nat.reduceAdd, Option.some.injEq, exists_eq_left', decide_true, decide_false, if_true, if_false, reduceCtorEq, cond_true, cond_false]
  generalize psh w (.cells #[.slice none 0 0] 102) = w1 at *
  refine ⟨_, new6_loop (W := w) hn (Nat.le_refl _) n (n + 1) 0 w1 _ (by omega) (by omega) b1 r1 ownV_nil fun w2 u2 b2 r2 o2 => ?_⟩
  unfold f41_j1
  try simp only [↓reduceIte, ↓LL, LM, Value.cells, Nat.reduceAdd, Option.some.injEq, exists_eq_left', decide_true, decide_false, if_true, if_false, reduceCtorEq, cond_true, cond_false]
  exact kk w2 _ u2 b2 ⟨Nat.le_refl _, r2, o2⟩
/-- pages out of bounds? -/
theorem right_a {cs : List Ch} {j1 : Value → M} (hq : RfAt B W r u L) (hcs : rdS 2 (eR encC) W v cs) (hl : cs.length ≤ 31) (hL : L.length ≤ 1000000) : ∀ (d m i : Nat) (w : World), i + d = cs.length → d < m → Below W.heap.size W w → (∀ x ∈ cs.take i, 0 ≤ x.1 ∧ x.1 < (L.length : Int)) →
    (∀ w', Below W.heap.size W w' → (∃ c ∈ cs, c.1 < 0 ∨ (L.length : Int) ≤ c.1) → Q (.int .i64 7) w') → (∀ w', Below W.heap.size W w' → (∀ x ∈ cs, 0 ≤ x.1 ∧ x.1 < (L.length : Int)) → j1 v w' Q) →
    itr (fun _ _ _ => bot) (f45_b2 j1) m (pv r) v (.int .i64 ((i : Nat) : Int)) w Q := by
  intro d
  induction d with
  | zero =>
    intro m i w hi hm hb hall k7 kk
    obtain ⟨m, rfl⟩ : ∃ x, m = x + 1 := ⟨m - 1, by omega⟩
    show f45_b2 j1 _ _ _ _ w Q
    unfold f45_b2
    have lv := lnl_S hcs
    have cc : ¬ (i : Int) < (cs.length : Nat) := by omega
    try simp only [↓reduceIte, ↓LL, LM, Value.cells, Nat.reduceAdd, Option.some.injEq, exists_eq_left', decide_true, decide_false, if_true, if_false, reduceCtorEq, cond_true, cond_false, lv, cc]
    rw [List.take_of_length_le (by omega)] at hall
    exact kk w hb hall
  | succ d ih =>
    intro m i w hi hm hb hall k7 kk
    obtain ⟨m, rfl⟩ : ∃ x, m = x + 1 := ⟨m - 1, by omega⟩
    show f45_b2 j1 _ _ _ _ w Q
    unfold f45_b2
    have lv := lnl_S hcs
    have cc : (i : Int) < (cs.length : Nat) := by omega
    have hil : i < cs.length := by omega
    have h3 : IntKind.i64.wrap ((i : Int) + 1) = ((i + 1 : Nat) : Int) := by rw [w64 (by omega) (by omega)]; rfl
    obtain ⟨ad, es, he1, he2, he3, hia⟩ := rdS_at (rdS_below eR_st hb hcs) hil
    have he3 : es = encC cs[i] := he3
    have c0 : w.cell? (ad.add 0) = some (.int .i64 cs[i].1) := he2 0 _ (by rw [he3]; rfl)
    have hts : cs.take (i + 1) = cs.take i ++ [cs[i]] := List.take_succ_eq_append_getElem hil
    have hqw := hq.below hb
    have q0 := hqw.c0
    have lq := hqw.lnl
    have bd : Below W.heap.size W (drw w) := ⟨hb.os, hb.tape, hb.output, hb.size, hb.block⟩
    by_cases c1 : cs[i].1 < 0
    · try simp only [↓reduceIte, ↓LL, LM, Value.cells, Nat.reduceAdd, Option.some.injEq, exists_eq_left', decide_true, decide_false, if_true, if_false, reduceCtorEq, cond_true, cond_false, lv, cc, hia, c0, c1]
      exact k7 _ bd ⟨cs[i], List.getElem_mem hil, .inl c1⟩
    · by_cases c2 : (L.length : Int) ≤ cs[i].1
      · have c2' : cs[i].1 ≥ (L.length : Int) := c2
        try simp only [↓reduceIte, ↓LL, LM, Value.cells, Nat.reduceAdd, Option.some.injEq, exists_eq_left', decide_true, decide_false, if_true, if_false, reduceCtorEq, cond_true, cond_false, lv, cc, hia, c0, c1, q0, lq, c2, c2']
        exact k7 _ bd ⟨cs[i], List.getElem_mem hil, .inr c2⟩
      · have c2' : ¬ cs[i].1 ≥ (L.length : Int) := c2
        try simp only [↓reduceIte, ↓LL, LM, Value.cells, Nat.reduceAdd, Option.some.injEq, exists_eq_left', decide_true, decide_false, if_true, if_false, reduceCtorEq, cond_true, cond_false, lv, cc, hia, c0, c1, q0, lq, c2, c2', h3]
        refine ih m (i + 1) (drw w) (by omega) (by omega) bd (fun x hx => ?_) k7 kk
        rw [hts] at hx
        rcases List.mem_append.1 hx with hx | hx
        · exact hall x hx
        · rw [List.mem_singleton.1 hx]; omega
/-- one behind equal to another? -/
theorem right_c {cs : List Ch} {j5 : Value → Value → M} {i : Nat} (hcs : rdS 2 (eR encC) W v cs) (hl : cs.length ≤ 31) (hi : i < cs.length) : ∀ (d m k : Nat) (w : World), k + d = i → d < m → Below W.heap.size W w → ¬ cs[i].1 ∈ (cs.take k).map (·.1) →
    (∀ w', Below W.heap.size W w' → cs[i].1 ∈ (cs.take i).map (·.1) → Q (.int .i64 1) w') → (∀ w', Below W.heap.size W w' → ¬ cs[i].1 ∈ (cs.take i).map (·.1) → j5 v (.int .i64 ((i : Nat) : Int)) w' Q) →
    itr (fun _ _ _ => bot) (f45_b6 j5) m v (.int .i64 ((i : Nat) : Int)) (.int .i64 ((k : Nat) : Int)) w Q := by
  intro d
  induction d with
  | zero =>
    intro m k w hk hm hb hall k1 kk
    obtain ⟨m, rfl⟩ : ∃ x, m = x + 1 := ⟨m - 1, by omega⟩
    show f45_b6 j5 _ _ _ _ w Q
    unfold f45_b6
    have cc : ¬ (k : Int) < (i : Nat) := by omega
    try simp only [↓reduceIte, ↓LL, LM, Value.cells, Nat.reduceAdd, Option.some.injEq, exists_eq_left', decide_true, decide_false, if_true, if_false, reduceCtorEq, cond_true, cond_false, cc]
    have : k = i := by omega
    rw [this] at hall
    exact kk w hb hall
  | succ d ih =>
    intro m k w hk hm hb hall k1 kk
    obtain ⟨m, rfl⟩ : ∃ x, m = x + 1 := ⟨m - 1, by omega⟩
    show f45_b6 j5 _ _ _ _ w Q
    unfold f45_b6
    have cc : (k : Int) < (i : Nat) := by omega
    have hkl : k < cs.length := by omega
    have h3 : IntKind.i64.wrap ((k : Int) + 1) = ((k + 1 : Nat) : Int) := by rw [w64 (by omega) (by omega)]; rfl
    obtain ⟨ad, es, he1, he2, he3, hia⟩ := rdS_at (rdS_below eR_st hb hcs) hi
    obtain ⟨ad2, es2, hf1, hf2, hf3, hia2⟩ := rdS_at (rdS_below eR_st hb hcs) hkl
    have he3 : es = encC cs[i] := he3
    have hf3 : es2 = encC cs[k] := hf3
    have c0 : w.cell? (ad.add 0) = some (.int .i64 cs[i].1) := he2 0 _ (by rw [he3]; rfl)
    have c1 : w.cell? (ad2.add 0) = some (.int .i64 cs[k].1) := hf2 0 _ (by rw [hf3]; rfl)
    have hts : cs.take (k + 1) = cs.take k ++ [cs[k]] := List.take_succ_eq_append_getElem hkl
    have bd : Below W.heap.size W (drw w) := ⟨hb.os, hb.tape, hb.output, hb.size, hb.block⟩
    by_cases c2 : cs[i].1 = cs[k].1
    · try simp only [↓reduceIte, ↓LL, LM, Value.cells, Nat.reduceAdd, Option.some.injEq, exists_eq_left', decide_true, decide_false, if_true, if_false, reduceCtorEq, cond_true, cond_false, cc, hia, hia2, c0, c1, c2]
      refine k1 _ bd ?_
      rw [c2]
      exact List.mem_map.2 ⟨cs[k], List.mem_take_iff_getElem.2 ⟨k, by omega, rfl⟩, rfl⟩
    · try simp only [↓reduceIte, ↓LL, LM, Value.cells, Nat.reduceAdd, Option.some.injEq, exists_eq_left', decide_true, decide_false, if_true, if_false, reduceCtorEq, cond_true, cond_false, cc, hia, hia2, c0, c1, c2, h3]
      refine ih m (k + 1) (drw w) (by omega) (by omega) bd (fun hx => ?_) k1 kk
      rw [hts, List.map_append] at hx
      rcases List.mem_append.1 hx with hx | hx
      · exact hall hx
      · exact c2 (List.mem_singleton.1 hx)
theorem right_b {cs : List Ch} (hcs : rdS 2 (eR encC) W v cs) (hl : cs.length ≤ 31) (hrange : ∀ x ∈ cs, 0 ≤ x.1 ∧ x.1 < (L.length : Int)) : ∀ (d m i : Nat) (w : World), i + d = cs.length → d < m → Below W.heap.size W w → oddL (cs.take i) = false →
    (∀ w', Below W.heap.size W w' → Q (.int .i64 (mayB false L.length cs)) w') →
    itr (fun _ _ => bot) (f45_b4 f45_j3) m v (.int .i64 ((i : Nat) : Int)) w Q := by
  have e0 : mayB false L.length cs = if oddL cs = true then 1 else 0 := by
    unfold mayB
    rw [if_neg (by decide), if_neg (by omega), if_neg (fun ⟨x, hx, h⟩ => by have := hrange x hx; omega)]
  intro d
  induction d with
  | zero =>
    intro m i w hi hm hb hodd kk
    obtain ⟨m, rfl⟩ : ∃ x, m = x + 1 := ⟨m - 1, by omega⟩
    show f45_b4 f45_j3 _ _ _ w Q
    unfold f45_b4
    have lv := lnl_S hcs
    have cc : ¬ (i : Int) < (cs.length : Nat) := by omega
    try simp only [↓reduceIte, ↓LL, LM, Value.cells, Nat.reduceAdd, Option.some.injEq, exists_eq_left', decide_true, decide_false, if_true, if_false, reduceCtorEq, cond_true, cond_false, lv, cc]
    unfold f45_j3
    rw [List.take_of_length_le (by omega)] at hodd
    rw [hodd, if_neg (by decide)] at e0
    rw [e0] at kk
    try simp only [↓reduceIte, ↓LL, LM, Value.cells, Nat.reduceAdd, Option.some.injEq, exists_eq_left', decide_true, decide_false, if_true, if_false, reduceCtorEq, cond_true, cond_false]
    exact kk w hb
  | succ d ih =>
    intro m i w hi hm hb hodd kk
    obtain ⟨m, rfl⟩ : ∃ x, m = x + 1 := ⟨m - 1, by omega⟩
    show f45_b4 f45_j3 _ _ _ w Q
    unfold f45_b4
    have lv := lnl_S hcs
    have cc : (i : Int) < (cs.length : Nat) := by omega
    have hil : i < cs.length := by omega
    have h3 : IntKind.i64.wrap ((i : Int) + 1) = ((i + 1 : Nat) : Int) := by rw [w64 (by omega) (by omega)]; rfl
    obtain ⟨ad, es, he1, he2, he3, hia⟩ := rdS_at (rdS_below eR_st hb hcs) hil
    have he3 : es = encC cs[i] := he3
    have c0 : w.cell? (ad.add 1) = some (.string cs[i].2) := he2 1 _ (by rw [he3]; rfl)
    have hts : cs.take (i + 1) = cs.take i ++ [cs[i]] := List.take_succ_eq_append_getElem hil
    have odd1 : (cs[i].1 ∈ (cs.take i).map (·.1) ∨ cs[i].2.size ≠ 256) → oddL cs = true := by
      intro h
      unfold oddL
      refine decide_eq_true fun ⟨q1, q2⟩ => ?_
      rcases h with h | h
      · have : ((cs.take (i + 1)).map (·.1)).Nodup := by rw [List.map_take]; exact q1.sublist (List.take_sublist _ _)
        rw [hts, List.map_append, List.nodup_append] at this
        exact this.2.2 _ h _ (List.mem_singleton.2 rfl) rfl
      · exact h (q2 _ (List.getElem_mem hil))
    by_cases c1 : cs[i].2.size = 256
    · have c1' : ((cs[i].2.size : Nat) : Int) = 256 := by omega
      try simp only [↓reduceIte, ↓LL, LM, Value.cells, Nat.reduceAdd, Option.some.injEq, exists_eq_left', decide_true, decide_false, if_true, if_false, reduceCtorEq, cond_true, cond_false, lv, cc, hia, c0, c1', ne_eq]
      refine ⟨_, right_c (j5 := f45_j5 (itr (fun _ _ => bot) (f45_b4 f45_j3) m)) hcs hl hil i (i + 1) 0 w (by omega) (by omega) hb (by simp) (fun w' hb' hx => ?_) (fun w' hb' hx => ?_)⟩
      · rw [odd1 (.inl hx), if_pos rfl] at e0
        rw [e0] at kk
        exact kk w' hb'
      · unfold f45_j5
        try simp only [↓reduceIte, ↓LL, LM, Value.cells, Nat.reduceAdd, Option.some.injEq, exists_eq_left', decide_true, decide_false, if_true, if_false, reduceCtorEq, cond_true, cond_false, h3]
        refine ih m (i + 1) w' (by omega) (by omega) hb' ?_ kk
        rw [hts, oddL_snoc, hodd, decide_eq_false hx, decide_eq_false (fun h => h c1)]; rfl
    · have c1' : ¬ ((cs[i].2.size : Nat) : Int) = 256 := by omega
      try simp only [↓reduceIte, ↓LL, LM, Value.cells, Nat.reduceAdd, Option.some.injEq, exists_eq_left', decide_true, decide_false, if_true, if_false, reduceCtorEq, cond_true, cond_false, lv, cc, hia, c0, c1', ne_eq]
      rw [odd1 (.inr c1), if_pos rfl] at e0
      rw [e0] at kk
      exact kk w hb
theorem f45_s {cs : List Ch} (hq : RfAt B w r u L) (hcs : rdS 2 (eR encC) w v cs) (hL : L.length ≤ 1000000) (kk : ∀ w', Below w.heap.size w w' → Q (.int .i64 (mayB false L.length cs)) w') : f45 (pv r) v w Q := by
  unfold f45
  have lv := lnl_S hcs
  by_cases c : 31 < cs.length
  · have c1 : ((cs.length : Nat) : Int) > 31 := by omega
    have c2 : (31 : Int) < ((cs.length : Nat) : Int) := by omega
    have e : mayB false L.length cs = 3 := by unfold mayB; rw [if_neg (by decide), if_pos c]
    rw [e] at kk
    try simp only [↓reduceIte, ↓LL, LM, Value.cells, Nat.reduceAdd, Option.some.injEq, exists_eq_left', decide_true, decide_false, if_true, if_false, reduceCtorEq, cond_true, cond_false, lv, c1, c2]
    exact kk w (Below.refl _ _)
  · have c1 : ¬ ((cs.length : Nat) : Int) > 31 := by omega
    have c2 : ¬ (31 : Int) < ((cs.length : Nat) : Int) := by omega
    try simp only [↓reduceIte, ↓LL, LM, Value.cells, Nat.reduceAdd, Option.some.injEq, exists_eq_left', decide_true, decide_false, if_true, if_false, reduceCtorEq, cond_true, cond_false, lv, c1, c2]
    refine ⟨_, right_a (W := w) hq hcs (by omega) hL cs.length (cs.length + 1) 0 w (by omega) (by omega) (Below.refl _ _) (fun x hx => by simp at hx) (fun w' hb' hx => ?_) (fun w' hb' hx => ?_)⟩
    · have e : mayB false L.length cs = 7 := by unfold mayB; rw [if_neg (by decide), if_neg (by omega), if_pos hx]
      rw [e] at kk
      exact kk w' hb'
    · unfold f45_j1
      try simp only [↓reduceIte, ↓LL, LM, Value.cells, Nat.reduceAdd, Option.some.injEq, exists_eq_left', decide_true, decide_false, if_true, if_false, reduceCtorEq, cond_true, cond_false]
      exact ⟨_, right_b (W := w) (L := L) hcs (by omega) hx cs.length (cs.length + 1) 0 w' (by omega) (by omega) hb' rfl kk⟩
end
end Go.Proofs.YtongpnolikkknaaGreatDoor

set_option maxRecDepth 20000
set_option maxHeartbeats 4000000
namespace Go.Proofs.YtongpnolikkknaaGreatDoor
open Sh RowKit Go.MapKept
def callsN (n : Nat) : Int := if n = 0 then 0 else 8 * (n : Int) + 7
def pagesN (n : Int) : Nat := 1 + (um n 40).toNat
theorem pagesN_bd (n : Int) : 1 ≤ pagesN n ∧ pagesN n ≤ 40 := by
  have := um_bd n (show (0 : Int) < 40 by decide)
  unfold pagesN
  omega
theorem take_eq_of {l m : List ByteArray} {i : Nat} (h : l.take i = m.take i) (hl : i < l.length) (hm : i < m.length) (he : l[i] = m[i]) : l.take (i + 1) = m.take (i + 1) := by
  rw [List.take_succ_eq_append_getElem hl, List.take_succ_eq_append_getElem hm, h, he]
section
variable {B Bc : Nat} {W w w' : World} {q p b r : Nat} {v u vp : Value} {L : List ByteArray} {G : Pg} {D : Dv} {Q : Value → World → Prop}
theorem with_loop {cs : List Ch} {j1 : Value → M} (hr : RfAt W.heap.size w r u L) (hcs : rdS 2 (eR encC) W v cs) (hW : Below W.heap.size W w) (hl : cs.length ≤ 31) (hbd : ∀ x ∈ cs, 0 ≤ x.1 ∧ x.1 < (L.length : Int)) :
    ∀ (d m i : Nat) (w1 : World), i + d = cs.length → d < m → ChgS (fun k => u.ownBlock = some k) w w1 → ownV W.heap.size 9 w1 u ((setL L (cs.take i)).map .string) →
    (∀ w', ChgS (fun k => u.ownBlock = some k) w w' → ownV W.heap.size 9 w' u ((setL L cs).map .string) → j1 (pv r) w' Q) →
    itr (fun _ _ _ => bot) (f46_b2 j1) m v (pv r) (.int .i64 ((i : Nat) : Int)) w1 Q := by
  have uT : ∀ g, u.ownBlock = some g → W.heap.size ≤ g ∧ g ≠ r := fun g hg => by
    obtain ⟨h1, _, cur, hcur⟩ := ownV_lt hr.hu g hg
    exact ⟨h1, fun e => by rw [e, hr.hr] at hcur; cases hcur⟩
  intro d
  induction d with
  | zero =>
    intro m i w1 hi hm hc ho kk
    obtain ⟨m, rfl⟩ : ∃ x, m = x + 1 := ⟨m - 1, by omega⟩
    show f46_b2 j1 _ _ _ _ w1 Q
    unfold f46_b2
    have lv := lnl_S hcs
    have cc : ¬ (i : Int) < (cs.length : Nat) := by omega
    try simp only [↓reduceIte, ↓LL, LM, Value.cells, Nat.reduceAdd, Option.some.injEq, exists_eq_left', decide_true, decide_false, if_true, if_false, reduceCtorEq, cond_true, cond_false, lv, cc]
    rw [List.take_of_length_le (by omega)] at ho
    exact kk w1 hc ho
  | succ d ih =>
    intro m i w1 hi hm hc ho kk
    obtain ⟨m, rfl⟩ : ∃ x, m = x + 1 := ⟨m - 1, by omega⟩
    show f46_b2 j1 _ _ _ _ w1 Q
    unfold f46_b2
    have lv := lnl_S hcs
    have cc : (i : Int) < (cs.length : Nat) := by omega
    have hil : i < cs.length := by omega
    have h3 : IntKind.i64.wrap ((i : Int) + 1) = ((i + 1 : Nat) : Int) := by rw [w64 (by omega) (by omega)]; rfl
    have hb1 : Below W.heap.size W w1 := hW.trans (hc.below (fun k hk => (uT k hk).1) hW.size)
    obtain ⟨ad, es, he1, he2, he3, hia⟩ := rdS_at (rdS_below eR_st hb1 hcs) hil
    have he3 : es = encC cs[i] := he3
    have c0 : w1.cell? (ad.add 0) = some (.int .i64 cs[i].1) := he2 0 _ (by rw [he3]; rfl)
    have c1 : w1.cell? (ad.add 1) = some (.string cs[i].2) := he2 1 _ (by rw [he3]; rfl)
    have hts : cs.take (i + 1) = cs.take i ++ [cs[i]] := List.take_succ_eq_append_getElem hil
    obtain ⟨n0, n1⟩ := hbd _ (List.getElem_mem hil)
    generalize cs[i] = x at *
    obtain ⟨n, s⟩ := x
    obtain ⟨n, rfl⟩ := Int.eq_ofNat_of_zero_le n0
    have n1 : ((n : Nat) : Int) < (L.length : Int) := n1
    have hr1 := hc.keep hr.hr fun h => (uT r h).2 rfl
    have q0 : w1.cell? ⟨r, 0, none⟩ = some u := by rw [cell_of_blk hr1]; rfl
    try simp only [↓reduceIte, ↓LL, LM, Value.cells, Nat.reduceAdd, Option.some.injEq, exists_eq_left', decide_true, decide_false, if_true, if_false, reduceCtorEq, cond_true, cond_false, lv, cc, hia, c0, c1, q0]
    refine ia_stV (w := drw w1) (show ownV W.heap.size 9 (drw w1) u _ from ho) (i := n) (by rw [List.length_map, setL_len]; omega) rfl fun w3 g3 hg3 o3 up3 => ?_
    have es3 : ((setL L (cs.take i)).map Value.string).set n (.string s) = (setL L (cs.take (i + 1))).map .string := by rw [hts, setL_snoc, List.map_set]; rfl
    rw [es3] at o3
    try simp only [↓reduceIte, ↓LL, LM, Value.cells, Nat.reduceAdd, Option.some.injEq, exists_eq_left', decide_true, decide_false, if_true, if_false, reduceCtorEq, cond_true, cond_false, h3]
    exact ih m (i + 1) w3 (by omega) (by omega) (hc.drw.trans (ChgS.of_upd up3 hg3) fun _ _ h => h) o3 kk
theorem f46_s {cs : List Ch} (hq : RfAt B w r u L) (hcs : rdS 2 (eR encC) w v cs) (hl : cs.length ≤ 31) (hbd : ∀ x ∈ cs, 0 ≤ x.1 ∧ x.1 < (L.length : Int)) (hL : L.length ≤ 1000)
    (kk : ∀ w' r' u', Below w.heap.size w w' → RfAt w.heap.size w' r' u' (setL L cs) → Q (pv r') w') : f46 (pv r) v w Q := by
  unfold f46
  have c0 := hq.c0
  try simp only [↓reduceIte, ↓LL, LM, Value.cells, Nat.reduceAdd, Option.some.injEq, exists_eq_left', decide_true, decide_false, if_true, if_false, reduceCtorEq, cond_true, cond_false, c0]
  refine ap_E (B := w.heap.size) (l := []) (m := L) slS rfl (by decide) encT_len encT_one ownE_nil (ownE_rd encT_len (by decide) (ownV_T hq.hu)) (by rw [List.length_nil]; unfold maxLen; omega) (by rw [List.length_nil]; omega) (Nat.le_refl _) fun v2 w2 o2 g2 f2 => ?_
  have hc2 : ChgS (fun _ => False) w w2 := ChgS.grown g2 fun k hk => by cases hk
  have b2 : Below w.heap.size w w2 := hc2.below (fun k hk => hk.elim) (Nat.le_refl _)
  have o2 : ownV w.heap.size 9 w2 v2 (L.map .string) := ownT_V o2
  have ow := o2
  obtain ⟨pp, cc, rfl⟩ := ownV_len o2
  try simp only [↓reduceIte, ↓LL, LM, Value.cells, Nat.reduceAdd, Option.some.injEq, exists_eq_left', decide_true, decide_false, if_true, if_false, reduceCtorEq, cond_true, cond_false]
  rw [smr_run (buildR1 _ _ _ w2)]
  have b3 := b_psh w2 (.cells #[.slice pp (L.map Value.string).length cc] 102)
  have r3 := blk_psh_new (w := w2) (o := .cells #[.slice pp (L.map Value.string).length cc] 102)
  have o3 := ownV_below o2 b3
  have b03 := bt b2 b3
  try simp only [↓reduceIte, ↓LL, LM, Value.cells, Nat.reduceAdd, Option.some.injEq, exists_eq_left', decide_true, decide_false, if_true, if_false, reduceCtorEq, cond_true, cond_false]
  generalize psh w2 (.cells #[.slice pp (L.map Value.string).length cc] 102) = w3 at *
  have s2 := b2.size
  refine ⟨_, with_loop (W := w) (w := w3) ⟨s2, r3, o3⟩ hcs b03 hl hbd cs.length (cs.length + 1) 0 w3 (by omega) (by omega) (ChgS.refl _ _) o3 fun w4 hc4 o4 => ?_⟩
  have uT : ∀ g, (Value.slice pp (L.map Value.string).length cc).ownBlock = some g → w.heap.size ≤ g ∧ g ≠ w2.heap.size := fun g hg => by
    obtain ⟨h1, _, cur, hcur⟩ := ownV_lt o3 g hg
    exact ⟨h1, fun e => by rw [e, r3] at hcur; cases hcur⟩
  unfold f46_j1
  try simp only [↓reduceIte, ↓LL, LM, Value.cells, Nat.reduceAdd, Option.some.injEq, exists_eq_left', decide_true, decide_false, if_true, if_false, reduceCtorEq, cond_true, cond_false]
  exact kk w4 _ _ (b03.trans (hc4.below (fun k hk => (uT k hk).1) b03.size)) ⟨s2, hc4.keep r3 fun h => (uT _ h).2 rfl, o4⟩
theorem f47_s {n : Nat} (hn : n ≤ 31) (kk : Q (.int .i64 (callsN n)) w) : f47 (.int .i64 ((n : Nat) : Int)) w Q := by
  unfold f47
  unfold callsN at kk
  by_cases c : n = 0
  · subst c
    rw [if_pos rfl] at kk
    have c0 : ((0 : Nat) : Int) = 0 := rfl
    try simp only [↓reduceIte, ↓LL, LM, Value.cells, Nat.reduceAdd, Option.some.injEq, exists_eq_left', decide_true, decide_false, if_true, if_false, reduceCtorEq, cond_true, cond_false, c0]
    exact kk
  · rw [if_neg c] at kk
    have c0 : ¬ ((n : Nat) : Int) = 0 := by omega
    have m1 : IntKind.i64.wrap (4 * (n : Int)) = 4 * (n : Int) := w64 (by omega) (by omega)
    have m2 : IntKind.i64.wrap (1 + 4 * (n : Int)) = 1 + 4 * (n : Int) := w64 (by omega) (by omega)
    have m3 : IntKind.i64.wrap (1 + 4 * (n : Int) + 1) = 1 + 4 * (n : Int) + 1 := w64 (by omega) (by omega)
    have m4 : IntKind.i64.wrap (1 + 4 * (n : Int) + 1 + 2) = 1 + 4 * (n : Int) + 1 + 2 := w64 (by omega) (by omega)
    have m5 : IntKind.i64.wrap (1 + 4 * (n : Int) + 1 + 2 + 4 * (n : Int)) = 1 + 4 * (n : Int) + 1 + 2 + 4 * (n : Int) := w64 (by omega) (by omega)
    have m6 : IntKind.i64.wrap (1 + 4 * (n : Int) + 1 + 2 + 4 * (n : Int) + 1) = 1 + 4 * (n : Int) + 1 + 2 + 4 * (n : Int) + 1 := w64 (by omega) (by omega)
    have m7 : IntKind.i64.wrap (1 + 4 * (n : Int) + 1 + 2 + 4 * (n : Int) + 1 + 2) = 8 * (n : Int) + 7 := by rw [w64 (by omega) (by omega)]; omega
    try simp only [↓reduceIte, ↓LL, LM, Value.cells, Nat.reduceAdd, Option.some.injEq, exists_eq_left', decide_true, decide_false, if_true, if_false, reduceCtorEq, cond_true, cond_false, c0, m1, m2, m3, m4, m5, m6, m7]
    exact kk
theorem same_loop (hp : w.heap[q]? = some (.cells #[pv p, u, .bool G.st, .int .i64 G.c] 133 (0, 0))) (hu : ownV B 9 w u (G.L.map .string)) (hr : RfAt Bc w r v L) (hlen : G.L.length = L.length) (hL : L.length ≤ 1000) :
    ∀ (d m i : Nat), i + d = L.length → d < m → G.L.take i = L.take i → Q (.bool (decide (G.L = L))) w →
    itr (fun _ _ _ => bot) (f49_b2 f49_j1) m (pv q) (pv r) (.int .i64 ((i : Nat) : Int)) w Q := by
  intro d
  induction d with
  | zero =>
    intro m i hi hm ht kk
    obtain ⟨m, rfl⟩ : ∃ x, m = x + 1 := ⟨m - 1, by omega⟩
    show f49_b2 f49_j1 _ _ _ _ w Q
    unfold f49_b2
    have q0 := hr.c0
    have lr := hr.lnl
    have cc : ¬ (i : Int) < (L.length : Nat) := by omega
    try simp only [↓reduceIte, ↓LL, LM, Value.cells, Nat.reduceAdd, Option.some.injEq, exists_eq_left', decide_true, decide_false, if_true, if_false, reduceCtorEq, cond_true, cond_false, q0, lr, cc]
    unfold f49_j1
    try simp only [↓reduceIte, ↓LL, LM, Value.cells, Nat.reduceAdd, Option.some.injEq, exists_eq_left', decide_true, decide_false, if_true, if_false, reduceCtorEq, cond_true, cond_false]
    have : G.L = L := by
      rw [List.take_of_length_le (by omega), List.take_of_length_le (by omega)] at ht
      exact ht
    rw [decide_eq_true this] at kk
    exact kk
  | succ d ih =>
    intro m i hi hm ht kk
    obtain ⟨m, rfl⟩ : ∃ x, m = x + 1 := ⟨m - 1, by omega⟩
    show f49_b2 f49_j1 _ _ _ _ w Q
    unfold f49_b2
    have q0 := hr.c0
    have lr := hr.lnl
    have cc : (i : Int) < (L.length : Nat) := by omega
    have hil : i < L.length := by omega
    have hig : i < G.L.length := by omega
    have h3 : IntKind.i64.wrap ((i : Int) + 1) = ((i + 1 : Nat) : Int) := by rw [w64 (by omega) (by omega)]; rfl
    obtain ⟨g, hia, hc, _⟩ := cell_V hr.hu (i := i) (by rw [List.length_map]; exact hil)
    rw [List.getElem_map] at hc
    have ep : pgR G.L ((i : Nat) : Int) = (G.L[i], 0) := by
      unfold pgR
      rw [if_pos (by omega), Int.toNat_natCast, List.getD_eq_getElem?_getD, List.getElem?_eq_getElem hig]; rfl
    try simp only [↓reduceIte, ↓LL, LM, Value.cells, Nat.reduceAdd, Option.some.injEq, exists_eq_left', decide_true, decide_false, if_true, if_false, reduceCtorEq, cond_true, cond_false, q0, lr, cc]
    refine f78_s hp hu ?_
    rw [ep]
    by_cases c : G.L[i] = L[i]
    · try simp only [↓reduceIte, ↓LL, LM, Value.cells, Nat.reduceAdd, Option.some.injEq, exists_eq_left', decide_true, decide_false, if_true, if_false, reduceCtorEq, cond_true, cond_false, get0, get1, ne_eq, q0, hia, hc, c, h3]
      exact ih m (i + 1) (by omega) (by omega) (take_eq_of ht hig hil c) kk
    · have : ¬ G.L = L := by
        intro e
        exact c (by simp [e])
      rw [decide_eq_false this] at kk
      try simp only [↓reduceIte, ↓LL, LM, Value.cells, Nat.reduceAdd, Option.some.injEq, exists_eq_left', decide_true, decide_false, if_true, if_false, reduceCtorEq, cond_true, cond_false, get0, get1, ne_eq, q0, hia, hc, c]
      exact kk
theorem f49_s (hp : w.heap[q]? = some (.cells #[pv p, u, .bool G.st, .int .i64 G.c] 133 (0, 0))) (hu : ownV B 9 w u (G.L.map .string)) (hr : RfAt Bc w r v L) (hL : L.length ≤ 1000) (kk : ∀ w', Below w.heap.size w w' → Q (.bool (decide (G.L = L))) w') : f49 (pv q) (pv r) w Q := by
  unfold f49
  have bd : Below w.heap.size w (drw w) := ⟨rfl, rfl, rfl, Nat.le_refl _, fun _ _ => rfl⟩
  have hr' : RfAt Bc (drw w) r v L := hr.below bd
  have hp' : (drw w).heap[q]? = some (.cells #[pv p, u, .bool G.st, .int .i64 G.c] 133 (0, 0)) := hp
  have hu' : ownV B 9 (drw w) u (G.L.map .string) := hu
  have q0 := hr'.c0
  have q0' := hr.c0
  have lr := hr'.lnl
  try simp only [↓reduceIte, ↓LL, LM, Value.cells, Nat.reduceAdd, Option.some.injEq, exists_eq_left', decide_true, decide_false, if_true, if_false, reduceCtorEq, cond_true, cond_false, q0, q0', lr]
  refine f79_s hp' hu' ?_
  try simp only [↓reduceIte, ↓LL, LM, Value.cells, Nat.reduceAdd, Option.some.injEq, exists_eq_left', decide_true, decide_false, if_true, if_false, reduceCtorEq, cond_true, cond_false]
  refine ⟨by rw [Kld_e]; exact q0, ?_⟩
  by_cases c : G.L.length = L.length
  · have c1 : ((G.L.length : Nat) : Int) = (L.length : Int) := by omega
    try simp only [↓reduceIte, ↓LL, LM, Value.cells, Nat.reduceAdd, Option.some.injEq, exists_eq_left', decide_true, decide_false, if_true, if_false, reduceCtorEq, cond_true, cond_false, ne_eq, c1]
    exact ⟨_, same_loop hp' hu' hr' c hL L.length (L.length + 1) 0 (by omega) (by omega) rfl (kk _ bd)⟩
  · have c1 : ¬ ((G.L.length : Nat) : Int) = (L.length : Int) := by omega
    have := kk _ bd
    rw [decide_eq_false (fun e => c (by rw [e]))] at this
    try simp only [↓reduceIte, ↓LL, LM, Value.cells, Nat.reduceAdd, Option.some.injEq, exists_eq_left', decide_true, decide_false, if_true, if_false, reduceCtorEq, cond_true, cond_false, ne_eq, c1]
    exact this
theorem f36_s {n : Int} (kk : Q (.int .i64 ((pagesN n : Nat) : Int)) w) : f36 (.int .i64 n) w Q := by
  unfold f36
  have h := um_bd n (show (0 : Int) < 40 by decide)
  have e1 : (IntKind.u64.wrap n).tmod 40 = um n 40 := rfl
  have e2 : IntKind.i64.wrap (um n 40) = um n 40 := w64 (by omega) (by omega)
  have e3 : IntKind.i64.wrap (1 + um n 40) = ((pagesN n : Nat) : Int) := by rw [w64 (by omega) (by omega)]; unfold pagesN; omega
  have z : ¬ (40 : Int) = 0 := by decide
  try simp only [↓reduceIte, ↓LL, LM, Value.cells, Nat.reduceAdd, Option.some.injEq, exists_eq_left', decide_true, decide_false, if_true, if_false, reduceCtorEq, cond_true, cond_false, e1, e2, e3, z]
  first
    | exact kk
    | exact ⟨by decide, kk⟩
    | skip
  try simp only [↓reduceIte, ↓LL, LM, Value.cells, Nat.reduceAdd, Option.some.injEq, exists_eq_left', decide_true, decide_false, if_true, if_false, reduceCtorEq, cond_true, cond_false, e1, e2, e3, z]
  try exact kk
theorem f37_s {α : Type} {R : RepT α} {l : List α} (h : rdS 2 R w v l) (kk : ∀ v', rdS 2 R w v' (l.take 30) → Q v' w) : f37 v w Q := by
  unfold f37
  have lv := lnl_S h
  have e : (if (30 : Int) < ((l.length : Nat) : Int) then (30 : Int) else ((l.length : Nat) : Int)) = ((min l.length 30 : Nat) : Int) := by split <;> omega
  try simp only [↓reduceIte, ↓LL, LM, Value.cells, Nat.reduceAdd, Option.some.injEq, exists_eq_left', decide_true, decide_false, if_true, if_false, reduceCtorEq, cond_true, cond_false, lv, e]
  refine sll_S h (k := min l.length 30) (by omega) fun v' hv' => ?_
  try simp only [↓reduceIte, ↓LL, LM, Value.cells, Nat.reduceAdd, Option.some.injEq, exists_eq_left', decide_true, decide_false, if_true, if_false, reduceCtorEq, cond_true, cond_false]
  refine kk v' ?_
  have : l.take (min l.length 30) = l.take 30 := by
    rcases Nat.le_total l.length 30 with c | c
    · rw [Nat.min_eq_left c, List.take_of_length_le (Nat.le_refl _), List.take_of_length_le c]
    · rw [Nat.min_eq_right c]
  rw [← this]
  exact hv'
end
end Go.Proofs.YtongpnolikkknaaGreatDoor

set_option maxRecDepth 20000
set_option maxHeartbeats 4000000
namespace Go.Proofs.YtongpnolikkknaaGreatDoor
open Sh RowKit Go.MapKept
theorem nd0 (k : Nat) : 0 ≤ (newD k).c := Int.le_refl 0
theorem nd1 (k : Nat) : (newD k).c + 200 ≤ 1000000 := by show (0 + 200 : Int) ≤ 1000000; decide
def anyG (m : Nat) (l : List Int) (f0 : Int) : Int := if l.any (fun x => decide ((m : Int) ≤ x)) = true then 10 else f0
section
variable {B : Nat} {W w w' : World} {q p b : Nat} {v u : Value} {D : Dv} {Q : Value → World → Prop}
end
end Go.Proofs.YtongpnolikkknaaGreatDoor

/-
  DERIVED: THE SHELF's CONTRACTS AT THIS DUMP, IN PLAIN WORDS (tools/lay-plain.mjs out of 'TryzKeptZ.lean', which tools/lay-shelf.mjs wrote): THE SAME DECLARATIONS UNDER THE SAME NAMES: 'import', 'namespace', 'open', 'def', 'theorem' AND NOTHING ELSE: no command of the shelf's: FOR A HAND-IN. Each laying: the table of numbers ('.._ren') and one theorem, a field a fact of the dump's own or the kernel's comparison; each contract: ONE APPLICATION.
-/
namespace Go.Proofs
open Go.Shelf
def YtongpnolikkknaaGreatDoor.keysA_ren : Go.Shelf.Ren := ⟨fun | 7 => 93 | 10 => 122 | n => n, fun | 23 => 128 | 26 => 3 | 3 => 145 | 28 => 142 | 0 => 0 | 27 => 141 | 33 => 60 | 4 => 4 | n => n, fun | n => n⟩
theorem YtongpnolikkknaaGreatDoor.keysA : Go.Proofs.SlLaysZI.n7 Tryz.prog YtongpnolikkknaaGreatDoor.keysA_ren := {
  mixed := by kernel_rfl
  f7 := ⟨Tryz.f93.name, by decide, Tryz.func93.trans (congrArg some (by kernel_rfl))⟩
  f10 := ⟨Tryz.f122.name, by decide, Tryz.func122.trans (congrArg some (by kernel_rfl))⟩
  t0 := Tryz.underlying0
  a0 := Tryz.isAgg0
  z0 := Tryz.sizeOf0
  v0 := Tryz.zeroValue0
  t4 := Tryz.underlying4
  a4 := Tryz.isAgg4
  z4 := Tryz.sizeOf4
  v4 := Tryz.zeroValue4
  t23 := Tryz.underlying128
  a23 := Tryz.isAgg128
  z23 := Tryz.sizeOf128
  v23 := Tryz.zeroValue128
  t26 := Tryz.underlying3
  a26 := Tryz.isAgg3
  z26 := Tryz.sizeOf3
  v26 := Tryz.zeroValue3
  t27 := Tryz.underlying141
  a27 := Tryz.isAgg141
  z27 := Tryz.sizeOf141
  v27 := Tryz.zeroValue141
  t28 := Tryz.underlying142
  a28 := Tryz.isAgg142
  z28 := Tryz.sizeOf142
  v28 := Tryz.zeroValue142
  t33 := Tryz.underlying60
  a33 := Tryz.isAgg60
  z33 := Tryz.sizeOf60
  v33 := Tryz.zeroValue60 }
def YtongpnolikkknaaGreatDoor.sortedA_ren : Go.Shelf.Ren := ⟨fun | 6 => 92 | 8 => 120 | 9 => 121 | 11 => 151 | 13 => 153 | 12 => 152 | 23 => 181 | 24 => 182 | 14 => 172 | 15 => 173 | 16 => 174 | 17 => 175 | 18 => 176 | 19 => 177 | 20 => 178 | 21 => 179 | 22 => 180 | 25 => 189 | 26 => 190 | 27 => 191 | 28 => 192 | 29 => 193 | 30 => 194 | 31 => 198 | n => n, fun | 26 => 3 | 28 => 142 | 24 => 22 | 0 => 0 | 3 => 3 | 37 => 37 | 48 => 198 | 50 => 185 | 4 => 4 | 40 => 218 | 39 => 217 | 45 => 223 | 5 => 5 | 9 => 9 | 51 => 234 | 55 => 238 | 57 => 241 | 58 => 242 | 33 => 60 | n => n, fun | n => n⟩
theorem YtongpnolikkknaaGreatDoor.sortedA : Go.Proofs.SlLaysZI.n6 Tryz.prog YtongpnolikkknaaGreatDoor.sortedA_ren := {
  mixed := by kernel_rfl
  f6 := ⟨Tryz.f92.name, by decide, Tryz.func92.trans (congrArg some (by kernel_rfl))⟩
  f8 := ⟨Tryz.f120.name, by decide, Tryz.func120.trans (congrArg some (by kernel_rfl))⟩
  f11 := ⟨Tryz.f151.name, by decide, Tryz.func151.trans (congrArg some (by kernel_rfl))⟩
  t0 := Tryz.underlying0
  a0 := Tryz.isAgg0
  z0 := Tryz.sizeOf0
  v0 := Tryz.zeroValue0
  t24 := Tryz.underlying22
  a24 := Tryz.isAgg22
  z24 := Tryz.sizeOf22
  v24 := Tryz.zeroValue22
  t26 := Tryz.underlying3
  a26 := Tryz.isAgg3
  z26 := Tryz.sizeOf3
  v26 := Tryz.zeroValue3
  t28 := Tryz.underlying142
  a28 := Tryz.isAgg142
  z28 := Tryz.sizeOf142
  v28 := Tryz.zeroValue142
  i26 := by kernel_rfl }
def YtongpnolikkknaaGreatDoor.sortA_ren : Go.Shelf.Ren := ⟨fun | 5 => 121 | 8 => 153 | 7 => 152 | 19 => 181 | 20 => 182 | 10 => 172 | 11 => 173 | 12 => 174 | 13 => 175 | 14 => 176 | 15 => 177 | 16 => 178 | 17 => 179 | 18 => 180 | 30 => 189 | 31 => 190 | 32 => 191 | 33 => 192 | 34 => 193 | 35 => 194 | 40 => 198 | n => n, fun | 23 => 22 | 25 => 3 | 3 => 3 | 32 => 37 | 22 => 22 | 0 => 0 | 44 => 198 | 46 => 185 | 4 => 4 | 36 => 218 | 35 => 217 | 41 => 223 | 5 => 5 | 9 => 9 | 53 => 234 | 57 => 238 | 63 => 241 | 64 => 242 | n => n, fun | n => n⟩
theorem YtongpnolikkknaaGreatDoor.sortA : Go.Proofs.SlLaysM.n5 Tryz.prog YtongpnolikkknaaGreatDoor.sortA_ren := {
  mixed := by kernel_rfl
  f5 := ⟨Tryz.f121.name, by decide, Tryz.func121.trans (congrArg some (by kernel_rfl))⟩
  f7 := ⟨Tryz.f152.name, by decide, Tryz.func152.trans (congrArg some (by kernel_rfl))⟩
  f8 := Tryz.func153.trans (congrArg some (by kernel_rfl))
  f10 := ⟨Tryz.f172.name, by decide, Tryz.func172.trans (congrArg some (by kernel_rfl))⟩
  f11 := ⟨Tryz.f173.name, by decide, Tryz.func173.trans (congrArg some (by kernel_rfl))⟩
  f12 := ⟨Tryz.f174.name, by decide, Tryz.func174.trans (congrArg some (by kernel_rfl))⟩
  f13 := ⟨Tryz.f175.name, by decide, Tryz.func175.trans (congrArg some (by kernel_rfl))⟩
  f14 := ⟨Tryz.f176.name, by decide, Tryz.func176.trans (congrArg some (by kernel_rfl))⟩
  f15 := ⟨Tryz.f177.name, by decide, Tryz.func177.trans (congrArg some (by kernel_rfl))⟩
  f16 := ⟨Tryz.f178.name, by decide, Tryz.func178.trans (congrArg some (by kernel_rfl))⟩
  f17 := ⟨Tryz.f179.name, by decide, Tryz.func179.trans (congrArg some (by kernel_rfl))⟩
  f18 := ⟨Tryz.f180.name, by decide, Tryz.func180.trans (congrArg some (by kernel_rfl))⟩
  f19 := Tryz.func181.trans (congrArg some (by kernel_rfl))
  f20 := Tryz.func182.trans (congrArg some (by kernel_rfl))
  f30 := ⟨Tryz.f189.name, by decide, Tryz.func189.trans (congrArg some (by kernel_rfl))⟩
  f31 := Tryz.func190.trans (congrArg some (by kernel_rfl))
  f32 := Tryz.func191.trans (congrArg some (by kernel_rfl))
  f33 := ⟨Tryz.f192.name, by decide, Tryz.func192.trans (congrArg some (by kernel_rfl))⟩
  f34 := ⟨Tryz.f193.name, by decide, Tryz.func193.trans (congrArg some (by kernel_rfl))⟩
  f35 := ⟨Tryz.f194.name, by decide, Tryz.func194.trans (congrArg some (by kernel_rfl))⟩
  f40 := ⟨Tryz.f198.name, by decide, Tryz.func198.trans (congrArg some (by kernel_rfl))⟩
  t0 := Tryz.underlying0
  a0 := Tryz.isAgg0
  z0 := Tryz.sizeOf0
  v0 := Tryz.zeroValue0
  t3 := Tryz.underlying3
  a3 := Tryz.isAgg3
  z3 := Tryz.sizeOf3
  v3 := Tryz.zeroValue3
  t4 := Tryz.underlying4
  a4 := Tryz.isAgg4
  z4 := Tryz.sizeOf4
  v4 := Tryz.zeroValue4
  t5 := Tryz.underlying5
  a5 := Tryz.isAgg5
  z5 := Tryz.sizeOf5
  v5 := Tryz.zeroValue5
  t9 := Tryz.underlying9
  a9 := Tryz.isAgg9
  z9 := Tryz.sizeOf9
  v9 := Tryz.zeroValue9
  t22 := Tryz.underlying22
  a22 := Tryz.isAgg22
  z22 := Tryz.sizeOf22
  v22 := Tryz.zeroValue22
  t23 := Tryz.underlying22
  a23 := Tryz.isAgg22
  z23 := Tryz.sizeOf22
  v23 := Tryz.zeroValue22
  t25 := Tryz.underlying3
  a25 := Tryz.isAgg3
  z25 := Tryz.sizeOf3
  v25 := Tryz.zeroValue3
  t32 := Tryz.underlying37
  a32 := Tryz.isAgg37
  z32 := Tryz.sizeOf37
  v32 := Tryz.zeroValue37
  t35 := Tryz.underlying217
  a35 := Tryz.isAgg217
  z35 := Tryz.sizeOf217
  v35 := Tryz.zeroValue217
  t36 := Tryz.underlying218
  a36 := Tryz.isAgg218
  z36 := Tryz.sizeOf218
  v36 := Tryz.zeroValue218
  t41 := Tryz.underlying223
  a41 := Tryz.isAgg223
  z41 := Tryz.sizeOf223
  v41 := Tryz.zeroValue223
  t44 := Tryz.underlying198
  a44 := Tryz.isAgg198
  z44 := Tryz.sizeOf198
  v44 := Tryz.zeroValue198
  t46 := Tryz.underlying185
  a46 := Tryz.isAgg185
  z46 := Tryz.sizeOf185
  v46 := Tryz.zeroValue185
  t53 := Tryz.underlying234
  a53 := Tryz.isAgg234
  z53 := Tryz.sizeOf234
  v53 := Tryz.zeroValue234
  t57 := Tryz.underlying238
  a57 := Tryz.isAgg238
  z57 := Tryz.sizeOf238
  v57 := Tryz.zeroValue238
  t63 := Tryz.underlying241
  a63 := Tryz.isAgg241
  z63 := Tryz.sizeOf241
  v63 := Tryz.zeroValue241
  t64 := Tryz.underlying242
  a64 := Tryz.isAgg242
  z64 := Tryz.sizeOf242
  v64 := Tryz.zeroValue242 }
end Go.Proofs

namespace Go.Proofs.YtongpnolikkknaaGreatDoor
open Go.Shelf
open Sh RowKit Go.Maps Go.Sort
theorem sortsA (m : Nat) : AnyZI.SortsIn Tryz.prog sortedA_ren Fence.wide m :=
  ⟨fun blk off cap ss W hH hblk hsz => callsIn_wide.2 (AnyM.slices_Sort_int sortA blk off cap ss W hH hblk hsz),
   fun p cap W => callsIn_wide.2 (AnyM.slices_Sort_int_none sortA p cap W)⟩
abbrev R0 : Value → Option (DataW Unit × List MemPlace) := fun _ => some (.map [], [])
theorem sorted_c {w : World} {b nn : Nat} {D0 : DataW Unit} (hown : w.ownsMap Tryz.prog 3 R0 b nn D0) (hmax : Maps.size D0 ≤ maxLen) (hbytes : Maps.size D0 * 8 ≤ 140737488355328) :
    Calls Tryz.prog 92 #[.func (.func 122) #[] #[.pointer (some ⟨w.heap.size, 0, none⟩)]] (w.alloc (.cells #[.map (some b)] 128)) fun e w' => ∃ (v : Value) (ss : List Int), e = .returned v ∧ ss.Perm (intKeys D0) ∧
      w'.ownsRow (w.heap.size + 1) 3 1 v ss.length ((ss.mergeSort (fun x y => decide (x ≤ y))).map encZ) ∧ Below (w.heap.size + 1) (w.alloc (.cells #[.map (some b)] 128)) w' := by
  refine (callsIn_wide (n := 5)).1 ?_
  have hbl := hown.lt
  have hseq : SeqGives Fence.wide 2 Tryz.prog 122 #[.pointer (some ⟨w.heap.size, 0, none⟩)] encZ (fun ss => ss.Perm (intKeys D0)) (Maps.size D0) (w.alloc (.cells #[.map (some b)] 128)) :=
    AnyZI.keys_gives (ρ := keysA_ren) { keysA with } Fence.wide _ trivial rfl (by omega) w.heap.size b nn D0 _ (by simp) (by simp) (by
      obtain ⟨es, clock, hb, Ft, hs, hD⟩ := hown
      exact ⟨es, clock, (Below.heap_alloc _ _ b hbl).trans hb, Ft, hs, hD⟩)
  have cS := AnyZI.sorted_in sortedA Fence.wide 5 trivial trivial trivial trivial rfl (by omega) (sortsA _) (enters_of Tryz.func121 (by kernel_rfl) rfl) 122 #[.pointer (some ⟨w.heap.size, 0, none⟩)] trivial (enters_of Tryz.func122 (by kernel_rfl) rfl) _ _ hmax hbytes _ hseq
  change CallsIn _ _ Tryz.prog 92 _ _ _ at cS
  refine cS.mono ?_
  rintro e w' ⟨v, ss, rfl, hS, hrow, hnil, hb⟩
  have hrow2 : w'.ownsRow (w.heap.size + 1) 3 1 v ss.length ((ss.mergeSort (fun x y => decide (x ≤ y))).map encZ) := by
    have := hrow
    simp only [World.size_alloc] at this
    exact this
  exact ⟨v, ss, rfl, hS, hrow2, by simpa using hb⟩
open Go.WideElems in
theorem ownsMap_of {w : World} {b : Nat} {L : List (Int × Value)} (h : MapAt kI w b L) (hk : ∀ p ∈ L, 0 ≤ p.1 ∧ p.1 < 4096) (hL : L.length ≤ 4096) :
    ∃ D0 : DataW Unit, w.ownsMap Tryz.prog 3 R0 b L.length D0 ∧ (intKeys D0).Perm (L.map (·.1)) ∧ Maps.size D0 = L.length := by
  obtain ⟨es, clock, h1, h2, h3⟩ := h
  have hlen : es.size = L.length := by have := congrArg List.length h3; simpa using this
  have hrd : ∀ x ∈ es.toList, ∃ i : Int, (∃ v, (i, v) ∈ L) ∧ x.key = .int .i64 i ∧ WideElems.rd (H := Unit) Tryz.prog 3 R0 x = some (.int .i64 i, .map []) := by
    intro x hx
    have : (x.key, x.val) ∈ L.map (fun p => (kI p.1, p.2)) := h3 ▸ List.mem_map.2 ⟨x, hx, rfl⟩
    obtain ⟨p, hp, e⟩ := List.mem_map.1 this
    have e1 : x.key = kI p.1 := (Prod.mk.inj e).1.symm
    have hr := hk p hp
    have hw : (Lit.int .i64 p.1).wf = true := by
      unfold Lit.wf; simp [IntKind.min, IntKind.max, IntKind.signed, IntKind.bits]; omega
    refine ⟨p.1, ⟨p.2, hp⟩, e1, ?_⟩
    unfold WideElems.rd
    rw [e1, show kI p.1 = .int .i64 p.1 from rfl, Go.Maps.keyOf_int_mk Tryz.underlying3 hw]
    rfl
  refine ⟨.map ((es.toList.map (rg Tryz.prog 3 R0)).foldr DataW.insert []), ⟨es, clock, h1, ⟨by rw [hlen]; unfold maxLen; omega, h2, fun x hx => ?_⟩, by omega, rfl⟩, ?_, ?_⟩
  · obtain ⟨i, _, _, e⟩ := hrd x hx
    exact ⟨_, e⟩
  · show List.Perm (((es.toList.map (rg Tryz.prog 3 R0)).foldr DataW.insert []).map fun p => Go.intOf p.1) _
    refine ((WideShapes.sorted_perm _).map _).trans ?_
    have : (es.toList.map (rg (H := Unit) Tryz.prog 3 R0)).map (fun p => Go.intOf p.1) = L.map (·.1) := by
      rw [List.map_map]
      have e2 : L.map (·.1) = (L.map (fun p => (kI p.1, p.2))).map (fun q => match q.1 with | .int _ a => a | _ => 0) := by
        rw [List.map_map]; rfl
      rw [e2, ← h3, List.map_map]
      refine List.map_congr_left fun x hx => ?_
      obtain ⟨i, _, e, e'⟩ := hrd x hx
      simp [rg, e', e, Go.intOf]
    rw [this]
  · show ((es.toList.map (rg Tryz.prog 3 R0)).foldr DataW.insert []).length = _
    rw [(WideShapes.sorted_perm _).length_eq, List.length_map, Array.length_toList, hlen]
/-- the keys of a map, in order -/
theorem keys_s {w : World} {b : Nat} {L : List (Int × Value)} {K : Value → M} {Q : Value → World → Prop} (h : MapAt kI w b L) (hk : ∀ p ∈ L, 0 ≤ p.1 ∧ p.1 < 4096) (hL : L.length ≤ 4096)
    (kk : ∀ w' v, ownI w.heap.size 3 .i64 w' v ((L.map (·.1)).mergeSort (fun x y => decide (x ≤ y))) → Below w.heap.size w w' → K v w' Q) : cc Tryz.prog 93 #[.map (some b)] (fun t9 => cc Tryz.prog 92 #[t9] K) w Q := by
  obtain ⟨D0, ho, hp, hs⟩ := ownsMap_of h hk hL
  have hc := sorted_c ho (by rw [hs]; unfold maxLen; omega) (by rw [hs]; omega)
  have cK : Calls Tryz.prog 93 #[.map (some b)] w fun e w' => e = .returned (.func (.func 122) #[] #[.pointer (some ⟨w.heap.size, 0, none⟩)]) ∧ w' = w.alloc (.cells #[.map (some b)] 128) := (callsIn_wide (n := 5)).1 (AnyZI.keys_in keysA Fence.wide 5 trivial rfl (some b) w)
  refine cK.mono ?_
  rintro e w' ⟨rfl, rfl⟩
  refine hc.mono ?_
  rintro e w' ⟨v, ss, rfl, hS, hrow, hb⟩
  have e1 : ss.mergeSort (fun x y => decide (x ≤ y)) = (L.map (·.1)).mergeSort (fun x y => decide (x ≤ y)) := by
    have hp2 : ((ss.mergeSort (fun x y => decide (x ≤ y))).Perm ((L.map (·.1)).mergeSort (fun x y => decide (x ≤ y)))) := (List.mergeSort_perm _ _).trans ((hS.trans hp).trans (List.mergeSort_perm _ _).symm)
    refine hp2.eq_of_pairwise (le := fun x y => x ≤ y) (fun a b _ _ h1 h2 => by omega) ?_ ?_
    · exact (List.pairwise_mergeSort (le := fun x y => decide (x ≤ y)) (fun a b c h1 h2 => by simp at *; omega) (fun a b => by simp; omega) _).imp (by simp)
    · exact (List.pairwise_mergeSort (le := fun x y => decide (x ≤ y)) (fun a b c h1 h2 => by simp at *; omega) (fun a b => by simp; omega) _).imp (by simp)
  rw [e1] at hrow
  have hl : ss.length = ((L.map (·.1)).mergeSort (fun x y => decide (x ≤ y))).length := by rw [← e1, List.length_mergeSort]
  refine kk w' v ?_ ⟨hb.os, hb.tape, hb.output, Nat.le_trans (by simp) hb.size, fun k hk => ?_⟩
  · have : ownI (w.heap.size + 1) 3 .i64 w' v ((L.map (·.1)).mergeSort (fun x y => decide (x ≤ y))) := by
      unfold ownI
      rw [← hl]
      exact hrow
    exact ownI_weak this (by omega)
  · rw [hb.block k (by omega)]
    exact Below.heap_alloc _ _ k hk
end Go.Proofs.YtongpnolikkknaaGreatDoor

set_option maxRecDepth 20000
namespace Go.Proofs.YtongpnolikkknaaGreatDoor
open Sh RowKit Go.MapKept
section
variable {B : Nat} {w : World} {p b : Nat} {v : Value} {D : Dv} {Q : Value → World → Prop}
theorem f48_s (hd : DevAt B w p v b D) (h : ∀ w' u, ownI w.heap.size 3 .i64 w' u (unsL D.A) → Below w.heap.size w w' → Q u w') : f48 (pv p) w Q := by
  unfold f48
  have c1 := hd.c1
  obtain ⟨L, hm, hl⟩ := hd.mp
  obtain ⟨k1, k2⟩ := keys_ok hd.n hm hl
  rw [pn_eq pt23]
  simp only [↓reduceIte, ↓LL, LM, Value.cells, Nat.reduceAdd, Option.some.injEq, exists_eq_left', decide_true, decide_false, if_true, if_false, reduceCtorEq, cond_true, cond_false, Option.isNone, c1]
  refine keys_s (K := fun t10 => rt t10) hm k1 k2 fun w' u ho hb => ?_
  rw [uns_keys hm.nodup hl] at ho
  exact h w' u ho hb
end
end Go.Proofs.YtongpnolikkknaaGreatDoor

set_option maxRecDepth 20000
set_option maxHeartbeats 4000000
namespace Go.Proofs.YtongpnolikkknaaGreatDoor
open Sh RowKit Go.MapKept
theorem commit_ok {G : Pg} {D : Dv} {cs : List Ch} (h : Rdy D G.L) (ha : AllS D.A) (hv : mayB G.st G.L.length cs = 0) (hh : D.c + 300 ≤ D.h) :
    ∃ D', commitB G D cs = (0, D', ⟨setL G.L cs, G.st, G.c + (if cs.length = 0 then 0 else 1)⟩) ∧ Rdy D' (setL G.L cs) ∧ D'.h = D.h ∧ D'.c = D.c + callsN cs.length ∧ AllS D'.A := by
  by_cases c : cs = []
  · subst c
    refine ⟨D, ?_, h, rfl, ?_, ha⟩
    · rw [commit_no (.inr rfl), hv]
      show ((0 : Int), D, G) = (0, D, ⟨G.L, G.st, G.c + 0⟩)
      rw [Int.add_zero]
    · show D.c = D.c + 0; omega
  · obtain ⟨D', h1, h2, h3, h4, h5, _⟩ := commit_rdy h hv c hh
    have hl : ¬ cs.length = 0 := fun e => c (List.length_eq_zero_iff.1 e)
    refine ⟨D', ?_, h2, h3, ?_, h5⟩
    · rw [h1, if_neg hl]
    · rw [h4]; unfold callsN; rw [if_neg hl]; omega
theorem unsL_nil {A : List Sec} (h : AllS A) : unsL A = [] := by
  unfold unsL
  have : uns A = [] := by
    apply List.eq_nil_iff_forall_not_mem.2
    intro i hi
    obtain ⟨x, y, h1, h2⟩ := uns_mem.1 hi
    have := h x (List.mem_of_getElem? h1)
    rw [this] at h2; cases h2
  rw [this]; rfl
theorem new_all (n : Nat) : AllS (newD n).A := fun x hx => by
  rw [List.eq_of_mem_replicate (show x ∈ List.replicate n _ from hx)]
theorem oBat_st : Stable oBat := fun w w' es x hb h => ⟨h.1, rdI_b h.2.1 hb, rdI_b h.2.2.1 hb, h.2.2.2⟩
structure St (W w : World) (q p b r : Nat) (v u ur : Value) (G : Pg) (D : Dv) : Prop where
  pg : PgAt W.heap.size w q p b v u G D
  rf : RfAt W.heap.size w r ur G.L
  ap : ∀ k, fpP q p b v u k → ¬ fpR r ur k
  bw : Below W.heap.size W w
  rdy : Rdy D G.L
  st : G.st = false
  al : AllS D.A
  hh : D.h = 4611686018427387904
theorem RfAt.fpB {B : Nat} {w : World} {r : Nat} {u : Value} {L : List ByteArray} (h : RfAt B w r u L) : ∀ k, fpR r u k → B ≤ k := by
  rintro k (rfl | hk)
  · exact h.rB
  · exact (ownV_lt h.hu k hk).1
theorem RfAt.lt {B : Nat} {w : World} {r : Nat} {u : Value} {L : List ByteArray} (h : RfAt B w r u L) : ∀ k, fpR r u k → k < w.heap.size := by
  rintro k (rfl | hk)
  · exact blk_lt h.hr
  · exact (ownV_lt h.hu k hk).2.1
section
variable {W w w' : World} {q p b r : Nat} {v u ur vs : Value} {G : Pg} {D : Dv} {Q : Value → World → Prop}
theorem St.mv (h : St W w q p b r v u ur G D) (hb : Below w.heap.size w w') : St W w' q p b r v u ur G D := ⟨h.pg.below hb, h.rf.below hb, h.ap, bt h.bw hb, h.rdy, h.st, h.al, h.hh⟩
theorem commits_loop {l : List Bat} {n : Nat} {K : Value → Value → Value → M} (hl : rdS 2 oBat W vs l) (hl30 : l.length ≤ 30) (hps : ∀ x ∈ l, x.ps.length ≤ 1048576) (hn : n ≤ 40) :
    ∀ (d m i : Nat) (w : World) (r : Nat) (u ur : Value) (G : Pg) (D : Dv), i + d = l.length → d < m → St W w q p b r v u ur G D → G.L.length = n → 0 ≤ D.c → D.c ≤ 300 * i → 0 ≤ G.c → G.c ≤ i →
    (∀ w r u ur G D, St W w q p b r v u ur G D → G.L.length = n → 0 ≤ D.c → D.c ≤ 300 * l.length → K (.int .i64 ((n : Nat) : Int)) (pv p) (pv r) w Q) →
    itr (fun _ _ _ _ _ _ _ => bot) (f7_b2 K) m (.int .i64 ((n : Nat) : Int)) vs (pv p) (pv q) (pv r) (.int .i64 G.c) (.int .i64 ((i : Nat) : Int)) w Q := by
  intro d
  induction d with
  | zero =>
    intro m i w r u ur G D hi hm hs hL c0 c1 g0 g1 kk
    obtain ⟨m, rfl⟩ : ∃ x, m = x + 1 := ⟨m - 1, by omega⟩
    show f7_b2 K _ _ _ _ _ _ _ _ w Q
    unfold f7_b2
    have lv := lnl_S hl
    have cc : ¬ (i : Int) < (l.length : Nat) := by omega
    try simp only [↓reduceIte, ↓LL, LM, Value.cells, Nat.reduceAdd, Option.some.injEq, exists_eq_left', decide_true, decide_false, if_true, if_false, reduceCtorEq, cond_true, cond_false, lv, cc]
    exact kk w r u ur G D hs hL c0 (by omega)
  | succ d ih =>
    intro m i w r u ur G D hi hm hs hL c0 c1 g0 g1 kk
    obtain ⟨m, rfl⟩ : ∃ x, m = x + 1 := ⟨m - 1, by omega⟩
    show f7_b2 K _ _ _ _ _ _ _ _ w Q
    unfold f7_b2
    have lv := lnl_S hl
    have cc : (i : Int) < (l.length : Nat) := by omega
    have hil : i < l.length := by omega
    have h3 : IntKind.i64.wrap ((i : Int) + 1) = ((i + 1 : Nat) : Int) := by rw [w64 (by omega) (by omega)]; rfl
    obtain ⟨aad, es, he1, he2, he3, hia⟩ := rdS_at (rdS_below oBat_st hs.bw hl) hil
    obtain ⟨he3, hrp, hrb, _⟩ := he3
    have hpl := hps _ (List.getElem_mem hil)
    try simp only [↓reduceIte, ↓LL, LM, Value.cells, Nat.reduceAdd, Option.some.injEq, exists_eq_left', decide_true, decide_false, if_true, if_false, reduceCtorEq, cond_true, cond_false, lv, cc, hia]
    refine ldn_at he2 he1 ?_
    rw [he3]
    generalize l[i] = x at *
    have tail : ∀ (w : World) (r : Nat) (u ur : Value) (G : Pg) (D : Dv), St W w q p b r v u ur G D → G.L.length = n → 0 ≤ D.c → D.c ≤ 300 * (i + 1 : Nat) → 0 ≤ G.c → G.c ≤ (i + 1 : Nat) →
        f7_j3 (itr (fun _ _ _ _ _ _ _ => bot) (f7_b2 K) m) (.int .i64 ((n : Nat) : Int)) vs (pv p) (pv q) (pv r) (.int .i64 G.c) (.int .i64 ((i : Nat) : Int)) w Q := by
      intro w r u ur G D hs hL c0 c1 g0 g1
      unfold f7_j3
      try simp only [↓reduceIte, ↓LL, LM, Value.cells, Nat.reduceAdd, Option.some.injEq, exists_eq_left', decide_true, decide_false, if_true, if_false, reduceCtorEq, cond_true, cond_false]
      refine f49_s hs.pg.hq hs.pg.hu hs.rf (by omega) fun w2 b2 => ?_
      rw [decide_eq_true rfl]
      have hs2 := hs.mv b2
      try simp only [↓reduceIte, ↓LL, LM, Value.cells, Nat.reduceAdd, Option.some.injEq, exists_eq_left', decide_true, decide_false, if_true, if_false, reduceCtorEq, cond_true, cond_false]
      refine f50_s hs2.pg.hq ?_
      try simp only [↓reduceIte, ↓LL, LM, Value.cells, Nat.reduceAdd, Option.some.injEq, exists_eq_left', decide_true, decide_false, if_true, if_false, reduceCtorEq, cond_true, cond_false, h3, ne_eq]
      exact ih m (i + 1) w2 r u ur G D (by omega) (by omega) hs2 hL c0 c1 g0 g1 kk
    try simp only [↓reduceIte, ↓LL, LM, Value.cells, Nat.reduceAdd, Option.some.injEq, exists_eq_left', decide_true, decide_false, if_true, if_false, reduceCtorEq, cond_true, cond_false]
    refine f42_s hrp hrb hpl fun w1 x1 y1 b1 hx1 hy1 => ?_
    have hs1 := hs.mv b1
    generalize hcs : chsB x.ps x.bs x.ps.length = cs at *
    try simp only [↓reduceIte, ↓LL, LM, Value.cells, Nat.reduceAdd, Option.some.injEq, exists_eq_left', decide_true, decide_false, if_true, if_false, reduceCtorEq, cond_true, cond_false, get0, get1]
    refine f43_s hs1.pg.dev ?_
    try simp only [↓reduceIte, ↓LL, LM, Value.cells, Nat.reduceAdd, Option.some.injEq, exists_eq_left', decide_true, decide_false, if_true, if_false, reduceCtorEq, cond_true, cond_false]
    refine commit_at hs1.pg hx1 c0 (by omega) g0 (by omega) (by omega) fun w2 hp2 hc2 => ?_
    have hb2 : Below W.heap.size W w2 := hs1.bw.trans (hs1.pg.bs hc2 (Nat.le_refl _) hs1.bw.size)
    have hr2 : RfAt W.heap.size w2 r ur G.L := hs1.rf.chg hc2 fun k hk hn => hs1.ap k hn hk
    have sz1 : w.heap.size ≤ w1.heap.size := b1.size
    have plt : ∀ k, fpP q p b v u k → k < w.heap.size := hs.pg.lt
    have hy2 : ownE w.heap.size 136 2 encC w2 y1 cs := ownE_chg hy1 hc2 fun g hg hn => by
      have := (ownE_blk hy1 g hg).1
      have := plt g hn
      omega
    have hyr := ownE_rd encC_len (by decide) hy2
    try simp only [↓reduceIte, ↓LL, LM, Value.cells, Nat.reduceAdd, Option.some.injEq, exists_eq_left', decide_true, decide_false, if_true, if_false, reduceCtorEq, cond_true, cond_false]
    refine f45_s hr2 hyr (by omega) fun w3 b3 => ?_
    have hr3 := hr2.below b3
    have hp3 := hp2.below b3
    have hb3 := bt hb2 b3
    have hyr3 := rdS_below eR_st b3 hyr
    have est : mayB G.st G.L.length cs = mayB false G.L.length cs := by rw [hs.st]
    by_cases hv : mayB false G.L.length cs = 0
    · obtain ⟨D', e1, r1, e2, e3, e4⟩ := commit_ok (cs := cs) hs.rdy hs.al (est.trans hv) (by rw [hs.hh]; omega)
      rw [e1] at hp3 ⊢
      have hp3 : PgAt W.heap.size w3 q p b v u ⟨setL G.L cs, G.st, G.c + (if cs.length = 0 then 0 else 1)⟩ D' := hp3
      have h31 := (mayB_ok hv).2.1
      have hbd := (mayB_ok hv).2.2.1
      rw [hv]
      try simp only [↓reduceIte, ↓LL, LM, Value.cells, Nat.reduceAdd, Option.some.injEq, exists_eq_left', decide_true, decide_false, if_true, if_false, reduceCtorEq, cond_true, cond_false, ne_eq]
      refine f43_s hp3.dev ?_
      have ecn : 0 ≤ callsN cs.length ∧ callsN cs.length ≤ 300 := by unfold callsN; split <;> omega
      have next : ∀ (w5 : World) (r5 : Nat) (ur5 : Value), Below W.heap.size W w5 → PgAt W.heap.size w5 q p b v u ⟨setL G.L cs, G.st, G.c + (if cs.length = 0 then 0 else 1)⟩ D' → RfAt W.heap.size w5 r5 ur5 (setL G.L cs) → (∀ k, fpP q p b v u k → ¬ fpR r5 ur5 k) →
          f7_j4 (f7_j3 (itr (fun _ _ _ _ _ _ _ => bot) (f7_b2 K) m)) (.int .i64 ((n : Nat) : Int)) vs (pv p) (pv q) (pv r5) (.int .i64 (G.c + (if cs.length = 0 then 0 else 1))) (.int .i64 ((i : Nat) : Int)) y1 (.int .i64 D.c) w5 Q := by
        intro w5 r5 ur5 hb5 hp5 hr5 hap5
        unfold f7_j4
        try simp only [↓reduceIte, ↓LL, LM, Value.cells, Nat.reduceAdd, Option.some.injEq, exists_eq_left', decide_true, decide_false, if_true, if_false, reduceCtorEq, cond_true, cond_false]
        refine f43_s hp5.dev ?_
        have ly := lnl_S hyr
        try simp only [↓reduceIte, ↓LL, LM, Value.cells, Nat.reduceAdd, Option.some.injEq, exists_eq_left', decide_true, decide_false, if_true, if_false, reduceCtorEq, cond_true, cond_false, ly]
        refine f47_s h31 ?_
        have ew : IntKind.i64.wrap (D.c + callsN cs.length) = D'.c := by rw [e3]; exact w64 (by omega) (by omega)
        try simp only [↓reduceIte, ↓LL, LM, Value.cells, Nat.reduceAdd, Option.some.injEq, exists_eq_left', decide_true, decide_false, if_true, if_false, reduceCtorEq, cond_true, cond_false, ew, ne_eq]
        refine f48_s hp5.dev fun w6 uu ou b6 => ?_
        rw [unsL_nil e4] at ou
        obtain ⟨pu, cu, eu, _⟩ := ownI_len ou
        have lu : ∀ (K : Value → M) (w1 : World) (Q : Value → World → Prop), lnl uu K w1 Q = K (.int .i64 0) w1 Q := fun K w1 Q => by rw [eu, lnl_e]; rfl
        try simp only [↓reduceIte, ↓LL, LM, Value.cells, Nat.reduceAdd, Option.some.injEq, exists_eq_left', decide_true, decide_false, if_true, if_false, reduceCtorEq, cond_true, cond_false, lu]
        refine tail w6 r5 u ur5 ⟨setL G.L cs, G.st, G.c + (if cs.length = 0 then 0 else 1)⟩ D' ⟨hp5.below b6, hr5.below b6, hap5, bt hb5 b6, r1, hs.st, e4, by rw [e2, hs.hh]⟩ (by rw [setL_len]; exact hL) (by omega) (by omega) ?_ ?_
        · show 0 ≤ G.c + (if cs.length = 0 then 0 else 1)
          split <;> omega
        · show G.c + (if cs.length = 0 then 0 else 1) ≤ _
          split <;> omega
      have wz : ∀ a c : Int, decide (¬ a = c) = decide (¬ a = c) := fun _ _ => rfl
      have step : f46 (pv r) y1 w3 (fun t74 w' => (lnl y1 fun t76 => gt .i64 t76 (.int .i64 0) fun t77 => jn (fun (j4 : Value → Value → Value → Value → Value → Value → Value → Value → Value → M) => cnd t77 (ad .i64 (.int .i64 G.c) (.int .i64 1) fun t79 => j4 (.int .i64 ((n : Nat) : Int)) vs (pv p) (pv q) t74 t79 (.int .i64 ((i : Nat) : Int)) y1 (.int .i64 D.c)) (j4 (.int .i64 ((n : Nat) : Int)) vs (pv p) (pv q) t74 (.int .i64 G.c) (.int .i64 ((i : Nat) : Int)) y1 (.int .i64 D.c))) (f7_j4 (f7_j3 (itr (fun _ _ _ _ _ _ _ => bot) (f7_b2 K) m)))) w' Q) := by
        refine f46_s hr3 hyr3 h31 hbd (by omega) fun w5 r5 ur5 b5 hr5 => ?_
        have ly := lnl_S hyr
        have s3 := hb3.size
        have nx := next w5 r5 ur5 (bt hb3 b5) (hp3.below b5) (hr5.weak s3) fun k hk hn => by
          have := hp3.lt k hk
          have := hr5.fpB k hn
          omega
        by_cases c : cs.length = 0
        · have c' : ((cs.length : Nat) : Int) = 0 := by omega
          rw [if_pos c, Int.add_zero] at nx
          try simp only [↓reduceIte, ↓LL, LM, Value.cells, Nat.reduceAdd, Option.some.injEq, exists_eq_left', decide_true, decide_false, if_true, if_false, reduceCtorEq, cond_true, cond_false, ly, c']
          exact nx
        · have c' : ((cs.length : Nat) : Int) > 0 := by omega
          have c'' : (0 : Int) < ((cs.length : Nat) : Int) := by omega
          have ew : IntKind.i64.wrap (G.c + 1) = G.c + 1 := w64 (by omega) (by omega)
          rw [if_neg c] at nx
          try simp only [↓reduceIte, ↓LL, LM, Value.cells, Nat.reduceAdd, Option.some.injEq, exists_eq_left', decide_true, decide_false, if_true, if_false, reduceCtorEq, cond_true, cond_false, ly, c', c'', ew]
          exact nx
      by_cases ceq : D'.c = D.c
      · try simp only [↓reduceIte, ↓LL, LM, Value.cells, Nat.reduceAdd, Option.some.injEq, exists_eq_left', decide_true, decide_false, if_true, if_false, reduceCtorEq, cond_true, cond_false, ne_eq, ceq]
        exact step
      · try simp only [↓reduceIte, ↓LL, LM, Value.cells, Nat.reduceAdd, Option.some.injEq, exists_eq_left', decide_true, decide_false, if_true, if_false, reduceCtorEq, cond_true, cond_false, ne_eq, ceq]
        exact step
    · rw [commit_no (.inl (by rw [est]; exact hv)), est] at hp3 ⊢
      have hp3 : PgAt W.heap.size w3 q p b v u G D := hp3
      try simp only [↓reduceIte, ↓LL, LM, Value.cells, Nat.reduceAdd, Option.some.injEq, exists_eq_left', decide_true, decide_false, if_true, if_false, reduceCtorEq, cond_true, cond_false, ne_eq, hv]
      refine f43_s hp3.dev ?_
      try simp only [↓reduceIte, ↓LL, LM, Value.cells, Nat.reduceAdd, Option.some.injEq, exists_eq_left', decide_true, decide_false, if_true, if_false, reduceCtorEq, cond_true, cond_false, ne_eq, hv]
      exact tail w3 r u ur G D ⟨hp3, hr3, hs.ap, hb3, hs.rdy, hs.st, hs.al, hs.hh⟩ hL c0 (by omega) g0 (by omega)
theorem f7_s {n : Int} {l : List Bat} {vs : Value} (hl : rdS 2 oBat w vs l) (hps : ∀ x ∈ l, x.ps.length ≤ 1048576) (kk : ∀ w', Below w.heap.size w w' → Q (.bool true) w') : f7 (.int .i64 n) vs w Q := by
  unfold f7
  try simp only [↓reduceIte, ↓LL, LM, Value.cells, Nat.reduceAdd, Option.some.injEq, exists_eq_left', decide_true, decide_false, if_true, if_false, reduceCtorEq, cond_true, cond_false]
  refine f35_s fun w1 b1 => ?_
  try simp only [↓reduceIte, ↓LL, LM, Value.cells, Nat.reduceAdd, Option.some.injEq, exists_eq_left', decide_true, decide_false, if_true, if_false, reduceCtorEq, cond_true, cond_false]
  refine f36_s ?_
  obtain ⟨n1, n40⟩ := pagesN_bd n
  generalize pagesN n = n at *
  try simp only [↓reduceIte, ↓LL, LM, Value.cells, Nat.reduceAdd, Option.some.injEq, exists_eq_left', decide_true, decide_false, if_true, if_false, reduceCtorEq, cond_true, cond_false]
  refine f37_s (rdS_below oBat_st b1 hl) fun vs' hv' => ?_
  try simp only [↓reduceIte, ↓LL, LM, Value.cells, Nat.reduceAdd, Option.some.injEq, exists_eq_left', decide_true, decide_false, if_true, if_false, reduceCtorEq, cond_true, cond_false]
  refine f39_s ⟨by omega, by omega⟩ ?_
  try simp only [↓reduceIte, ↓LL, LM, Value.cells, Nat.reduceAdd, Option.some.injEq, exists_eq_left', decide_true, decide_false, if_true, if_false, reduceCtorEq, cond_true, cond_false]
  refine f38_s (B := w1.heap.size) (126 + 4 * ((n : Nat) : Int)) (k := 126 + 4 * n) (by omega) (Nat.le_refl _) fun w2 p v b pw bw hd hf b2 => ?_
  try simp only [↓reduceIte, ↓LL, LM, Value.cells, Nat.reduceAdd, Option.some.injEq, exists_eq_left', decide_true, decide_false, if_true, if_false, reduceCtorEq, cond_true, cond_false]
  refine open_at (B0 := w1.heap.size) hd (nd0 _) (nd1 _) (Nat.le_refl _) b2.size (open_new (m := n) (N := 126 + 4 * n) (by omega) (by omega) (by omega)) fun w3 q u q3 h3 _ _ hc3 => ?_
  have b3 := bs b2 (fpD_B hd) b2.size hc3
  try simp only [↓reduceIte, ↓LL, LM, Value.cells, Nat.reduceAdd, Option.some.injEq, exists_eq_left', decide_true, decide_false, if_true, if_false, reduceCtorEq, cond_true, cond_false, get0, get1, ne_eq]
  refine f41_s (by omega) fun w4 r ur b4 hr4 => ?_
  have b04 := bt b3 b4
  have hs : St w1 w4 q p b r v u ur ⟨List.replicate n (zs 256), false, 0⟩ (newD (126 + 4 * n)) := ⟨h3.below b4, hr4.weak b3.size, fun k hk hn => by
      have := h3.lt k hk
      have := hr4.fpB k hn
      omega, b04, rdy_new (by omega) (by omega) (by omega), rfl, new_all _, rfl⟩
  have hlen : (l.take 30).length ≤ 30 := by rw [List.length_take]; omega
  try simp only [↓reduceIte, ↓LL, LM, Value.cells, Nat.reduceAdd, Option.some.injEq, exists_eq_left', decide_true, decide_false, if_true, if_false, reduceCtorEq, cond_true, cond_false]
  refine ⟨_, commits_loop (W := w1) (n := n) (K := f7_j1) hv' hlen (fun x hx => hps x (List.mem_of_mem_take hx)) n40 (l.take 30).length ((l.take 30).length + 1) 0 w4 r u ur ⟨List.replicate n (zs 256), false, 0⟩ (newD (126 + 4 * n)) (by omega) (by omega) hs (by show (List.replicate n (zs 256)).length = n; simp) (nd0 _) (by show (0 : Int) ≤ _; omega) (by show (0 : Int) ≤ 0; decide) (by show (0 : Int) ≤ _; omega) fun w5 r5 u5 ur5 G D hs5 hL5 c0 c1 => ?_⟩
  unfold f7_j1
  try simp only [↓reduceIte, ↓LL, LM, Value.cells, Nat.reduceAdd, Option.some.injEq, exists_eq_left', decide_true, decide_false, if_true, if_false, reduceCtorEq, cond_true, cond_false]
  have eo := open_rdy hs5.rdy
  rw [hL5] at eo
  refine open_at (B0 := w1.heap.size) hs5.pg.dev c0 (by omega) (Nat.le_refl _) hs5.bw.size eo fun w6 q6 u6 q6w h6 d6 hu6 hc6 => ?_
  have hr6 : RfAt w1.heap.size w6 r5 ur5 G.L := hs5.rf.chg hc6 fun k hk hn => hs5.ap k (.inr (.inr hn)) hk
  have b06 := hs5.bw.trans (hc6.below (fun k hk => fpD_B hs5.pg.dev k hk) hs5.bw.size)
  try simp only [↓reduceIte, ↓LL, LM, Value.cells, Nat.reduceAdd, Option.some.injEq, exists_eq_left', decide_true, decide_false, if_true, if_false, reduceCtorEq, cond_true, cond_false, get0, get1]
  refine f49_s (G := ⟨G.L, false, 0⟩) h6.hq h6.hu hr6 (by omega) fun w7 b7 => ?_
  rw [decide_eq_true rfl]
  try simp only [↓reduceIte, ↓LL, LM, Value.cells, Nat.reduceAdd, Option.some.injEq, exists_eq_left', decide_true, decide_false, if_true, if_false, reduceCtorEq, cond_true, cond_false]
  exact kk w7 (bt b1 (bt b06 b7))
end
end Go.Proofs.YtongpnolikkknaaGreatDoor

namespace Go.Proofs.YtongpnolikkknaaGreatDoor
open Go.ChangeShapes Go.WideShapes Go.ChangeAt Go.RowKit
open Sh
def R7 := RiLB
def b7 : Int × List Bat → Nat := fun x => bkL x.2
theorem oa7 : OpensA Tryz.prog [3, 61] (Int × List Bat) R7 b7 := oaiLB
theorem law7 (W : World) (vs : List Value) (a : Int × List Bat) (h : R7 W vs a) (hk : b7 a ≤ 1048576) : Calls Tryz.prog 7 vs.toArray W (Rt fun v W' => v = .bool true ∧ Below W.heap.size W W') := by
  obtain ⟨n, l⟩ := a
  obtain ⟨v, rfl, h1⟩ := h
  exact s7 _ _ _ _ (f7_s h1 (fun x hx => Nat.le_trans (sum_memB hx) hk) fun w' hb => ⟨rfl, hb⟩)
set_option maxRecDepth 1000000 in
theorem lifted7 (os : Os) (started : os.Started) (H : Type) (enc : TypeId × Value → H) (F : Stop.Interp) :
    ReturnsInHanded {} Tryz.checked os 7 .any (fun w args => ((Rows.OpenSpec.upto Rows.pagerCommitsSpec).pre enc Tryz.prog Tryz.f7 Rows.pagerCommitsUptoRow.domain false w args ∧ laidMetH Tryz.prog Rows.pagerCommitsUptoRow.laid w) ∧ sizedMet enc Tryz.prog Tryz.f7 (Rows.OpenSpec.upto Rows.pagerCommitsSpec) false w args) (((Rows.OpenSpec.upto Rows.pagerCommitsSpec).at F).post enc Tryz.prog Tryz.f7 false true false false) := by
  refine law_from_laid_upto (C := Tryz.checked) (s := Rows.pagerCommitsSpec) (X := (fun w _ => laidMetH Tryz.prog Rows.pagerCommitsUptoRow.laid w)) (tb := 4) (R := R7) (b := b7) own started (by kernel_rfl) Tryz.func7
    (cond_witness_at (enc := enc) (C := Tryz.checked) (os := os) (s := Rows.OpenSpec.upto Rows.pagerCommitsSpec) (k := Rows.uptoSmall) (X := (fun w _ => laidMetH Tryz.prog Rows.pagerCommitsUptoRow.laid w)) rfl false (laidW Tryz.prog Rows.pagerCommitsUptoRow.laid os) #[.int .i64 0, .slice none 0 0] 8 rfl (by kernel_rfl) (by kernel_rfl) (by kernel_rfl)
      (x := ([.lit (.int .i64 0), .nil], [], [])) (by kernel_rfl) rfl (by kernel_rfl) (by kernel_rfl) (laidW_metH os _))
    rfl (by kernel_rfl) (by kernel_rfl) rfl Tryz.underlying4 (fun ds hd => ?_) ?_ law7
  · match ds, hd with
    | [d0, d1], _ => exact ⟨rfl, rfl, rfl⟩
  · show OpensA Tryz.prog Tryz.f7.params.toList _ R7 b7
    rw [Tryz.params7]; exact oa7
theorem pagerCommits_row : Rows.PagerCommitsUptoSaid :=
  OpenClaim.holds_of_cond 7 Tryz.f7 rfl rfl rfl rfl rfl rfl rfl ⟨rfl, rfl, rfl, rfl, rfl⟩ rfl rfl rfl rfl rfl (by kernel_rfl) Tryz.func7 (by kernel_rfl)
    (of_decide_eq_true (by kernel_rfl)) (by unfold Func.isWrapper; first | (rw [if_pos (by decide +kernel)]; kernel_rfl) | (rw [if_neg (by decide +kernel)]; exact ⟨rfl, rfl⟩))
    (fun os started H enc _ F => lifted7 os started H enc F)
theorem pagerCommits_holds : Rows.PagerCommitsUptoCardSaid :=
  Claim7.holds_tied_plain_at .later [] Rows.pagerCommitsUptoCard.laidKinds true Rows.pagerCommitsUptoCard.stood.harness Rows.pagerCommitsUptoCard.stood.looks
    pagerCommits_row (fun _ h => by cases h) (by kernel_rfl) (fun _ h => by cases h) pagerCommitsUpto_row_tie rfl ⟨rfl, rfl⟩ (by kernel_rfl) (by kernel_rfl)
    (fun f fn hf hfn => by
      obtain rfl : f = 7 := Option.some.inj ((show Tryz.prog.funcNamed Rows.pagerCommitsUptoRow.func = some 7 by kernel_rfl).symm.trans hf) |>.symm
      obtain rfl : fn = Tryz.f7 := (Option.some.inj (Tryz.func7.symm.trans hfn)).symm
      exact ⟨by kernel_rfl, no_stand (by kernel_rfl)⟩)
    (by kernel_rfl)
#print axioms pagerCommits_holds
end Go.Proofs.YtongpnolikkknaaGreatDoor
