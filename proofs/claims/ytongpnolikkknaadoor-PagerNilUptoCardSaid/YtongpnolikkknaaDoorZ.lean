/- The call of PagerNil returns true for every input of limited bulk, and its arguments read behind it as they read before. -/
import Derived.Test.YtongpnolikkknaaDoorZ3
set_option linter.unusedVariables false
set_option linter.unusedSimpArgs false
set_option linter.unusedSectionVars false
set_option maxRecDepth 20000
namespace Go.Proofs.YtongpnolikkknaaDoor
open Sh RowKit Go.MapKept
def De.ex : De → List Sec → List Sec
  | .wr i s, A => match A[i.toNat]? with
    | some x => A.set i.toNat ⟨x.s, some (pad s)⟩
    | none => A
  | .sy, A => A.map fun x => ⟨x.now, none⟩
def exs (ds : List De) (A : List Sec) : List Sec := ds.foldl (fun A d => d.ex A) A
def De.good (N : Nat) : De → Prop
  | .wr i s => 0 ≤ i ∧ i < (N : Int) ∧ s.size ≤ 64
  | .sy => True
theorem ex_wr_some {i : Int} {s : ByteArray} {A : List Sec} {x : Sec} (h : A[i.toNat]? = some x) : (De.wr i s).ex A = A.set i.toNat ⟨x.s, some (pad s)⟩ := by
  show (match A[i.toNat]? with
    | some x => A.set i.toNat ⟨x.s, some (pad s)⟩
    | none => A) = _
  rw [h]
theorem ex_wr_none {i : Int} {s : ByteArray} {A : List Sec} (h : A[i.toNat]? = none) : (De.wr i s).ex A = A := by
  show (match A[i.toNat]? with
    | some x => A.set i.toNat ⟨x.s, some (pad s)⟩
    | none => A) = _
  rw [h]
theorem ex_len (d : De) (A : List Sec) : (d.ex A).length = A.length := by
  cases d with
  | wr i s =>
    cases h : A[i.toNat]? with
    | none => rw [ex_wr_none h]
    | some x => rw [ex_wr_some h, List.length_set]
  | sy => show (A.map _).length = _; rw [List.length_map]
theorem exs_len : ∀ (ds : List De) (A : List Sec), (exs ds A).length = A.length
  | [], A => rfl
  | d :: ds, A => by
    show (exs ds (d.ex A)).length = _
    rw [exs_len ds, ex_len]
theorem exs_app (ds es : List De) (A : List Sec) : exs (ds ++ es) A = exs es (exs ds A) := by unfold exs; rw [List.foldl_append]
theorem exs_cons (d : De) (ds : List De) (A : List Sec) : exs (d :: ds) A = exs ds (d.ex A) := rfl
theorem run_ex {d : De} {D : Dv} (hg : d.good D.A.length) : d.run D = if D.h < D.c + 1 then (9, D.tick) else (0, ⟨d.ex D.A, D.c + 1, D.h⟩) := by
  cases d with
  | wr i s =>
    obtain ⟨h0, h1, h2⟩ := hg
    show D.wr i s = _
    unfold Dv.wr
    by_cases hh : D.h < D.c + 1
    · rw [if_pos hh, if_pos hh]
    · rw [if_neg hh, if_neg hh]
      obtain ⟨x, hx⟩ := at_some (D := D) h0 h1
      have hx2 := (at_lt hx).2.2
      rw [hx]
      have : ¬ 64 < s.size := by omega
      simp only [this, if_false]
      have e : De.ex (.wr i s) D.A = D.A.set i.toNat ⟨x.s, some (pad s)⟩ := ex_wr_some hx2
      rw [e]; rfl
  | sy =>
    show D.sync = _
    unfold Dv.sync
    by_cases hh : D.h < D.c + 1
    · rw [if_pos hh, if_pos hh]
    · rw [if_neg hh, if_neg hh]; rfl
theorem runs_ok : ∀ (ds : List De) (D : Dv), (∀ d ∈ ds, d.good D.A.length) → D.c + ds.length ≤ D.h → runs ds D = (0, ⟨exs ds D.A, D.c + ds.length, D.h⟩)
  | [], D, _, _ => by
    show ((0 : Int), D) = _
    rw [List.length_nil]
    show _ = ((0 : Int), (⟨D.A, D.c + ((0 : Nat) : Int), D.h⟩ : Dv))
    rw [show D.c + ((0 : Nat) : Int) = D.c by omega]
  | d :: ds, D, hg, hh => by
    rw [List.length_cons] at hh
    have hr := run_ex (hg d (List.mem_cons_self ..))
    rw [if_neg (by omega)] at hr
    show (if (d.run D).1 = 0 then runs ds (d.run D).2 else d.run D) = _
    rw [hr, if_pos rfl, runs_ok ds _ (fun x hx => by show x.good (d.ex D.A).length; rw [ex_len]; exact hg x (List.mem_cons_of_mem _ hx)) (by show D.c + 1 + (ds.length : Int) ≤ D.h; omega)]
    show ((0 : Int), (⟨exs ds (d.ex D.A), D.c + 1 + (ds.length : Int), D.h⟩ : Dv)) = _
    rw [List.length_cons, exs_cons, show D.c + 1 + (ds.length : Int) = D.c + ((ds.length + 1 : Nat) : Int) by omega]
theorem runs_two : ∀ (ds : List De) (D : Dv), (∀ d ∈ ds, d.good D.A.length) → (runs ds D = (0, ⟨exs ds D.A, D.c + ds.length, D.h⟩)) ∨ ((runs ds D).1 = 9 ∧ (runs ds D).2.h = D.h ∧ ∃ k, k < ds.length ∧ (runs ds D).2.A = exs (ds.take k) D.A)
  | [], D, _ => .inl (by
    show ((0 : Int), D) = _
    rw [List.length_nil]
    show _ = ((0 : Int), (⟨D.A, D.c + ((0 : Nat) : Int), D.h⟩ : Dv))
    rw [show D.c + ((0 : Nat) : Int) = D.c by omega])
  | d :: ds, D, hg => by
    have hr := run_ex (hg d (List.mem_cons_self ..))
    have e : runs (d :: ds) D = (if (d.run D).1 = 0 then runs ds (d.run D).2 else d.run D) := rfl
    by_cases hh : D.h < D.c + 1
    · rw [if_pos hh] at hr
      right
      rw [e, hr, if_neg (show ¬ (9 : Int) = 0 by decide)]
      exact ⟨rfl, rfl, 0, by simp, rfl⟩
    · rw [if_neg hh] at hr
      rw [e, hr, if_pos rfl]
      rcases runs_two ds ⟨d.ex D.A, D.c + 1, D.h⟩ (fun x hx => by show x.good (d.ex D.A).length; rw [ex_len]; exact hg x (List.mem_cons_of_mem _ hx)) with h | ⟨h1, h2, k, hk, h3⟩
      · left
        rw [h]
        show ((0 : Int), (⟨exs ds (d.ex D.A), D.c + 1 + (ds.length : Int), D.h⟩ : Dv)) = _
        rw [List.length_cons, exs_cons, show D.c + 1 + (ds.length : Int) = D.c + ((ds.length + 1 : Nat) : Int) by omega]
      · right
        exact ⟨h1, h2, k + 1, by rw [List.length_cons]; omega, by rw [h3, List.take_succ_cons, exs_cons]⟩
/-- writing to sector i leaves the others -/
theorem ex_wr_out {i : Nat} {a : Int} {s : ByteArray} {A : List Sec} (h : i ≠ a.toNat) : ((De.wr a s).ex A)[i]? = A[i]? := by
  cases hx : A[a.toNat]? with
  | none => rw [ex_wr_none hx]
  | some x => rw [ex_wr_some hx, List.getElem?_set_ne (fun e => h e.symm)]
theorem ex_wr_in {i : Nat} {a : Int} {s : ByteArray} {A : List Sec} {x : Sec} (h : i = a.toNat) (hx : A[i]? = some x) : ((De.wr a s).ex A)[i]? = some ⟨x.s, some (pad s)⟩ := by
  subst h
  have := (List.getElem?_eq_some_iff.1 hx).1
  rw [ex_wr_some hx, List.getElem?_set_self this]
theorem ex_sy {i : Nat} {A : List Sec} : (De.sy.ex A)[i]? = A[i]?.map fun x => ⟨x.now, none⟩ := by
  show (A.map _)[i]? = _
  rw [List.getElem?_map]
/-- a page's four sectors from b on -/
def pgW (b : Nat) (s : ByteArray) : List De := (List.range 4).map fun j => .wr ((b + j : Nat) : Int) (chunk s j)
theorem pageD_pgW {g : Nat → Int} {b : Nat} {s : ByteArray} (hs : s.size = 256) (hg : ∀ j, g j = ((b + j : Nat) : Int)) : pageD g s = pgW b s := by
  unfold pageD pgW
  rw [if_pos hs]
  refine List.map_congr_left fun j _ => ?_
  rw [hg j]
def blkW (xs : List (Nat × ByteArray)) : List De := xs.flatMap fun x => pgW x.1 x.2
theorem blkW_cons (x : Nat × ByteArray) (xs : List (Nat × ByteArray)) : blkW (x :: xs) = pgW x.1 x.2 ++ blkW xs := rfl
theorem pgW_len (b : Nat) (s : ByteArray) : (pgW b s).length = 4 := by unfold pgW; simp
theorem blkW_len : ∀ xs : List (Nat × ByteArray), (blkW xs).length = 4 * xs.length
  | [] => rfl
  | x :: xs => by rw [blkW_cons, List.length_append, pgW_len, blkW_len xs, List.length_cons]; omega
theorem mem_pgW {d : De} {b : Nat} {s : ByteArray} : d ∈ pgW b s ↔ ∃ j, j < 4 ∧ d = .wr ((b + j : Nat) : Int) (chunk s j) := by
  unfold pgW
  rw [List.mem_map]
  constructor
  · rintro ⟨j, hj, rfl⟩; exact ⟨j, List.mem_range.1 hj, rfl⟩
  · rintro ⟨j, hj, rfl⟩; exact ⟨j, List.mem_range.2 hj, rfl⟩
theorem mem_blkW {d : De} {xs : List (Nat × ByteArray)} : d ∈ blkW xs ↔ ∃ x ∈ xs, ∃ j, j < 4 ∧ d = .wr ((x.1 + j : Nat) : Int) (chunk x.2 j) := by
  unfold blkW
  rw [List.mem_flatMap]
  constructor
  · rintro ⟨x, hx, h⟩
    exact ⟨x, hx, mem_pgW.1 h⟩
  · rintro ⟨x, hx, h⟩
    exact ⟨x, hx, mem_pgW.2 h⟩
/-- deeds that write, none of them to sector i -/
def Off (i : Nat) (ds : List De) : Prop := ∀ d ∈ ds, ∃ (a : Nat) (s : ByteArray), d = .wr (a : Int) s ∧ i ≠ a
theorem exs_off : ∀ {ds : List De} {i : Nat} {A : List Sec}, Off i ds → (exs ds A)[i]? = A[i]?
  | [], _, _, _ => rfl
  | d :: ds, i, A, h => by
    obtain ⟨a, s, rfl, ha⟩ := h d (List.mem_cons_self ..)
    rw [exs_cons, exs_off (fun x hx => h x (List.mem_cons_of_mem _ hx)), ex_wr_out (by rw [Int.toNat_natCast]; exact ha)]
theorem Off.take {i : Nat} {ds : List De} (h : Off i ds) (k : Nat) : Off i (ds.take k) := fun d hd => h d (List.mem_of_mem_take hd)
theorem Off.app {i : Nat} {ds es : List De} (h : Off i ds) (g : Off i es) : Off i (ds ++ es) := fun d hd => (List.mem_append.1 hd).elim (h d) (g d)
theorem off_blk {i : Nat} {xs : List (Nat × ByteArray)} (h : ∀ x ∈ xs, ∀ j, j < 4 → i ≠ x.1 + j) : Off i (blkW xs) := by
  intro d hd
  obtain ⟨x, hx, j, hj, rfl⟩ := mem_blkW.1 hd
  exact ⟨_, _, rfl, h x hx j hj⟩
theorem off_pg {i b : Nat} {s : ByteArray} (h : ∀ j, j < 4 → i ≠ b + j) : Off i (pgW b s) := by
  intro d hd
  obtain ⟨j, hj, rfl⟩ := mem_pgW.1 hd
  exact ⟨_, _, rfl, h j hj⟩
theorem pg_in {b j : Nat} {s : ByteArray} {A : List Sec} {y : Sec} (hj : j < 4) (hy : A[b + j]? = some y) : (exs (pgW b s) A)[b + j]? = some ⟨y.s, some (pad (chunk s j))⟩ := by
  have key : ∀ (n : Nat) (B : List Sec), (∀ y, B[b + j]? = some y → j < n → (exs ((List.range n).map fun j => De.wr ((b + j : Nat) : Int) (chunk s j)) B)[b + j]? = some ⟨y.s, some (pad (chunk s j))⟩) ∧ ((¬ j < n) → (exs ((List.range n).map fun j => De.wr ((b + j : Nat) : Int) (chunk s j)) B)[b + j]? = B[b + j]?) := by
    intro n
    induction n with
    | zero => intro B; exact ⟨fun y _ h => absurd h (by omega), fun _ => rfl⟩
    | succ n ih =>
      intro B
      obtain ⟨h1, h2⟩ := ih B
      rw [List.range_succ, List.map_append, exs_app]
      refine ⟨fun y hy hjn => ?_, fun hjn => ?_⟩
      · show (De.ex (.wr ((b + n : Nat) : Int) (chunk s n)) _)[b + j]? = _
        by_cases e : j = n
        · subst e
          exact ex_wr_in (by rw [Int.toNat_natCast]) (by rw [h2 (by omega)]; exact hy)
        · rw [ex_wr_out (by rw [Int.toNat_natCast]; omega), h1 y hy (by omega)]
      · show (De.ex (.wr ((b + n : Nat) : Int) (chunk s n)) _)[b + j]? = _
        rw [ex_wr_out (by rw [Int.toNat_natCast]; omega), h2 (by omega)]
  exact (key 4 A).1 y hy hj
theorem blk_in {b j : Nat} {s : ByteArray} (hj : j < 4) : ∀ {xs : List (Nat × ByteArray)} {A : List Sec} {y : Sec}, (xs.map (·.1)).Nodup → (∀ x ∈ xs, x.1 % 4 = 2) → (b, s) ∈ xs → A[b + j]? = some y → (exs (blkW xs) A)[b + j]? = some ⟨y.s, some (pad (chunk s j))⟩
  | [], _, _, _, _, h, _ => by simp at h
  | x :: xs, A, y, hn, hm, h, hy => by
    rw [List.map_cons] at hn
    obtain ⟨hn1, hn2⟩ := List.nodup_cons.1 hn
    rw [blkW_cons, exs_app]
    rcases List.mem_cons.1 h with rfl | h
    · rw [exs_off (off_blk fun x hx j' hj' e => ?_)]
      · exact pg_in hj hy
      · have h1 := hm x (List.mem_cons_of_mem _ hx)
        have h2 := hm (b, s) (List.mem_cons_self ..)
        have h2 : b % 4 = 2 := h2
        have : x.1 = b := by omega
        exact hn1 (List.mem_map.2 ⟨x, hx, this⟩)
    · refine blk_in hj hn2 (fun x hx => hm x (List.mem_cons_of_mem _ hx)) h ?_
      rw [exs_off (off_pg fun j' hj' e => ?_)]
      · exact hy
      · have h1 := hm x (List.mem_cons_self ..)
        have h2 := hm (b, s) (List.mem_cons_of_mem _ h)
        have h2 : b % 4 = 2 := h2
        have : x.1 = b := by omega
        exact hn1 (List.mem_map.2 ⟨(b, s), h, this.symm⟩)
theorem good_blk {N : Nat} {xs : List (Nat × ByteArray)} (h : ∀ x ∈ xs, x.1 + 4 ≤ N ∧ x.2.size = 256) : ∀ d ∈ blkW xs, d.good N := by
  intro d hd
  obtain ⟨x, hx, j, hj, rfl⟩ := mem_blkW.1 hd
  obtain ⟨h1, h2⟩ := h x hx
  exact ⟨by omega, by omega, Nat.le_of_eq (chunk_size h2 hj)⟩
/-- a crash: what is sure stays; a mark says what one of both says -/
def Cr (A A' : List Sec) : Prop := A'.length = A.length ∧ ∀ (i : Nat) (x : Sec), A[i]? = some x → ∃ z, A'[i]? = some ⟨z, none⟩ ∧ (x.u = none → z = x.s) ∧ (mkd z.1 = mkd x.s.1 ∨ mkd z.1 = mkd x.now.1)
theorem Cr.sure {A A' : List Sec} (h : Cr A A') {i : Nat} {z : Sct} (hz : A[i]? = some ⟨z, none⟩) : A'[i]? = some ⟨z, none⟩ := by
  obtain ⟨y, h1, h2, _⟩ := h.2 i _ hz
  have e : y = z := h2 rfl
  rw [h1, e]
theorem Cr.all {A A' : List Sec} (h : Cr A A') : ∀ x ∈ A', x.u = none := by
  intro x hx
  obtain ⟨i, hi, rfl⟩ := List.mem_iff_getElem.1 hx
  have hi2 : i < A.length := by rw [← h.1]; exact hi
  obtain ⟨z, h1, _⟩ := h.2 i A[i] (List.getElem?_eq_getElem hi2)
  rw [List.getElem?_eq_getElem hi] at h1
  rw [Option.some.inj h1]
theorem mkd_trn (x s : Sct) (c : Nat) : mkd (torn x s c).1 = mkd s.1 ∨ mkd (torn x s c).1 = mkd x.1 := by
  have hb := byL_torn x s c
  cases c with
  | zero =>
    left
    unfold mkd
    rw [hb]
    rfl
  | succ c =>
    right
    unfold mkd
    rw [hb]
    have hx : (byL x.1).length = 64 := by rw [byL_len, x.2]
    cases h : byL x.1 with
    | nil => rw [h] at hx; cases hx
    | cons a r => rfl
end Go.Proofs.YtongpnolikkknaaDoor

set_option maxRecDepth 20000
namespace Go.Proofs.YtongpnolikkknaaDoor
open Sh RowKit Go.MapKept
theorem pad_64 {s : ByteArray} (h : s.size = 64) : (pad s).1 = s := by
  show strOfNums (padL s) = s
  unfold padL
  rw [h, List.take_of_length_le (by rw [byL_len]; omega)]
  show strOfNums (byL s ++ []) = s
  rw [List.append_nil, son_byL]
theorem pad_chunk {s : ByteArray} {j : Nat} (h : s.size = 256) (hj : j < 4) : (pad (chunk s j)).1 = chunk s j := pad_64 (chunk_size h hj)
def PgS (A : List Sec) (L : List ByteArray) : Prop := ∀ (n : Nat) (s : ByteArray), L[n]? = some s → ∀ j, j < 4 → A[126 + 4 * n + j]? = some ⟨pad (chunk s j), none⟩
def Ing (A : List Sec) (L : List ByteArray) (l : List Int) : Prop := ∃ d : Sct, A[1]? = some ⟨d, none⟩ ∧ dirB d.1 = true ∧ lst d.1 = l ∧ (∀ n ∈ l, n < (L.length : Int)) ∧
  (∀ (k : Nat) (n : Int) (s : ByteArray), l[k]? = some n → L[n.toNat]? = some s → ∀ j, j < 4 → A[2 + 4 * k + j]? = some ⟨pad (chunk s j), none⟩) ∧
  (∀ (n : Nat) (s : ByteArray), ((n : Nat) : Int) ∉ l → L[n]? = some s → ∀ j, j < 4 → A[126 + 4 * n + j]? = some ⟨pad (chunk s j), none⟩)
def Mk (A : List Sec) (b : Bool) : Prop := ∃ z : Sct, A[0]? = some ⟨z, none⟩ ∧ mkd z.1 = b
structure Fit (A : List Sec) (L : List ByteArray) : Prop where
  len : 126 + 4 * L.length ≤ A.length
  sz : ∀ s ∈ L, s.size = 256
  n1 : 1 ≤ L.length
  n2 : L.length ≤ 160
def Holds (A : List Sec) (L : List ByteArray) : Prop := Mk A false ∧ PgS A L ∨ Mk A true ∧ ∃ l, Ing A L l
def AllS (A : List Sec) : Prop := ∀ x ∈ A, x.u = none
theorem PgS.sub {A A' : List Sec} {L : List ByteArray} (h : PgS A L) (hs : ∀ i z, 126 ≤ i → A[i]? = some ⟨z, none⟩ → A'[i]? = some ⟨z, none⟩) : PgS A' L := fun n s hn j hj => hs _ _ (by omega) (h n s hn j hj)
theorem Ing.ok {A : List Sec} {L : List ByteArray} {l : List Int} (h : Ing A L l) : l.length ≤ 31 ∧ l.Nodup ∧ ∀ n ∈ l, 0 ≤ n ∧ n < (L.length : Int) := by
  obtain ⟨d, _, hd, rfl, hl, _⟩ := h
  obtain ⟨_, h2, h3, h4⟩ := dirB_lst hd
  exact ⟨h2, h3, fun n hn => ⟨(h4 n hn).1, hl n hn⟩⟩
theorem Ing.sub {A A' : List Sec} {L : List ByteArray} {l : List Int} (h : Ing A L l) (hs : ∀ i z, i ≠ 0 → (∀ n ∈ l, ∀ j, j < 4 → i ≠ 126 + 4 * n.toNat + j) → A[i]? = some ⟨z, none⟩ → A'[i]? = some ⟨z, none⟩) : Ing A' L l := by
  obtain ⟨h31, hnd, hbd⟩ := h.ok
  obtain ⟨d, h1, hd, hl, hb, him, hpg⟩ := h
  refine ⟨d, hs _ _ (by omega) (fun n _ j _ => by omega) h1, hd, hl, hb, fun k n s hk hn j hj => hs _ _ (by omega) (fun n' _ j' _ => ?_) (him k n s hk hn j hj), fun n s hn hs' j hj => hs _ _ (by omega) (fun n' hn' j' hj' e => ?_) (hpg n s hn hs' j hj)⟩
  · have := (List.getElem?_eq_some_iff.1 hk).1
    omega
  · have := hbd n' hn'
    have e2 : ((n : Nat) : Int) = n' := by omega
    exact hn (e2 ▸ hn')
theorem Mk.sub {A A' : List Sec} {b : Bool} (h : Mk A b) (hs : ∀ z, A[0]? = some ⟨z, none⟩ → A'[0]? = some ⟨z, none⟩) : Mk A' b := by
  obtain ⟨z, h1, h2⟩ := h
  exact ⟨z, hs z h1, h2⟩
theorem sy_sub {A : List Sec} {i : Nat} {z : Sct} (h : A[i]? = some ⟨z, none⟩) : (De.sy.ex A)[i]? = some ⟨z, none⟩ := by rw [ex_sy, h]; rfl
theorem sy_all (A : List Sec) : AllS (De.sy.ex A) := by
  intro x hx
  obtain ⟨y, _, rfl⟩ := List.mem_map.1 hx
  rfl
theorem wr0_at {A : List Sec} {b c : Bool} (h : Mk A b) : ∃ z : Sct, mkd z.1 = b ∧ ((De.wr 0 (markB c).1).ex A)[0]? = some ⟨z, some (markB c)⟩ := by
  obtain ⟨z, h1, h2⟩ := h
  refine ⟨z, h2, ?_⟩
  have e := ex_wr_in (i := 0) (a := (0 : Int)) (s := (markB c).1) rfl h1
  rw [e]
  have : pad (markB c).1 = markB c := Subtype.ext (pad_64 (markB c).2)
  rw [this]
theorem wr0_cr {A A' : List Sec} {b c : Bool} (h : Mk A b) (hc : Cr ((De.wr 0 (markB c).1).ex A) A') : Mk A' b ∨ Mk A' c := by
  obtain ⟨z, h1, h2⟩ := wr0_at (c := c) h
  obtain ⟨y, h3, _, h4⟩ := hc.2 0 _ h2
  rcases h4 with h4 | h4
  · exact .inl ⟨y, h3, by rw [h4]; exact h1⟩
  · exact .inr ⟨y, h3, by rw [h4]; exact mkd_mark c⟩
theorem wr0_sy {A : List Sec} {b c : Bool} (h : Mk A b) : Mk (De.sy.ex ((De.wr 0 (markB c).1).ex A)) c := by
  obtain ⟨z, h1, h2⟩ := wr0_at (c := c) h
  exact ⟨markB c, by rw [ex_sy, h2]; rfl, mkd_mark c⟩
theorem wr0_out {A : List Sec} {c : Bool} {i : Nat} (h : i ≠ 0) : ((De.wr 0 (markB c).1).ex A)[i]? = A[i]? := ex_wr_out h
/-- at each deed, not behind the last -/
def Pre (C : List Sec → Prop) (ds : List De) (A : List Sec) : Prop := ∀ k, k < ds.length → C (exs (ds.take k) A)
theorem Pre_app {C : List Sec → Prop} {ds es : List De} {A : List Sec} (h : Pre C ds A) (g : Pre C es (exs ds A)) : Pre C (ds ++ es) A := by
  intro k hk
  rw [List.length_append] at hk
  by_cases c : k < ds.length
  · rw [List.take_append_of_le_length (by omega)]
    exact h k c
  · rw [List.take_append, List.take_of_length_le (by omega), exs_app]
    exact g _ (by omega)
theorem Pre_cons {C : List Sec → Prop} {d : De} {ds : List De} {A : List Sec} (h : C A) (g : Pre C ds (d.ex A)) : Pre C (d :: ds) A := by
  intro k hk
  cases k with
  | zero => exact h
  | succ k => rw [List.take_succ_cons, exs_cons]; exact g k (by rw [List.length_cons] at hk; omega)
theorem Pre_nil {C : List Sec → Prop} {A : List Sec} : Pre C [] A := fun k hk => absurd hk (by simp)
theorem Pre_off {C : List Sec → Prop} {ds : List De} {A : List Sec} (h : ∀ A' : List Sec, (∀ i, Off i ds → A'[i]? = A[i]?) → C A') : Pre C ds A := fun k _ => h _ fun i hi => exs_off (hi.take k)
theorem Pre.mono {C C' : List Sec → Prop} {ds : List De} {A : List Sec} (h : Pre C ds A) (hc : ∀ A, C A → C' A) : Pre C' ds A := fun k hk => hc _ (h k hk)
/-- behind a crash -/
def CrH (L L2 : List ByteArray) (A : List Sec) : Prop := ∀ A', Cr A A' → Holds A' L ∨ Holds A' L2
theorem crh_no {A : List Sec} {L L2 : List ByteArray} (hm : Mk A false) (hp : PgS A L) : CrH L L2 A := fun A' hc => .inl (.inl ⟨hm.sub fun z h => hc.sure h, hp.sub fun i z _ h => hc.sure h⟩)
theorem crh_yes {A : List Sec} {L L2 : List ByteArray} {l : List Int} (hm : Mk A true) (hp : Ing A L l) : CrH L L2 A := fun A' hc => .inl (.inr ⟨hm.sub fun z h => hc.sure h, l, hp.sub fun i z _ _ h => hc.sure h⟩)
/-- the mark taken away -/
theorem tail_no {A : List Sec} {L L2 : List ByteArray} {l : List Int} (hm : Mk A true) (hi : Ing A L l) (hp : PgS A L2) :
    Pre (CrH L L2) (markD false) A ∧ Mk (exs (markD false) A) false ∧ PgS (exs (markD false) A) L2 ∧ AllS (exs (markD false) A) := by
  refine ⟨Pre_cons (crh_yes hm hi) (Pre_cons (fun A' hc => ?_) Pre_nil), wr0_sy hm, ?_, sy_all _⟩
  · rcases wr0_cr hm hc with h | h
    · exact .inl (.inr ⟨h, l, hi.sub fun i z h0 _ h => hc.sure (by rw [wr0_out h0]; exact h)⟩)
    · exact .inr (.inl ⟨h, hp.sub fun i z h0 h => hc.sure (by rw [wr0_out (by omega)]; exact h)⟩)
  · exact hp.sub fun i z h0 h => sy_sub (by rw [wr0_out (by omega)]; exact h)
theorem tail_yes {A : List Sec} {L L2 : List ByteArray} {l : List Int} (hm : Mk A false) (hi : Ing A L l) (hp : PgS A L) :
    Pre (CrH L L2) (markD true) A ∧ Mk (exs (markD true) A) true ∧ PgS (exs (markD true) A) L ∧ Ing (exs (markD true) A) L l := by
  refine ⟨Pre_cons (crh_no hm hp) (Pre_cons (fun A' hc => ?_) Pre_nil), wr0_sy hm, ?_, ?_⟩
  · rcases wr0_cr hm hc with h | h
    · exact .inl (.inl ⟨h, hp.sub fun i z h0 h => hc.sure (by rw [wr0_out (by omega)]; exact h)⟩)
    · exact .inl (.inr ⟨h, l, hi.sub fun i z h0 _ h => hc.sure (by rw [wr0_out h0]; exact h)⟩)
  · exact hp.sub fun i z h0 h => sy_sub (by rw [wr0_out (by omega)]; exact h)
  · exact hi.sub fun i z h0 _ h => sy_sub (by rw [wr0_out h0]; exact h)
/-- pages read -/
theorem rd_nat {D : Dv} {i : Nat} {y : Sec} (h : D.A[i]? = some y) : D.rd ((i : Nat) : Int) = y.now.1 := by
  unfold Dv.rd Dv.at
  rw [if_pos (by omega), Int.toNat_natCast, h]; rfl
theorem join_at {D : Dv} {b : Nat} {g : Nat → Int} {s : ByteArray} (hg : ∀ j, g j = ((b + j : Nat) : Int)) (hs : s.size = 256) (h : ∀ j, j < 4 → D.A[b + j]? = some ⟨pad (chunk s j), none⟩) : (joinB (rdL D g 4)).1 = s := by
  have e : rdL D g 4 = cutL s 4 := by
    unfold rdL cutL
    refine List.map_congr_left fun j hj => ?_
    have hj := List.mem_range.1 hj
    rw [hg j, rd_nat (h j hj)]
    exact pad_chunk hs hj
  rw [e, joinB_ok (by rw [cutL_len]) (fun x hx => by
    obtain ⟨j, hj, rfl⟩ := List.mem_map.1 hx
    exact chunk_size hs (List.mem_range.1 hj))]
  exact (cut_back hs).2
theorem plG_nat (n : Nat) (j : Nat) : plG ((n : Nat) : Int) j = ((126 + 4 * n + j : Nat) : Int) := by unfold plG; omega
theorem imG_nat (n : Nat) (j : Nat) : imG n j = ((2 + 4 * n + j : Nat) : Int) := by unfold imG; omega
theorem pgL_eq {D : Dv} {L : List ByteArray} (hz : ∀ s ∈ L, s.size = 256) (hp : PgS D.A L) : pgL D L.length = L := by
  apply List.ext_getElem?
  intro n
  unfold pgL
  rw [List.getElem?_map]
  by_cases c : n < L.length
  · rw [List.getElem?_range c, List.getElem?_eq_getElem c]
    have := hz L[n] (List.getElem_mem c)
    show some (pgP D n) = _
    unfold pgP
    rw [join_at (plG_nat n) this (hp n _ (List.getElem?_eq_getElem c))]
  · rw [List.getElem?_eq_none (by rw [List.length_range]; omega), List.getElem?_eq_none (by omega)]; rfl
theorem openB_un {D : Dv} {L : List ByteArray} (h : Fit D.A L) : openB D (L.length : Nat) = if mkd (D.rd 0) = true then recB D (pgL D L.length) else (0, D, pgL D L.length) := by
  have := h.len
  have := h.n1
  have := h.n2
  unfold openB
  rw [if_neg (by omega), Int.toNat_natCast]
theorem mk_rd {D : Dv} {b : Bool} (h : Mk D.A b) : mkd (D.rd 0) = b := by
  obtain ⟨z, h1, h2⟩ := h
  rw [show (0 : Int) = ((0 : Nat) : Int) from rfl, rd_nat h1]
  exact h2
theorem open_no {D : Dv} {L : List ByteArray} (h : Fit D.A L) (hm : Mk D.A false) (hp : PgS D.A L) : openB D (L.length : Nat) = (0, D, L) := by
  rw [openB_un h, mk_rd hm, if_neg (by decide), pgL_eq h.sz hp]
def recX (L : List ByteArray) (l : List Int) : List (Nat × ByteArray) := l.map fun n => (126 + 4 * n.toNat, L.getD n.toNat ⟨#[]⟩)
def recD (L : List ByteArray) (l : List Int) : List De := blkW (recX L l) ++ [.sy] ++ markD false
theorem getD_some {L : List ByteArray} {n : Nat} (h : n < L.length) : L[n]? = some (L.getD n ⟨#[]⟩) := by rw [List.getD_eq_getElem?_getD, List.getElem?_eq_getElem h]; rfl
theorem recLs_ok {D : Dv} {L : List ByteArray} (hz : ∀ s ∈ L, s.size = 256) : ∀ (l : List Int) (k : Nat) (M : List ByteArray) (ds : List De), (∀ n ∈ l, 0 ≤ n ∧ n < (L.length : Int)) → M.length = L.length → (∀ i n, l[i]? = some n → imP D (k + i) = L.getD n.toNat ⟨#[]⟩) →
    ∃ M', recLs D l k M ds = some (M', ds ++ blkW (recX L l)) ∧ ∀ n : Nat, M'[n]? = if ((n : Nat) : Int) ∈ l then L[n]? else M[n]?
  | [], k, M, ds, _, _, _ => ⟨M, by show some (M, ds) = _; rw [show blkW (recX L []) = [] from rfl, List.append_nil], fun n => by simp⟩
  | a :: l, k, M, ds, hb, hM, hi => by
    have ha := hb a (List.mem_cons_self ..)
    have h0 := hi 0 a rfl
    rw [Nat.add_zero] at h0
    obtain ⟨M', h1, h2⟩ := recLs_ok hz l (k + 1) (M.set a.toNat (imP D k)) (ds ++ pageD (plG a) (imP D k)) (fun n hn => hb n (List.mem_cons_of_mem _ hn)) (by rw [List.length_set]; exact hM) (fun i n hn => by
      rw [show k + 1 + i = k + (i + 1) by omega]
      exact hi (i + 1) n hn)
    obtain ⟨a, rfl⟩ := Int.eq_ofNat_of_zero_le ha.1
    have hlt : a < L.length := by omega
    rw [Int.toNat_natCast] at h0
    have hs := hz _ (List.mem_of_getElem? (getD_some hlt))
    refine ⟨M', ?_, fun n => ?_⟩
    · show (if (M.length : Int) ≤ ((a : Nat) : Int) then none else _) = _
      rw [if_neg (by omega), h1]
      have e : pageD (plG ((a : Nat) : Int)) (imP D k) = pgW (126 + 4 * a) (L.getD a ⟨#[]⟩) := by
        rw [h0]
        exact pageD_pgW hs (plG_nat a)
      rw [e, List.append_assoc]; rfl
    · rw [h2 n, Int.toNat_natCast]
      by_cases c : ((n : Nat) : Int) ∈ l
      · rw [if_pos c, if_pos (List.mem_cons_of_mem _ c)]
      · rw [if_neg c]
        by_cases e : n = a
        · subst e
          rw [if_pos (List.mem_cons_self ..), List.getElem?_set_self (by omega), h0, getD_some hlt]
        · rw [List.getElem?_set_ne (fun h => e h.symm), if_neg ?_]
          intro h
          rcases List.mem_cons.1 h with h | h
          · omega
          · exact c h
theorem open_yes {D : Dv} {L : List ByteArray} {l : List Int} (h : Fit D.A L) (hm : Mk D.A true) (hi : Ing D.A L l) : openB D (L.length : Nat) = ((runs (recD L l) D).1, (runs (recD L l) D).2, L) := by
  obtain ⟨h31, hnd, hbd⟩ := hi.ok
  rw [openB_un h, mk_rd hm, if_pos rfl]
  obtain ⟨d, h1, hd, hl, hb, him, hpg⟩ := hi
  have e1 : D.rd 1 = d.1 := rd_nat (i := 1) h1
  unfold recB
  rw [e1, hd, if_pos rfl, hl]
  obtain ⟨M, q1, q2⟩ := recLs_ok (D := D) h.sz l 0 (pgL D L.length) [] hbd (pgL_len _ _) (fun i n hn => by
    have hmem := List.mem_of_getElem? hn
    have := hbd n hmem
    have hlt : n.toNat < L.length := by omega
    unfold imP
    rw [Nat.zero_add]
    exact join_at (imG_nat i) (h.sz _ (List.mem_of_getElem? (getD_some hlt))) (him i n _ hn (getD_some hlt)))
  rw [q1]
  have eM : M = L := by
    apply List.ext_getElem?
    intro n
    rw [q2 n]
    by_cases c : ((n : Nat) : Int) ∈ l
    · rw [if_pos c]
    · rw [if_neg c]
      unfold pgL
      rw [List.getElem?_map]
      by_cases cl : n < L.length
      · rw [List.getElem?_range cl]
        show some (pgP D n) = _
        unfold pgP
        rw [getD_some cl, join_at (plG_nat n) (h.sz _ (List.mem_of_getElem? (getD_some cl))) (hpg n _ c (getD_some cl))]
      · rw [List.getElem?_eq_none (by rw [List.length_range]; omega), List.getElem?_eq_none (by omega)]; rfl
  show ((runs ([] ++ blkW (recX L l) ++ [.sy] ++ markD false) D).1, (runs ([] ++ blkW (recX L l) ++ [.sy] ++ markD false) D).2, M) = _
  rw [eM, List.nil_append]
  rfl
theorem recX_mem {L : List ByteArray} {l : List Int} {x : Nat × ByteArray} (h : x ∈ recX L l) : ∃ n ∈ l, x = (126 + 4 * n.toNat, L.getD n.toNat ⟨#[]⟩) := by
  obtain ⟨n, hn, rfl⟩ := List.mem_map.1 h
  exact ⟨n, hn, rfl⟩
theorem nodup_map_inj {α β : Type} {f : α → β} {l : List α} (h : l.Nodup) (hf : ∀ a ∈ l, ∀ b ∈ l, f a = f b → a = b) : (l.map f).Nodup := by
  induction l with
  | nil => exact List.nodup_nil
  | cons a l ih =>
    obtain ⟨h1, h2⟩ := List.nodup_cons.1 h
    rw [List.map_cons, List.nodup_cons]
    refine ⟨fun hc => ?_, ih h2 fun a ha b hb => hf a (List.mem_cons_of_mem _ ha) b (List.mem_cons_of_mem _ hb)⟩
    obtain ⟨b, hb, e⟩ := List.mem_map.1 hc
    exact h1 (hf b (List.mem_cons_of_mem _ hb) a (List.mem_cons_self ..) e ▸ hb)
/-- brought back -/
theorem rec_stage {A : List Sec} {L : List ByteArray} {l : List Int} (h : Fit A L) (hm : Mk A true) (hi : Ing A L l) :
    Pre (CrH L L) (recD L l) A ∧ Mk (exs (recD L l) A) false ∧ PgS (exs (recD L l) A) L ∧ (∀ d ∈ recD L l, d.good A.length) := by
  obtain ⟨h31, hnd, hbd⟩ := hi.ok
  have hlen := h.len
  have off0 : Off 0 (blkW (recX L l)) := off_blk fun x hx j hj => by obtain ⟨n, hn, rfl⟩ := recX_mem hx; show 0 ≠ 126 + 4 * n.toNat + j; omega
  have offI : ∀ i, (∀ n ∈ l, ∀ j, j < 4 → i ≠ 126 + 4 * n.toNat + j) → Off i (blkW (recX L l)) := fun i hi => off_blk fun x hx j hj => by obtain ⟨n, hn, rfl⟩ := recX_mem hx; exact hi n hn j hj
  have keep : ∀ A' : List Sec, (∀ i, Off i (blkW (recX L l)) → A'[i]? = A[i]?) → Mk A' true ∧ Ing A' L l := fun A' hA => ⟨hm.sub fun z hz => by rw [hA 0 off0]; exact hz, hi.sub fun i z _ h2 hz => by rw [hA i (offI i h2)]; exact hz⟩
  obtain ⟨m1, i1⟩ := keep (exs (blkW (recX L l)) A) fun i hi => exs_off hi
  have m2 : Mk (De.sy.ex (exs (blkW (recX L l)) A)) true := m1.sub fun z hz => sy_sub hz
  have i2 : Ing (De.sy.ex (exs (blkW (recX L l)) A)) L l := i1.sub fun i z _ _ hz => sy_sub hz
  have nd : ((recX L l).map (·.1)).Nodup := by
    have e : (recX L l).map (·.1) = l.map fun n => 126 + 4 * n.toNat := by unfold recX; rw [List.map_map]; rfl
    rw [e]
    exact nodup_map_inj hnd fun a ha b hb e => by have := hbd a ha; have := hbd b hb; omega
  have p2 : PgS (De.sy.ex (exs (blkW (recX L l)) A)) L := by
    intro n s hs j hj
    have hlt := (List.getElem?_eq_some_iff.1 hs).1
    by_cases c : ((n : Nat) : Int) ∈ l
    · have hmem : (126 + 4 * n, s) ∈ recX L l := by
        refine List.mem_map.2 ⟨_, c, ?_⟩
        rw [Int.toNat_natCast, List.getD_eq_getElem?_getD, hs]; rfl
      have hy : A[126 + 4 * n + j]? = some (A[126 + 4 * n + j]'(by omega)) := List.getElem?_eq_getElem (by omega)
      rw [ex_sy, blk_in hj nd (fun x hx => by obtain ⟨n, hn, rfl⟩ := recX_mem hx; show (126 + 4 * n.toNat) % 4 = 2; omega) hmem hy]
      rfl
    · obtain ⟨d, _, _, _, _, _, hpg⟩ := i2
      exact hpg n s c hs j hj
  obtain ⟨t1, t2, t3, t4⟩ := tail_no (L2 := L) m2 i2 p2
  have e : exs (recD L l) A = exs (markD false) (De.sy.ex (exs (blkW (recX L l)) A)) := by unfold recD; rw [exs_app, exs_app]; rfl
  refine ⟨?_, by rw [e]; exact t2, by rw [e]; exact t3, ?_⟩
  · refine Pre_app (Pre_app (Pre_off fun A' hA => ?_) (Pre_cons (crh_yes m1 i1) Pre_nil)) ?_
    · obtain ⟨a1, a2⟩ := keep A' hA
      exact crh_yes a1 a2
    · rw [exs_app]; exact t1
  · intro d hd
    unfold recD at hd
    rcases List.mem_append.1 hd with hd | hd
    · rcases List.mem_append.1 hd with hd | hd
      · exact good_blk (fun x hx => by
          obtain ⟨n, hn, rfl⟩ := recX_mem hx
          have := hbd n hn
          have hlt : n.toNat < L.length := by omega
          exact ⟨by show 126 + 4 * n.toNat + 4 ≤ _; omega, h.sz _ (List.mem_of_getElem? (getD_some hlt))⟩) d hd
      · rw [List.mem_singleton.1 hd]; trivial
    · rcases List.mem_cons.1 hd with rfl | hd
      · exact ⟨by omega, by omega, Nat.le_of_eq (markB false).2⟩
      · rw [List.mem_singleton.1 hd]; trivial
/-- opened: the pages it held -/
theorem open_two {D : Dv} {L : List ByteArray} (h : Fit D.A L) (hh : Holds D.A L) :
    (openB D (L.length : Nat)).2.2 = L ∧ (openB D (L.length : Nat)).2.1.h = D.h ∧ D.c ≤ (openB D (L.length : Nat)).2.1.c ∧ (openB D (L.length : Nat)).2.1.c ≤ D.c + 200 ∧ (openB D (L.length : Nat)).2.1.A.length = D.A.length ∧
    ((openB D (L.length : Nat)).1 = 0 ∧ Mk (openB D (L.length : Nat)).2.1.A false ∧ PgS (openB D (L.length : Nat)).2.1.A L ∨ (openB D (L.length : Nat)).1 = 9) ∧
    (∀ A', Cr (openB D (L.length : Nat)).2.1.A A' → Holds A' L) ∧ (D.c + 200 ≤ D.h → (openB D (L.length : Nat)).1 = 0) := by
  rcases hh with ⟨hm, hp⟩ | ⟨hm, l, hi⟩
  · rw [open_no h hm hp]
    refine ⟨rfl, rfl, Int.le_refl _, by show D.c ≤ D.c + 200; omega, rfl, .inl ⟨rfl, hm, hp⟩, fun A' hc => ?_, fun _ => rfl⟩
    exact (crh_no (L2 := L) hm hp A' hc).elim id id
  · rw [open_yes h hm hi]
    obtain ⟨s1, s2, s3, s4⟩ := rec_stage h hm hi
    obtain ⟨h31, hnd, hbd⟩ := hi.ok
    have hl : (recD L l).length ≤ 200 := by
      unfold recD
      rw [List.length_append, List.length_append, blkW_len]
      have : (recX L l).length = l.length := by unfold recX; simp
      simp only [List.length_cons, List.length_nil, markD]
      omega
    have hc := runs_c (recD L l) D
    have hA : (runs (recD L l) D).2.A.length = D.A.length := by
      rcases runs_two (recD L l) D s4 with e | ⟨_, _, k, _, e⟩
      · rw [e]; exact exs_len _ _
      · rw [e]; exact exs_len _ _
    have hH : (runs (recD L l) D).2.h = D.h := by
      rcases runs_two (recD L l) D s4 with e | ⟨_, e, _⟩
      · rw [e]
      · exact e
    refine ⟨rfl, hH, hc.1, by have := hc.2; show (runs (recD L l) D).2.c ≤ _; omega, hA, ?_, ?_, fun hd => by
      show (runs (recD L l) D).1 = 0
      rw [runs_ok _ _ s4 (by omega)]⟩
    · rcases runs_two (recD L l) D s4 with e | ⟨e, _⟩
      · left
        show (runs (recD L l) D).1 = 0 ∧ Mk (runs (recD L l) D).2.A false ∧ PgS (runs (recD L l) D).2.A L
        rw [e]
        exact ⟨rfl, s2, s3⟩
      · right; exact e
    · intro A' hcr
      have hcr : Cr (runs (recD L l) D).2.A A' := hcr
      rcases runs_two (recD L l) D s4 with e | ⟨_, _, k, hk, e⟩
      · rw [e] at hcr
        exact (crh_no (L2 := L) s2 s3 A' hcr).elim id id
      · rw [e] at hcr
        exact (s1 k hk A' hcr).elim id id
end Go.Proofs.YtongpnolikkknaaDoor

set_option maxRecDepth 20000
namespace Go.Proofs.YtongpnolikkknaaDoor
open Sh RowKit Go.MapKept
def imX (L : List ByteArray) (cs : List Ch) : List (Nat × ByteArray) := (List.range cs.length).map fun k => (2 + 4 * k, L.getD (chG cs k).1.toNat ⟨#[]⟩)
def pgX (cs : List Ch) : List (Nat × ByteArray) := cs.map fun c => (126 + 4 * c.1.toNat, c.2)
theorem chG_get {cs : List Ch} {k : Nat} (h : k < cs.length) : chG cs k = cs[k] := by
  unfold chG; rw [List.getD_eq_getElem?_getD, List.getElem?_eq_getElem h]; rfl
theorem ims_eq {L : List ByteArray} {cs : List Ch} (hz : ∀ s ∈ L, s.size = 256) (hb : ∀ x ∈ cs, 0 ≤ x.1 ∧ x.1 < (L.length : Int)) : imsD L cs cs.length = blkW (imX L cs) := by
  unfold imsD blkW imX
  rw [List.flatMap_map]
  have key : ∀ l : List Nat, (∀ k ∈ l, k < cs.length) → (l.flatMap fun k => pageD (imG k) (L.getD (chG cs k).1.toNat ⟨#[]⟩)) = l.flatMap fun k => pgW (2 + 4 * k) (L.getD (chG cs k).1.toNat ⟨#[]⟩) := by
    intro l
    induction l with
    | nil => intro _; rfl
    | cons a l ih =>
      intro h
      rw [List.flatMap_cons, List.flatMap_cons, ih fun k hk => h k (List.mem_cons_of_mem _ hk)]
      have ha := h a (List.mem_cons_self ..)
      have hx := hb _ (List.getElem_mem ha)
      have hlt : (chG cs a).1.toNat < L.length := by rw [chG_get ha]; omega
      rw [pageD_pgW (hz _ (List.mem_of_getElem? (getD_some hlt))) (imG_nat a)]
  exact key _ fun k hk => List.mem_range.1 hk
theorem pgs_eq {cs : List Ch} (hz : ∀ x ∈ cs, x.2.size = 256) (hb : ∀ x ∈ cs, 0 ≤ x.1) : pgsD cs cs.length = blkW (pgX cs) := by
  have e : pgX cs = (List.range cs.length).map fun k => (126 + 4 * (chG cs k).1.toNat, (chG cs k).2) := by
    apply List.ext_getElem?
    intro k
    unfold pgX
    rw [List.getElem?_map, List.getElem?_map]
    by_cases c : k < cs.length
    · rw [List.getElem?_range c, List.getElem?_eq_getElem c]
      show some (126 + 4 * cs[k].1.toNat, cs[k].2) = some (126 + 4 * (chG cs k).1.toNat, (chG cs k).2)
      rw [chG_get c]
    · rw [List.getElem?_eq_none (by omega), List.getElem?_eq_none (by rw [List.length_range]; omega)]; rfl
  rw [e]
  unfold pgsD blkW
  rw [List.flatMap_map]
  have key : ∀ l : List Nat, (∀ k ∈ l, k < cs.length) → (l.flatMap fun k => pageD (plG (chG cs k).1) (chG cs k).2) = l.flatMap fun k => pgW (126 + 4 * (chG cs k).1.toNat) (chG cs k).2 := by
    intro l
    induction l with
    | nil => intro _; rfl
    | cons a l ih =>
      intro h
      rw [List.flatMap_cons, List.flatMap_cons, ih fun k hk => h k (List.mem_cons_of_mem _ hk)]
      have ha := h a (List.mem_cons_self ..)
      have h1 := hz _ (List.getElem_mem ha)
      have h2 := hb _ (List.getElem_mem ha)
      rw [← chG_get ha] at h1 h2
      have e : plG (chG cs a).1 = plG (((chG cs a).1.toNat : Nat) : Int) := by rw [Int.toNat_of_nonneg h2]
      rw [e, pageD_pgW h1 (plG_nat _)]
  exact key _ fun k hk => List.mem_range.1 hk
theorem setL_out : ∀ (cs : List Ch) (L : List ByteArray) (n : Nat), (∀ x ∈ cs, x.1.toNat ≠ n) → (setL L cs)[n]? = L[n]?
  | [], L, n, _ => rfl
  | c :: cs, L, n, h => by
    show (setL (L.set c.1.toNat c.2) cs)[n]? = _
    rw [setL_out cs _ n fun x hx => h x (List.mem_cons_of_mem _ hx), List.getElem?_set_ne (h c (List.mem_cons_self ..))]
theorem setL_in : ∀ (cs : List Ch) (L : List ByteArray) (x : Ch), (cs.map (·.1)).Nodup → (∀ y ∈ cs, 0 ≤ y.1 ∧ y.1 < (L.length : Int)) → x ∈ cs → (setL L cs)[x.1.toNat]? = some x.2
  | [], L, x, _, _, h => by simp at h
  | c :: cs, L, x, hn, hb, h => by
    rw [List.map_cons] at hn
    obtain ⟨h1, h2⟩ := List.nodup_cons.1 hn
    show (setL (L.set c.1.toNat c.2) cs)[x.1.toNat]? = _
    rcases List.mem_cons.1 h with rfl | h
    · rw [setL_out cs _ _ fun y hy e => ?_]
      · have := hb x (List.mem_cons_self ..)
        rw [List.getElem?_set_self (by omega)]
      · have q1 := hb x (List.mem_cons_self ..)
        have q2 := hb y (List.mem_cons_of_mem _ hy)
        have : y.1 = x.1 := by omega
        exact h1 (List.mem_map.2 ⟨y, hy, this⟩)
    · exact setL_in cs _ x h2 (fun y hy => by rw [List.length_set]; exact hb y (List.mem_cons_of_mem _ hy)) h
theorem setL_sz {cs : List Ch} {L : List ByteArray} (hz : ∀ s ∈ L, s.size = 256) (hc : ∀ x ∈ cs, x.2.size = 256) : ∀ s ∈ setL L cs, s.size = 256 := by
  induction cs generalizing L with
  | nil => exact hz
  | cons c cs ih =>
    refine ih (fun s hs => ?_) (fun x hx => hc x (List.mem_cons_of_mem _ hx))
    rcases List.mem_or_eq_of_mem_set hs with h | rfl
    · exact hz s h
    · exact hc c (List.mem_cons_self ..)
/-- a commit's deeds -/
theorem commit_stage {A : List Sec} {L : List ByteArray} {cs : List Ch} (h : Fit A L) (hm : Mk A false) (hp : PgS A L) (hv : mayB false L.length cs = 0) :
    Pre (CrH L (setL L cs)) (stepsD L cs) A ∧ Mk (exs (stepsD L cs) A) false ∧ PgS (exs (stepsD L cs) A) (setL L cs) ∧ AllS (exs (stepsD L cs) A) ∧ (∀ d ∈ stepsD L cs, d.good A.length) ∧ (stepsD L cs).length = 8 * cs.length + 7 := by
  obtain ⟨_, h31, hbd, hnd, hsz⟩ := mayB_ok hv
  have hlen := h.len
  have n160 := h.n2
  have hbl : ∀ n ∈ cs.map (fun x : Ch => x.1), 0 ≤ n ∧ n < (L.length : Int) := fun n hn => by
    obtain ⟨x, hx, rfl⟩ := List.mem_map.1 hn
    exact hbd x hx
  have hr : rightB (cs.map (·.1)) = true := decide_eq_true ⟨hnd, fun x hx => by have := hbl x hx; omega⟩
  obtain ⟨_, hl1, _, hl3⟩ := dir_back (l := cs.map (·.1)) (by rw [List.length_map]; exact h31) hr
  have hd64 : (dirW (cs.map (·.1))).1.size = 64 := by
    unfold dirW
    rw [List.length_map, if_neg (by omega), if_pos hr]
    exact (pad _).2
  have eim := ims_eq h.sz hbd
  have epg := pgs_eq hsz fun x hx => (hbd x hx).1
  -- the first deeds
  have offP : ∀ i, (i = 0 ∨ 126 ≤ i) → Off i ([De.wr 1 (dirW (cs.map (·.1))).1] ++ blkW (imX L cs)) := by
    intro i hi
    refine Off.app (fun d hd => ⟨1, _, List.mem_singleton.1 hd, by omega⟩) (off_blk fun x hx j hj => ?_)
    obtain ⟨k, hk, rfl⟩ := List.mem_map.1 hx
    have := List.mem_range.1 hk
    show i ≠ 2 + 4 * k + j
    omega
  have off1 : Off 1 (blkW (imX L cs)) := off_blk fun x hx j hj => by
    obtain ⟨k, hk, rfl⟩ := List.mem_map.1 hx
    show 1 ≠ 2 + 4 * k + j
    omega
  have keep : ∀ A' : List Sec, (∀ i, Off i ([De.wr 1 (dirW (cs.map (·.1))).1] ++ blkW (imX L cs)) → A'[i]? = A[i]?) → Mk A' false ∧ PgS A' L := fun A' hA => ⟨hm.sub fun z hz => by rw [hA 0 (offP 0 (.inl rfl))]; exact hz, hp.sub fun i z hi hz => by rw [hA i (offP i (.inr hi))]; exact hz⟩
  obtain ⟨m1, p1⟩ := keep (exs ([De.wr 1 (dirW (cs.map (·.1))).1] ++ blkW (imX L cs)) A) fun i hi => exs_off hi
  have m2 : Mk (De.sy.ex (exs ([De.wr 1 (dirW (cs.map (·.1))).1] ++ blkW (imX L cs)) A)) false := m1.sub fun z hz => sy_sub hz
  have p2 : PgS (De.sy.ex (exs ([De.wr 1 (dirW (cs.map (·.1))).1] ++ blkW (imX L cs)) A)) L := p1.sub fun i z _ hz => sy_sub hz
  have i2 : Ing (De.sy.ex (exs ([De.wr 1 (dirW (cs.map (·.1))).1] ++ blkW (imX L cs)) A)) L (cs.map (·.1)) := by
    refine ⟨pad (dirW (cs.map (·.1))).1, ?_, by rw [pad_64 hd64]; exact hl3, by rw [pad_64 hd64]; exact hl1, fun n hn => (hbl n hn).2, fun k n s hk hs j hj => ?_, fun n s _ hs j hj => p2 n s hs j hj⟩
    · have hy : A[1]? = some (A[1]'(by omega)) := List.getElem?_eq_getElem (by omega)
      have e := ex_wr_in (i := 1) (a := (1 : Int)) (s := (dirW (cs.map (·.1))).1) rfl hy
      rw [ex_sy, exs_app, exs_off off1, exs_cons]
      show Option.map _ ((De.wr 1 (dirW (cs.map (·.1))).1).ex A)[1]? = _
      rw [e]; rfl
    · have hkl : k < cs.length := by have := (List.getElem?_eq_some_iff.1 hk).1; rwa [List.length_map] at this
      have hmem : (2 + 4 * k, s) ∈ imX L cs := by
        refine List.mem_map.2 ⟨k, List.mem_range.2 hkl, ?_⟩
        rw [List.getElem?_map, List.getElem?_eq_getElem hkl] at hk
        have : cs[k].1 = n := Option.some.inj hk
        rw [chG_get hkl, this, List.getD_eq_getElem?_getD, hs]; rfl
      have ndI : ((imX L cs).map (·.1)).Nodup := by
        have e : (imX L cs).map (·.1) = (List.range cs.length).map fun k => 2 + 4 * k := by unfold imX; rw [List.map_map]; rfl
        rw [e]
        exact nodup_map_inj List.nodup_range fun a _ b _ e => by omega
      have hy : (exs [De.wr 1 (dirW (cs.map (·.1))).1] A)[2 + 4 * k + j]? = some ((exs [De.wr 1 (dirW (cs.map (·.1))).1] A)[2 + 4 * k + j]'(by rw [exs_len]; omega)) := List.getElem?_eq_getElem _
      rw [ex_sy, exs_app, blk_in hj ndI (fun x hx => by obtain ⟨k, _, rfl⟩ := List.mem_map.1 hx; show (2 + 4 * k) % 4 = 2; omega) hmem hy]
      rfl
  obtain ⟨t1, t2, t3, t4⟩ := tail_yes (L2 := setL L cs) m2 i2 p2
  generalize hA4 : exs (markD true) (De.sy.ex (exs ([De.wr 1 (dirW (cs.map (·.1))).1] ++ blkW (imX L cs)) A)) = A4 at *
  have l4 : A4.length = A.length := by rw [← hA4, exs_len, ex_len, exs_len]
  -- the pages
  have pX : ∀ x ∈ pgX cs, ∃ c ∈ cs, x = (126 + 4 * c.1.toNat, c.2) := fun x hx => by
    obtain ⟨c, hc, rfl⟩ := List.mem_map.1 hx
    exact ⟨c, hc, rfl⟩
  have off4 : Off 0 (blkW (pgX cs)) := off_blk fun x hx j hj => by obtain ⟨c, hc, rfl⟩ := pX x hx; show 0 ≠ 126 + 4 * c.1.toNat + j; omega
  have offI : ∀ i, (∀ n ∈ cs.map (fun x : Ch => x.1), ∀ j, j < 4 → i ≠ 126 + 4 * n.toNat + j) → Off i (blkW (pgX cs)) := fun i hi => off_blk fun x hx j hj => by
    obtain ⟨c, hc, rfl⟩ := pX x hx
    exact hi c.1 (List.mem_map.2 ⟨c, hc, rfl⟩) j hj
  have keep4 : ∀ A' : List Sec, (∀ i, Off i (blkW (pgX cs)) → A'[i]? = A4[i]?) → Mk A' true ∧ Ing A' L (cs.map (·.1)) := fun A' hA => ⟨t2.sub fun z hz => by rw [hA 0 off4]; exact hz, t4.sub fun i z _ h2 hz => by rw [hA i (offI i h2)]; exact hz⟩
  obtain ⟨m5, i5⟩ := keep4 (exs (blkW (pgX cs)) A4) fun i hi => exs_off hi
  have m6 : Mk (De.sy.ex (exs (blkW (pgX cs)) A4)) true := m5.sub fun z hz => sy_sub hz
  have i6 : Ing (De.sy.ex (exs (blkW (pgX cs)) A4)) L (cs.map (·.1)) := i5.sub fun i z _ _ hz => sy_sub hz
  have ndP : ((pgX cs).map (·.1)).Nodup := by
    have e : (pgX cs).map (·.1) = (cs.map (·.1)).map fun n => 126 + 4 * n.toNat := by unfold pgX; rw [List.map_map, List.map_map]; rfl
    rw [e]
    exact nodup_map_inj hnd fun a ha b hb e => by have := hbl a ha; have := hbl b hb; omega
  have p6 : PgS (De.sy.ex (exs (blkW (pgX cs)) A4)) (setL L cs) := by
    intro n s hs j hj
    by_cases c : ((n : Nat) : Int) ∈ cs.map (fun x : Ch => x.1)
    · obtain ⟨x, hx, hxn⟩ := List.mem_map.1 c
      have hxn : x.1 = ((n : Nat) : Int) := hxn
      have e1 := setL_in cs L x hnd hbd hx
      have e2 : x.1.toNat = n := by omega
      rw [e2, hs] at e1
      have e1 : s = x.2 := Option.some.inj e1
      have hmem : (126 + 4 * n, s) ∈ pgX cs := List.mem_map.2 ⟨x, hx, by rw [e2, e1]⟩
      have := hbd x hx
      have hy : A4[126 + 4 * n + j]? = some (A4[126 + 4 * n + j]'(by omega)) := List.getElem?_eq_getElem (by omega)
      rw [ex_sy, blk_in hj ndP (fun x hx => by obtain ⟨c, hc, rfl⟩ := pX x hx; show (126 + 4 * c.1.toNat) % 4 = 2; omega) hmem hy]
      rfl
    · rw [setL_out cs L n fun x hx e => c (List.mem_map.2 ⟨x, hx, by have := hbd x hx; omega⟩)] at hs
      obtain ⟨d, _, _, _, _, _, hpg⟩ := i6
      exact hpg n s c hs j hj
  obtain ⟨u1, u2, u3, u4⟩ := tail_no (L2 := setL L cs) m6 i6 p6
  have eS : stepsD L cs = [De.wr 1 (dirW (cs.map (·.1))).1] ++ blkW (imX L cs) ++ [De.sy] ++ markD true ++ blkW (pgX cs) ++ [.sy] ++ markD false := by
    unfold stepsD; rw [eim, epg]
  have eE : exs (stepsD L cs) A = exs (markD false) (De.sy.ex (exs (blkW (pgX cs)) A4)) := by
    rw [eS, exs_app, exs_app, exs_app, exs_app, exs_app, ← hA4]; rfl
  refine ⟨?_, by rw [eE]; exact u2, by rw [eE]; exact u3, by rw [eE]; exact u4, ?_, ?_⟩
  · rw [eS]
    refine Pre_app (Pre_app (Pre_app (Pre_app (Pre_app (Pre_off fun A' hA => ?_) (Pre_cons (crh_no m1 p1) Pre_nil)) ?_) ?_) ?_) ?_
    · obtain ⟨a1, a2⟩ := keep A' hA
      exact crh_no a1 a2
    · rw [exs_app]
      exact t1
    · rw [exs_app, exs_app]
      show Pre _ _ (exs (markD true) (De.sy.ex (exs ([De.wr 1 (dirW (cs.map (·.1))).1] ++ blkW (imX L cs)) A)))
      rw [hA4]
      refine Pre_off fun A' hA => ?_
      obtain ⟨a1, a2⟩ := keep4 A' hA
      exact crh_yes a1 a2
    · rw [exs_app, exs_app, exs_app]
      show Pre _ _ (exs (blkW (pgX cs)) (exs (markD true) (De.sy.ex (exs ([De.wr 1 (dirW (cs.map (·.1))).1] ++ blkW (imX L cs)) A))))
      rw [hA4]
      exact Pre_cons (crh_yes m5 i5) Pre_nil
    · rw [exs_app, exs_app, exs_app, exs_app]
      show Pre _ _ (De.sy.ex (exs (blkW (pgX cs)) (exs (markD true) (De.sy.ex (exs ([De.wr 1 (dirW (cs.map (·.1))).1] ++ blkW (imX L cs)) A)))))
      rw [hA4]
      exact u1
  · have gm : ∀ b, ∀ d ∈ markD b, d.good A.length := fun b d hd => by
      rcases List.mem_cons.1 hd with rfl | hd
      · exact ⟨by omega, by omega, Nat.le_of_eq (markB b).2⟩
      · rw [List.mem_singleton.1 hd]; trivial
    have gs : ∀ d ∈ [De.sy], d.good A.length := fun d hd => by rw [List.mem_singleton.1 hd]; trivial
    have gI : ∀ d ∈ blkW (imX L cs), d.good A.length := good_blk fun x hx => by
      obtain ⟨k, hk, rfl⟩ := List.mem_map.1 hx
      have hkl := List.mem_range.1 hk
      have := hbd _ (List.getElem_mem hkl)
      have hlt : (chG cs k).1.toNat < L.length := by rw [chG_get hkl]; omega
      exact ⟨by show 2 + 4 * k + 4 ≤ _; omega, h.sz _ (List.mem_of_getElem? (getD_some hlt))⟩
    have gP : ∀ d ∈ blkW (pgX cs), d.good A.length := good_blk fun x hx => by
      obtain ⟨c, hc, rfl⟩ := pX x hx
      have := hbd c hc
      exact ⟨by show 126 + 4 * c.1.toNat + 4 ≤ _; omega, hsz c hc⟩
    have g1 : ∀ d ∈ [De.wr 1 (dirW (cs.map (·.1))).1], d.good A.length := fun d hd => by rw [List.mem_singleton.1 hd]; exact ⟨by omega, by omega, Nat.le_of_eq hd64⟩
    have ga : ∀ {x y : List De}, (∀ d ∈ x, d.good A.length) → (∀ d ∈ y, d.good A.length) → ∀ d ∈ x ++ y, d.good A.length := fun hx hy d hd => (List.mem_append.1 hd).elim (hx d) (hy d)
    rw [eS]
    exact ga (ga (ga (ga (ga (ga g1 gI) gs) (gm true)) gP) gs) (gm false)
  · rw [eS]
    have a1 : (imX L cs).length = cs.length := by unfold imX; simp
    have a2 : (pgX cs).length = cs.length := by unfold pgX; simp
    simp only [List.length_append, blkW_len, a1, a2, List.length_cons, List.length_nil, markD]
    omega
theorem setL_fit {A A' : List Sec} {L : List ByteArray} {cs : List Ch} (h : Fit A L) (hv : mayB false L.length cs = 0) (hl : A'.length = A.length) : Fit A' (setL L cs) := by
  obtain ⟨_, _, _, _, hsz⟩ := mayB_ok hv
  exact ⟨by rw [setL_len, hl]; exact h.len, setL_sz h.sz hsz, by rw [setL_len]; exact h.n1, by rw [setL_len]; exact h.n2⟩
/-- a commit that may be, of some changes -/
theorem commit_two {G : Pg} {D : Dv} {cs : List Ch} (h : Fit D.A G.L) (hm : Mk D.A false) (hp : PgS D.A G.L) (hv : mayB G.st G.L.length cs = 0) (hne : cs ≠ []) :
    (commitB G D cs).2.1.h = D.h ∧ D.c ≤ (commitB G D cs).2.1.c ∧ (commitB G D cs).2.1.c ≤ D.c + 300 ∧ (commitB G D cs).2.1.A.length = D.A.length ∧ (∀ A', Cr (commitB G D cs).2.1.A A' → Holds A' G.L ∨ Holds A' (setL G.L cs)) ∧
    ((commitB G D cs).1 = 0 ∧ (commitB G D cs).2.2 = ⟨setL G.L cs, G.st, G.c + 1⟩ ∧ Mk (commitB G D cs).2.1.A false ∧ PgS (commitB G D cs).2.1.A (setL G.L cs) ∧ AllS (commitB G D cs).2.1.A ∧ (commitB G D cs).2.1.c = D.c + (8 * cs.length + 7 : Nat) ∨
     (commitB G D cs).1 = 9 ∧ (commitB G D cs).2.2 = { G with st := true }) ∧ (D.c + 300 ≤ D.h → (commitB G D cs).1 = 0) := by
  have hst := (mayB_ok hv).1
  have h31 := (mayB_ok hv).2.1
  have hv' := hv
  rw [hst] at hv'
  obtain ⟨s1, s2, s3, s4, s5, s6⟩ := commit_stage h hm hp hv'
  have hcm : ¬ (mayB G.st G.L.length cs ≠ 0 ∨ cs = []) := fun hx => hx.elim (fun h => h hv) hne
  have hc := runs_c (stepsD G.L cs) D
  rcases runs_two (stepsD G.L cs) D s5 with e | ⟨e1, e2, k, hk, e3⟩
  · have eC : commitB G D cs = (0, ⟨exs (stepsD G.L cs) D.A, D.c + (stepsD G.L cs).length, D.h⟩, ⟨setL G.L cs, G.st, G.c + 1⟩) := by
      unfold commitB
      rw [if_neg hcm, e, if_neg (fun h => h rfl)]
    rw [eC]
    refine ⟨rfl, by show D.c ≤ D.c + ((stepsD G.L cs).length : Int); omega, by show D.c + ((stepsD G.L cs).length : Int) ≤ _; omega, exs_len _ _, fun A' hc => ?_, .inl ⟨rfl, rfl, s2, s3, s4, by show D.c + ((stepsD G.L cs).length : Int) = _; rw [s6]⟩, fun _ => rfl⟩
    exact (crh_no (L2 := G.L) s2 s3 A' hc).symm
  · have n9 : ¬ (runs (stepsD G.L cs) D).1 = 0 := by rw [e1]; decide
    have eC : commitB G D cs = ((runs (stepsD G.L cs) D).1, (runs (stepsD G.L cs) D).2, { G with st := true }) := by
      unfold commitB
      rw [if_neg hcm, if_pos n9]
    rw [eC]
    refine ⟨e2, hc.1, by have := hc.2; show (runs (stepsD G.L cs) D).2.c ≤ _; omega, by show (runs (stepsD G.L cs) D).2.A.length = _; rw [e3, exs_len], fun A' hcr => ?_, .inr ⟨e1, rfl⟩, fun hd => ?_⟩
    · have hcr : Cr (runs (stepsD G.L cs) D).2.A A' := hcr
      rw [e3] at hcr
      exact s1 k hk A' hcr
    · have := runs_ok _ _ s5 (by omega)
      rw [this] at n9
      exact absurd rfl n9
/-- a commit that may not be, or of nothing -/
theorem commit_no {G : Pg} {D : Dv} {cs : List Ch} (h : mayB G.st G.L.length cs ≠ 0 ∨ cs = []) : commitB G D cs = (mayB G.st G.L.length cs, D, G) := by
  unfold commitB
  rw [if_pos h]
/-- a new device's pages -/
theorem new_mk (n : Nat) (h : 0 < n) : Mk (newD n).A false := ⟨pad ⟨#[]⟩, by unfold newD; rw [List.getElem?_replicate, if_pos h], by show mkd (markB false).1 = false; exact mkd_mark false⟩
theorem zs_chunk {j : Nat} (hj : j < 4) : chunk (zs 256) j = zs 64 := by
  apply byL_inj
  unfold chunk
  rw [byL_take, byL_zs, byL_zs]
  rcases (by omega : j = 0 ∨ j = 1 ∨ j = 2 ∨ j = 3) with rfl | rfl | rfl | rfl <;> decide
theorem pad_zs : pad (zs 64) = pad ⟨#[]⟩ := by
  apply Subtype.ext
  rw [pad_64 (zs_size 64)]
  apply byL_inj
  rw [byL_zs, byL_pad]
  rfl
theorem new_pgs (m n : Nat) (h : 126 + 4 * m ≤ n) : PgS (newD n).A (List.replicate m (zs 256)) := by
  intro k s hs j hj
  rw [List.getElem?_replicate] at hs
  split at hs
  · rename_i hk
    obtain rfl : zs 256 = s := Option.some.inj hs
    unfold newD
    rw [List.getElem?_replicate, if_pos (by omega), zs_chunk hj, pad_zs]
  · cases hs
theorem new_fit (m n : Nat) (h1 : 1 ≤ m) (h2 : m ≤ 160) (h : 126 + 4 * m ≤ n) : Fit (newD n).A (List.replicate m (zs 256)) :=
  ⟨by unfold newD; simp; exact h, fun s hs => by rw [List.eq_of_mem_replicate hs]; exact zs_size 256, by simpa using h1, by simpa using h2⟩
end Go.Proofs.YtongpnolikkknaaDoor

set_option maxRecDepth 20000
set_option maxHeartbeats 4000000
namespace Go.Proofs.YtongpnolikkknaaDoor
open Sh RowKit Go.MapKept
def fillL (b : Int) (i : Nat) : List Int := List.replicate i b ++ List.replicate (256 - i) 0
def fillB (b : Int) : ByteArray := strOfNums (List.replicate 256 b)
theorem fillL_len {b : Int} {i : Nat} (h : i ≤ 256) : (fillL b i).length = 256 := by unfold fillL; rw [List.length_append, List.length_replicate, List.length_replicate]; omega
theorem fillL_set {b : Int} {i : Nat} (h : i < 256) : (fillL b i).set i b = fillL b (i + 1) := by
  unfold fillL
  rw [List.set_append_right _ _ (by rw [List.length_replicate]; exact Nat.le_refl _), List.length_replicate, Nat.sub_self, show 256 - i = (256 - (i + 1)) + 1 by omega, List.replicate_succ, List.set_cons_zero, List.replicate_succ', List.append_assoc]
  rfl
theorem fillB_size (b : Int) : (fillB b).size = 256 := by unfold fillB; rw [son_size, List.length_replicate]
theorem byL_fill {b : Int} (h : 0 ≤ b ∧ b ≤ 255) : byL (fillB b) = List.replicate 256 b := byL_son fun x hx => by rw [List.eq_of_mem_replicate hx]; exact h
theorem fillB_inj {b c : Int} (hb : 0 ≤ b ∧ b ≤ 255) (hc : 0 ≤ c ∧ c ≤ 255) (h : fillB b = fillB c) : b = c := by
  have := congrArg byL h
  rw [byL_fill hb, byL_fill hc] at this
  exact (List.cons.inj this).1
theorem fillB_zs : fillB 0 = zs 256 := rfl
section
variable {B : Nat} {W w : World} {Q : Value → World → Prop}
theorem f67_loop {W : World} {B : Nat} {b : Int} : ∀ (d m i : Nat) (w : World) (v : Value), i + d = 256 → d < m → B ≤ w.heap.size → Below B W w → ownI B 5 .u8 w v (fillL b i) →
    (∀ w', Below B W w' → Q (.string (fillB b)) w') →
    itr (fun _ _ _ => bot) (f67_b2 f67_j1) m (.int .u8 b) v (.int .i64 (i : Int)) w Q := by
  intro d
  induction d with
  | zero =>
    intro m i w v hi hm hB hb ho kk
    obtain ⟨m, rfl⟩ : ∃ x, m = x + 1 := ⟨m - 1, by omega⟩
    show f67_b2 f67_j1 _ _ _ _ w Q
    unfold f67_b2
    obtain ⟨pl, cl, el, _⟩ := ownI_len ho
    have ll : ∀ (K : Value → M) (w1 : World) (Q : Value → World → Prop), lnl v K w1 Q = K (.int .i64 (256 : Nat)) w1 Q := fun K w1 Q => by
      rw [el, lnl_e, fillL_len (by omega)]
    have c : ¬ (i : Int) < (256 : Nat) := by omega
    try simp only [↓reduceIte, ↓LL, LM, Value.cells, Nat.reduceAdd, Option.some.injEq, exists_eq_left', decide_true, decide_false, if_true, if_false, reduceCtorEq, cond_true, cond_false, ll, c]
    unfold f67_j1
    refine cvb sl61 ud5 str9 (rdP_rd (ownI_rdP ho)) ?_
    try simp only [↓reduceIte, ↓LL, LM, Value.cells, Nat.reduceAdd, Option.some.injEq, exists_eq_left', decide_true, decide_false, if_true, if_false, reduceCtorEq, cond_true, cond_false]
    have : i = 256 := by omega
    subst this
    have e : strOfNums (fillL b 256) = fillB b := by
      have : fillL b 256 = List.replicate 256 b := by
        unfold fillL
        rw [Nat.sub_self]
        exact List.append_nil _
      rw [this]; rfl
    rw [e]
    exact kk w hb
  | succ d ih =>
    intro m i w v hi hm hB hb ho kk
    obtain ⟨m, rfl⟩ : ∃ x, m = x + 1 := ⟨m - 1, by omega⟩
    show f67_b2 f67_j1 _ _ _ _ w Q
    unfold f67_b2
    obtain ⟨pl, cl, el, _⟩ := ownI_len ho
    have ll : ∀ (K : Value → M) (w1 : World) (Q : Value → World → Prop), lnl v K w1 Q = K (.int .i64 (256 : Nat)) w1 Q := fun K w1 Q => by
      rw [el, lnl_e, fillL_len (by omega)]
    have c : (i : Int) < (256 : Nat) := by omega
    have h3 : IntKind.i64.wrap ((i : Int) + 1) = ((i + 1 : Nat) : Int) := by rw [w64 (by omega) (by omega)]; rfl
    try simp only [↓reduceIte, ↓LL, LM, Value.cells, Nat.reduceAdd, Option.some.injEq, exists_eq_left', decide_true, decide_false, if_true, if_false, reduceCtorEq, cond_true, cond_false, ll, c]
    refine ia_st ho (by rw [fillL_len (by omega)]; omega) fun w' ho' hu => ?_
    rw [fillL_set (by omega)] at ho'
    obtain ⟨g, hg1, hg2, hg3, hu⟩ := hu
    try simp only [↓reduceIte, ↓LL, LM, Value.cells, Nat.reduceAdd, Option.some.injEq, exists_eq_left', decide_true, decide_false, if_true, if_false, reduceCtorEq, cond_true, cond_false, h3]
    exact ih m (i + 1) w' v (by omega) (by omega) (by rw [hu.size]; exact hB) (hb.trans (hu.below hg2)) ho' kk
theorem f67_s {b : Int} (kk : ∀ w', Below w.heap.size w w' → Q (.string (fillB b)) w') : f67 (.int .u8 b) w Q := by
  unfold f67
  refine mkI (n := 256) (B := w.heap.size) sl61 (by omega) (by omega) (Nat.le_refl _) fun v w1 ho hb => ?_
  try simp only [↓reduceIte, ↓LL, LM, Value.cells, Nat.reduceAdd, Option.some.injEq, exists_eq_left', decide_true, decide_false, if_true, if_false, reduceCtorEq, cond_true, cond_false]
  refine ⟨_, f67_loop (W := w) (b := b) 256 257 0 w1 v (by omega) (by omega) hb.size hb ?_ kk⟩
  exact ho
end
end Go.Proofs.YtongpnolikkknaaDoor

set_option maxRecDepth 20000
set_option maxHeartbeats 4000000
namespace Go.Proofs.YtongpnolikkknaaDoor
open Sh RowKit Go.MapKept
def chsB (ps bs : List Int) (n : Nat) : List Ch := (List.range n).map fun i => (ps.getD i 0, fillB (bs.getD i ((i : Int) % 256)))
theorem chsB_succ (ps bs : List Int) (n : Nat) : chsB ps bs (n + 1) = chsB ps bs n ++ [(ps.getD n 0, fillB (bs.getD n ((n : Int) % 256)))] := by unfold chsB; rw [List.range_succ, List.map_append]; rfl
theorem chsB_len (ps bs : List Int) (n : Nat) : (chsB ps bs n).length = n := by unfold chsB; simp
theorem w8 {i : Int} : IntKind.u8.wrap i = i % 256 := by
  unfold IntKind.wrap
  simp [IntKind.signed, IntKind.bits]
theorem slC : slT Tryd.prog 69 104 (.agg #[.int .i64 0, .string ⟨#[]⟩]) 2 24 := ⟨by kernel_rfl, by kernel_rfl⟩
theorem slC6 : slT Tryd.prog 70 114 (.agg #[.int .i64 0, .string ⟨#[]⟩]) 2 24 := ⟨by kernel_rfl, by kernel_rfl⟩
theorem buildC (n : Int) (s : ByteArray) (w : World) : (Instr.build 104 #[(0, .int .i64 n), (1, .string s)]).run Tryd.prog w = .ok (.agg (encC (n, s)).toArray) w := by
  kernel_rfl
theorem buildC6 (n : Int) (s : ByteArray) (w : World) : (Instr.build 114 #[(0, .int .i64 n), (1, .string s)]).run Tryd.prog w = .ok (.agg (encC (n, s)).toArray) w := by
  kernel_rfl
section
variable {B : Nat} {W w : World} {Q : Value → World → Prop}
/-- one element of several cells more -/
theorem ap_E1 {α : Type} {enc : α → List Value} {n b : Nat} {t e : TypeId} {z v : Value} {l : List α} {x : α} {K : Value → M} (ht : slT Tryd.prog t e z n b) (hz : z.cells.size = n) (hn0 : 0 < n) (hn24 : n ≤ 16777216) (hn : ∀ x, (enc x).length = n) (h1 : ∀ x, ∀ c ∈ enc x, c.oneCell' = true) (ho : ownE B e n enc w v l)
    (h63 : l.length + 1 ≤ maxLen) (hbytes : (l.length + 1) * b ≤ 140737488355328) (hB : B ≤ w.heap.size)
    (kk : ∀ w' v', ownE B e n enc w' v' (l ++ [x]) → ChgS (fun k => v.ownBlock = some k) w w' → (∀ g, v'.ownBlock = some g → v.ownBlock = some g ∨ w.heap.size ≤ g) → K v' w' Q) :
    sm Tryd.prog (Instr.buildSlice t 1 #[(0, .agg (enc x).toArray)]) (fun u => sm Tryd.prog (Builtin.append_ #[t, t] t #[v, u]) K) w Q := by
  refine bslE ht hz hn0 hn24 (hn x) fun w1 h b1 => ?_
  refine ap_E (m := [x]) ht hz hn0 hn h1 (ownE_below ho b1) (rd_lit (hn x) h) h63 hbytes (Nat.le_trans hB b1.size) fun v' w' o g f => ?_
  have hs : w.heap.size ≤ w1.heap.size := b1.size
  refine kk w' v' o ⟨g.os.trans b1.os, g.tape.trans b1.tape, g.output.trans b1.output, Nat.le_trans hs g.size, fun k hk hne => ?_⟩ fun k hk => ?_
  · rw [g.block k (by omega) (fun e => hne e.symm), b1.block k hk]
  · rcases f with f | f
    · left; rw [← f]; exact hk
    · right
      rw [f] at hk; cases hk; omega
theorem rdI_b {k : IntKind} {v : Value} {l : List Int} {w' : World} (h : rdI k w v l) (hb : Below w.heap.size w w') : rdI k w' v l := rdI_below hb h
theorem rdI_lnl {k : IntKind} {v : Value} {l : List Int} (h : rdI k w v l) : ∀ (K : Value → M) (w1 : World) (Q : Value → World → Prop), lnl v K w1 Q = K (.int .i64 ((l.length : Nat) : Int)) w1 Q := by
  intro K w1 Q
  obtain ⟨p, c, rfl, _⟩ := h
  rw [lnl_e]
theorem ChgS.below_of {S : Nat → Prop} {w' : World} (h : ChgS S w w') (hS : ∀ k, S k → B ≤ k) (hB : B ≤ w.heap.size) : Below B w w' := h.below hS hB
theorem changes_loop {ps bs : List Int} {vp vb : Value} {b : Nat} (hbox : W.heap[b]? = some (.cells #[vp, vb] 68 (0, 0))) (hp : rdI .i64 W vp ps) (hbs : rdI .u8 W vb bs) (hl : ps.length ≤ 1048576) :
    ∀ (d m i : Nat) (w : World) (x y : Value), i + d = ps.length → d < m → Below W.heap.size W w → ownE W.heap.size 104 2 encC w x (chsB ps bs i) → ownE W.heap.size 114 2 encC w y (chsB ps bs i) →
    (∀ w' x' y', Below W.heap.size W w' → ownE W.heap.size 104 2 encC w' x' (chsB ps bs ps.length) → ownE W.heap.size 114 2 encC w' y' (chsB ps bs ps.length) → Q (.tuple #[x', y']) w') →
    itr (fun _ _ _ _ => bot) (f43_b2 f43_j1) m (pv b) x y (.int .i64 ((i : Nat) : Int)) w Q := by
  intro d
  induction d with
  | zero =>
    intro m i w x y hi hm hb hx hy kk
    obtain ⟨m, rfl⟩ : ∃ x, m = x + 1 := ⟨m - 1, by omega⟩
    show f43_b2 f43_j1 _ _ _ _ _ w Q
    unfold f43_b2
    have hbox' := stay hb hbox
    have c0 : w.cell? ⟨b, 0, none⟩ = some vp := by rw [cell_of_blk hbox']; rfl
    have lp := rdI_lnl hp
    have c : ¬ (i : Int) < (ps.length : Nat) := by omega
    try simp only [↓reduceIte, ↓LL, LM, Value.cells, Nat.reduceAdd, Option.some.injEq, exists_eq_left', decide_true, decide_false, if_true, if_false, reduceCtorEq, cond_true, cond_false, c0, lp, c]
    unfold f43_j1
    try simp only [↓reduceIte, ↓LL, LM, Value.cells, Nat.reduceAdd, Option.some.injEq, exists_eq_left', decide_true, decide_false, if_true, if_false, reduceCtorEq, cond_true, cond_false]
    have : i = ps.length := by omega
    subst this
    exact kk w x y hb hx hy
  | succ d ih =>
    intro m i w x y hi hm hb hx hy kk
    obtain ⟨m, rfl⟩ : ∃ x, m = x + 1 := ⟨m - 1, by omega⟩
    show f43_b2 f43_j1 _ _ _ _ _ w Q
    unfold f43_b2
    have hbox' := stay hb hbox
    have c0 : w.cell? ⟨b, 0, none⟩ = some vp := by rw [cell_of_blk hbox']; rfl
    have c1 : w.cell? ⟨b, 1, none⟩ = some vb := by rw [cell_of_blk hbox']; rfl
    have lp := rdI_lnl hp
    have lb := rdI_lnl hbs
    have c : (i : Int) < (ps.length : Nat) := by omega
    have hil : i < ps.length := by omega
    have h3 : IntKind.i64.wrap ((i : Int) + 1) = ((i + 1 : Nat) : Int) := by rw [w64 (by omega) (by omega)]; rfl
    have epi : ps[i] = ps.getD i 0 := by rw [List.getD_eq_getElem?_getD, List.getElem?_eq_getElem hil]; rfl
    have body : ∀ (w1 : World) (v : Int), Below W.heap.size W w1 → ownE W.heap.size 104 2 encC w1 x (chsB ps bs i) → ownE W.heap.size 114 2 encC w1 y (chsB ps bs i) → v = bs.getD i ((i : Int) % 256) →
        f43_j3 (itr (fun _ _ _ _ => bot) (f43_b2 f43_j1) m) (pv b) x y (.int .i64 ((i : Nat) : Int)) (.int .u8 v) w1 Q := by
      intro w1 v hb1 hx1 hy1 hv
      unfold f43_j3
      obtain ⟨ad, hc, hia⟩ := rdI_at hp hil
      have hbx1 := stay hb1 hbox
      have k0 : (drw w1).cell? ⟨b, 0, none⟩ = some vp := by show w1.cell? _ = _; rw [cell_of_blk hbx1]; rfl
      have k1 : (drw w1).cell? ad = some (.int .i64 ps[i]) := show w1.cell? ad = _ from cell_below hb1 hc
      try simp only [↓reduceIte, ↓LL, LM, Value.cells, Nat.reduceAdd, Option.some.injEq, exists_eq_left', decide_true, decide_false, if_true, if_false, reduceCtorEq, cond_true, cond_false, k0, hia, k1]
      refine f67_s fun w2 b2 => ?_
      have hb2 : Below W.heap.size W w2 := bt (show Below W.heap.size W (drw w1) from ⟨hb1.os, hb1.tape, hb1.output, hb1.size, hb1.block⟩) b2
      refine ⟨by rw [Kld_e]; exact cell_below hb2 hc, ?_⟩
      refine ⟨by rw [Kld_e, cell_of_blk (stay hb2 hbox)]; rfl, ?_⟩
      rw [smr_run (buildC _ _ _)]
      have hx2 : ownE W.heap.size 104 2 encC w2 x (chsB ps bs i) := ownE_below (w := drw w1) hx1 b2
      have hy2 : ownE W.heap.size 114 2 encC w2 y (chsB ps bs i) := ownE_below (w := drw w1) hy1 b2
      refine ap_E1 slC rfl (by decide) (by decide) encC_len encC_one hx2 (by rw [chsB_len]; unfold maxLen; omega) (by rw [chsB_len]; omega) hb2.size fun w3 x3 hx3 hc3 _ => ?_
      have xT : ∀ k, x.ownBlock = some k → W.heap.size ≤ k := fun k hk => (ownE_blk hx2 k hk).1
      have hb3 : Below W.heap.size W w3 := hb2.trans (hc3.below xT hb2.size)
      have hy3 : ownE W.heap.size 114 2 encC w3 y (chsB ps bs i) := ownE_chg hy2 hc3 fun g hg hn => by
        obtain ⟨_, _, cur, h1⟩ := ownE_blk hy2 g hg
        obtain ⟨_, _, cur', h2⟩ := ownE_blk hx2 g hn
        rw [h1] at h2
        cases h2
      have hbx3 := stay hb3 hbox
      have k0 : (drw w3).cell? ⟨b, 0, none⟩ = some vp := by show w3.cell? _ = _; rw [cell_of_blk hbx3]; rfl
      have k1 : (drw w3).cell? ad = some (.int .i64 ps[i]) := show w3.cell? ad = _ from cell_below hb3 hc
      try simp only [↓reduceIte, ↓LL, LM, Value.cells, Nat.reduceAdd, Option.some.injEq, exists_eq_left', decide_true, decide_false, if_true, if_false, reduceCtorEq, cond_true, cond_false, k0, hia, k1]
      refine f67_s fun w4 b4 => ?_
      have hb4 : Below W.heap.size W w4 := bt (show Below W.heap.size W (drw w3) from ⟨hb3.os, hb3.tape, hb3.output, hb3.size, hb3.block⟩) b4
      refine ⟨by rw [Kld_e]; exact cell_below hb4 hc, ?_⟩
      refine ⟨by rw [Kld_e, cell_of_blk (stay hb4 hbox)]; rfl, ?_⟩
      rw [smr_run (buildC6 _ _ _)]
      have hx4 : ownE W.heap.size 104 2 encC w4 x3 (chsB ps bs i ++ [(ps[i], fillB v)]) := ownE_below (w := drw w3) hx3 b4
      have hy4 : ownE W.heap.size 114 2 encC w4 y (chsB ps bs i) := ownE_below (w := drw w3) hy3 b4
      refine ap_E1 slC6 rfl (by decide) (by decide) encC_len encC_one hy4 (by rw [chsB_len]; unfold maxLen; omega) (by rw [chsB_len]; omega) hb4.size fun w5 y5 hy5 hc5 _ => ?_
      have yT : ∀ k, y.ownBlock = some k → W.heap.size ≤ k := fun k hk => (ownE_blk hy4 k hk).1
      have hb5 : Below W.heap.size W w5 := hb4.trans (hc5.below yT hb4.size)
      have hx5 : ownE W.heap.size 104 2 encC w5 x3 (chsB ps bs i ++ [(ps[i], fillB v)]) := ownE_chg hx4 hc5 fun g hg hn => by
        obtain ⟨_, _, cur, h1⟩ := ownE_blk hx4 g hg
        obtain ⟨_, _, cur', h2⟩ := ownE_blk hy4 g hn
        rw [h1] at h2
        cases h2
      have ec : chsB ps bs i ++ [(ps[i], fillB v)] = chsB ps bs (i + 1) := by rw [chsB_succ, epi, hv]
      rw [ec] at hx5 hy5
      try simp only [↓reduceIte, ↓LL, LM, Value.cells, Nat.reduceAdd, Option.some.injEq, exists_eq_left', decide_true, decide_false, if_true, if_false, reduceCtorEq, cond_true, cond_false, h3]
      exact ih m (i + 1) w5 x3 y5 (by omega) (by omega) hb5 hx5 hy5 kk
    by_cases c2 : i < bs.length
    · have c2' : (i : Int) < (bs.length : Nat) := by omega
      obtain ⟨ad, hc, hia⟩ := rdI_at (rdI_b hbs hb) c2
      try simp only [↓reduceIte, ↓LL, LM, Value.cells, Nat.reduceAdd, Option.some.injEq, exists_eq_left', decide_true, decide_false, if_true, if_false, reduceCtorEq, cond_true, cond_false, c0, c1, lp, lb, c, c2', hia, hc]
      refine body w _ hb hx hy ?_
      rw [List.getD_eq_getElem?_getD, List.getElem?_eq_getElem c2]; rfl
    · have c2' : ¬ (i : Int) < (bs.length : Nat) := by omega
      try simp only [↓reduceIte, ↓LL, LM, Value.cells, Nat.reduceAdd, Option.some.injEq, exists_eq_left', decide_true, decide_false, if_true, if_false, reduceCtorEq, cond_true, cond_false, c0, c1, lp, lb, c, c2']
      refine body w _ hb hx hy ?_
      rw [List.getD_eq_getElem?_getD, List.getElem?_eq_none (by omega), w8]; rfl
theorem f43_s {ps bs : List Int} {vp vb : Value} (hp : rdI .i64 w vp ps) (hbs : rdI .u8 w vb bs) (hl : ps.length ≤ 1048576)
    (kk : ∀ w' x y, Below w.heap.size w w' → ownE w.heap.size 104 2 encC w' x (chsB ps bs ps.length) → ownE w.heap.size 114 2 encC w' y (chsB ps bs ps.length) → Q (.tuple #[x, y]) w') : f43 (.agg #[vp, vb]) w Q := by
  unfold f43
  try simp only [↓reduceIte, ↓LL, LM, Value.cells, Nat.reduceAdd, Option.some.injEq, exists_eq_left', decide_true, decide_false, if_true, if_false, reduceCtorEq, cond_true, cond_false]
  have b1 := b_psh w (.cells #[vp, vb] 68)
  have k1 := blk_psh_new (w := w) (o := .cells #[vp, vb] 68)
  generalize psh w (.cells #[vp, vb] 68) = w1 at *
  have s1 : w.heap.size ≤ w1.heap.size := b1.size
  refine ⟨_, changes_loop (W := w1) (ps := ps) (bs := bs) k1 (rdI_b hp b1) (rdI_b hbs b1) hl ps.length (ps.length + 1) 0 w1 _ _ (by omega) (by omega) (Below.refl _ _) ownE_nil ownE_nil fun w2 x y b2 hx hy => ?_⟩
  exact kk w2 x y (bt b1 b2) (ownE_weak hx s1) (ownE_weak hy s1)
end
end Go.Proofs.YtongpnolikkknaaDoor

namespace Go.Proofs.YtongpnolikkknaaDoor
open Sh RowKit Go.MapKept
theorem wf8 {x : Int} (h : (Lit.int .u8 x).wf = true) : 0 ≤ x ∧ x ≤ 255 := by
  unfold Lit.wf at h
  simp [IntKind.min, IntKind.max, IntKind.signed, IntKind.bits] at h
  omega
theorem ints_rdk {k : IntKind} {w : World} {v : Value} {l : List Int} (h : rdS 1 (iR k) w v l) : rdI k w v l ∧ ∀ x ∈ l, (Lit.int k x).wf = true := by
  rcases h with ⟨rfl, rfl⟩ | ⟨a, c, rfl, hc, h⟩
  · exact ⟨⟨none, 0, rfl, fun i hi => by simp at hi⟩, fun x hx => by simp at hx⟩
  · refine ⟨⟨_, c, rfl, fun i hi => ⟨a, rfl, ?_⟩⟩, fun x hx => ?_⟩
    · obtain ⟨es, _, h2, h3, _⟩ := h i hi
      subst h3
      have := h2 0 _ rfl
      rw [Nat.mul_one] at this
      exact this
    · obtain ⟨i, hi, rfl⟩ := List.mem_iff_getElem.1 hx
      obtain ⟨es, _, _, _, h4⟩ := h i hi
      exact h4
theorem agg_of {cs : Array Value} {l : List Value} (h : cs.toList = l) : cs = l.toArray := by rw [← h, Array.toArray_toList]
theorem len2 {cs : List Value} (h : cs.length = 2) : ∃ a b, cs = [a, b] := by
  match cs, h with
  | [a, b], _ => exact ⟨a, b, rfl⟩
structure Bat where
  ps : List Int
  bs : List Int
  vp : Value
  vb : Value
def oBat : RepT Bat := fun w cs x => cs = [x.vp, x.vb] ∧ rdI .i64 w x.vp x.ps ∧ rdI .u8 w x.vb x.bs ∧ ∀ y ∈ x.bs, 0 ≤ y ∧ y ≤ 255
theorem ulb : Tryd.prog.underlying 66 = some (.slice 5) := by kernel_rfl
theorem uu8 : Tryd.prog.underlying 5 = some (.int .u8) := by kernel_rfl
theorem sum_one : ∀ l : List Int, (l.map fun _ => 1).sum = l.length
  | [] => rfl
  | _ :: l => by rw [List.map_cons, List.sum_cons, sum_one l, List.length_cons]; omega
theorem op_bat : Opens Tryd.prog 68 Bat oBat (fun x => x.ps.length) := by
  refine Opens.mono (op_struct Tryd.underlying68 (n := 2) (by kernel_rfl) (opf_cons (n := 1) (by kernel_rfl) (op_slice uli (n := 1) (by kernel_rfl) (op_int ui)) (opf_cons (n := 1) (by kernel_rfl) (op_slice ulb (n := 1) (by kernel_rfl) (op_int uu8)) opf_nil))) ?_
  rintro w cs ⟨ps, bs, ⟨⟩⟩ ⟨hl, ⟨v, h0, h1, _⟩, ⟨v2, h2, h3, _⟩, -⟩
  obtain ⟨c0, c1, rfl⟩ := len2 hl
  have e0 := one_cell (x := c0) h0
  have e1 := one_cell (x := c1) h2
  obtain ⟨k1, _⟩ := ints_rdk h1
  obtain ⟨k2, k3⟩ := ints_rdk h3
  refine ⟨⟨ps, bs, v, v2⟩, ⟨by rw [e0, e1], k1, k2, fun y hy => wf8 (k3 y hy)⟩, ?_⟩
  have h := sum_one ps
  show ps.length ≤ ((ps.map fun _ => 1).sum + 1) + (((bs.map fun _ => 1).sum + 1) + 0) + 1
  omega
theorem agBat : isAg Tryd.prog 68 2 = true := by kernel_rfl
/-- a number and a batch -/
def RiB : World → List Value → Int × Bat → Prop := fun W vs x => vs = [.int .i64 x.1, .agg #[x.2.vp, x.2.vb]] ∧ rdI .i64 W x.2.vp x.2.ps ∧ rdI .u8 W x.2.vb x.2.bs ∧ ∀ y ∈ x.2.bs, 0 ≤ y ∧ y ≤ 255
theorem oaiB : OpensA Tryd.prog [3, 68] (Int × Bat) RiB (fun x => x.2.ps.length) := by
  refine OpensA.mono (oa_one (op_int ui) scI (fun w cs a h => ⟨_, h.1⟩) (oa_agg op_bat agBat oa_nil)) ?_
  rintro W vs ⟨n, x, ⟨⟩⟩ ⟨v, r, rfl, ⟨h1, _⟩, cs, r2, rfl, ⟨h2, h3⟩, rfl⟩
  have e := agg_of h2
  exact ⟨(n, x), ⟨by rw [one_cell h1, e], h3⟩, by show x.ps.length ≤ _; simp only; omega⟩
/-- two numbers and a string -/
def RiiS : World → List Value → Int × Int × ByteArray → Prop := fun W vs x => vs = [.int .i64 x.1, .int .i64 x.2.1, .string x.2.2]
theorem oaiiS : OpensA Tryd.prog [3, 3, 9] (Int × Int × ByteArray) RiiS (fun _ => 0) := by
  refine OpensA.mono (oa_one (op_int ui) scI (fun w cs a h => ⟨_, h.1⟩) (oa_one (op_int ui) scI (fun w cs a h => ⟨_, h.1⟩) (oa_one (op_str us) scS (fun w cs a h => ⟨_, h.1⟩) oa_nil))) ?_
  rintro W vs ⟨n, m, s, ⟨⟩⟩ ⟨v, r, rfl, ⟨h1, _⟩, v2, r2, rfl, ⟨h2, _⟩, v3, r3, rfl, ⟨h3, _⟩, rfl⟩
  exact ⟨(n, m, s), by show _ = _; rw [one_cell h1, one_cell h2, one_cell h3], Nat.zero_le _⟩
end Go.Proofs.YtongpnolikkknaaDoor

set_option maxRecDepth 20000
set_option maxHeartbeats 4000000
namespace Go.Proofs.YtongpnolikkknaaDoor
open Sh RowKit Go.MapKept
/-- a device that is sure, its mark says no -/
structure Rdy (D : Dv) (L : List ByteArray) : Prop where
  fit : Fit D.A L
  mark : Mk D.A false
  pg : PgS D.A L
theorem open_rdy {D : Dv} {L : List ByteArray} (h : Rdy D L) : openB D (L.length : Nat) = (0, D, L) := open_no h.fit h.mark h.pg
theorem rdy_new {m N : Nat} (h1 : 1 ≤ m) (h2 : m ≤ 160) (h : 126 + 4 * m ≤ N) : Rdy (newD N) (List.replicate m (zs 256)) := ⟨new_fit m N h1 h2 h, new_mk N (by omega), new_pgs m N h⟩
theorem open_new {m N : Nat} (h1 : 1 ≤ m) (h2 : m ≤ 160) (h : 126 + 4 * m ≤ N) : openB (newD N) (m : Nat) = (0, newD N, List.replicate m (zs 256)) := by
  have := open_rdy (rdy_new h1 h2 h)
  rwa [List.length_replicate] at this
theorem commit_rdy {G : Pg} {D : Dv} {cs : List Ch} (h : Rdy D G.L) (hv : mayB G.st G.L.length cs = 0) (hne : cs ≠ []) (hh : D.c + 300 ≤ D.h) :
    ∃ D', commitB G D cs = (0, D', ⟨setL G.L cs, G.st, G.c + 1⟩) ∧ Rdy D' (setL G.L cs) ∧ D'.h = D.h ∧ D'.c = D.c + (8 * cs.length + 7 : Nat) ∧ AllS D'.A ∧ D'.A.length = D.A.length := by
  obtain ⟨h1, h2, h3, h4, h5, h6, h7⟩ := commit_two h.fit h.mark h.pg hv hne
  have e0 := h7 hh
  have hst := (mayB_ok hv).1
  have hv' := hv
  rw [hst] at hv'
  rcases h6 with ⟨_, q1, q2, q3, q4, q5⟩ | ⟨q, _⟩
  · refine ⟨(commitB G D cs).2.1, ?_, ⟨setL_fit h.fit hv' h4, q2, q3⟩, h1, q5, q4, h4⟩
    rw [← e0, ← q1]
  · rw [e0] at q; cases q
theorem ownE_lit {α : Type} {enc : α → List Value} {n B g : Nat} {e : TypeId} {w : World} {x : α} (hn : (enc x).length = n) (hB : B ≤ g) (h : w.heap[g]? = some (.cells (enc x).toArray e (0, 0))) : ownE B e n enc w (.slice (some ⟨g, 0, none⟩) 1 1) [x] :=
  ⟨by simp [hn], .inr ⟨g, 1, (enc x).toArray, rfl, hB, h, Nat.le_refl _, by unfold maxLen; omega, by simp [hn], by simp [← hn]⟩⟩
structure PgAt (B : Nat) (w : World) (q p b : Nat) (v u : Value) (G : Pg) (D : Dv) : Prop where
  dev : DevAt B w p v b D
  qB : B ≤ q
  hq : w.heap[q]? = some (.cells #[pv p, u, .bool G.st, .int .i64 G.c] 110 (0, 0))
  hu : ownV B 9 w u (G.L.map .string)
def fpP (q p b : Nat) (v u : Value) : Nat → Prop := fun k => k = q ∨ u.ownBlock = some k ∨ fpD p v b k
section
variable {B : Nat} {W w w' : World} {q p b : Nat} {v u : Value} {G : Pg} {D : Dv} {Q : Value → World → Prop}
theorem PgAt.below (h : PgAt B w q p b v u G D) (hb : Below w.heap.size w w') : PgAt B w' q p b v u G D := ⟨h.dev.below hb, h.qB, stay hb h.hq, ownV_below h.hu hb⟩
theorem PgAt.fpB (h : PgAt B w q p b v u G D) : ∀ k, fpP q p b v u k → B ≤ k := by
  rintro k (rfl | hk | hk)
  · exact h.qB
  · exact (ownV_lt h.hu k hk).1
  · exact fpD_B h.dev k hk
theorem PgAt.lt (h : PgAt B w q p b v u G D) : ∀ k, fpP q p b v u k → k < w.heap.size := by
  rintro k (rfl | hk | hk)
  · exact blk_lt h.hq
  · exact (ownV_lt h.hu k hk).2.1
  · exact h.dev.lt k hk
theorem PgAt.chg {S : Nat → Prop} (h : PgAt B w q p b v u G D) (hc : ChgS S w w') (hS : ∀ k, fpP q p b v u k → ¬ S k) : PgAt B w' q p b v u G D :=
  ⟨h.dev.chg hc fun k hk => hS k (.inr (.inr hk)), h.qB, hc.keep h.hq (hS q (.inl rfl)), ownV_chg h.hu hc fun g hg => hS g (.inr (.inl hg))⟩
theorem PgAt.bs {B0 : Nat} (h : PgAt B w q p b v u G D) (hc : ChgS (fpP q p b v u) w w') (h0 : B0 ≤ B) (hB : B0 ≤ w.heap.size) : Below B0 w w' := hc.below (fun k hk => Nat.le_trans h0 (h.fpB k hk)) hB
theorem commit_at {Bc : Nat} {lv : Value} {cs : List Ch} (h : PgAt B w q p b v u G D) (hcs : ownE Bc 104 2 encC w lv cs) (h0 : 0 ≤ D.c) (h1 : D.c + 300 ≤ 1000000) (hG0 : 0 ≤ G.c) (hG1 : G.c ≤ 1000000) (hL : G.L.length ≤ 1000)
    (kk : ∀ w', PgAt B w' q p b v u (commitB G D cs).2.2 (commitB G D cs).2.1 → ChgS (fpP q p b v u) w w' → Q (.int .i64 (commitB G D cs).1) w') : f45 (pv q) lv w Q :=
  f45_s h.dev h.hq h.hu hcs h0 h1 hG0 hG1 hL fun w' hd hq hu hc => kk w' ⟨hd, h.qB, hq, hu⟩ hc
/-- opened, without an error -/
theorem open_at {B0 : Nat} {n : Int} {D' : Dv} {L : List ByteArray} (hd : DevAt B w p v b D) (h0 : 0 ≤ D.c) (h1 : D.c + 200 ≤ 1000000) (hB0 : B0 ≤ B) (hBw : B0 ≤ w.heap.size) (e : openB D n = (0, D', L))
    (kk : ∀ w' q u, w.heap.size ≤ q → PgAt B0 w' q p b v u ⟨L, false, 0⟩ D' → DevAt B w' p v b D' → ownV w.heap.size 9 w' u (L.map .string) → ChgS (fpD p v b) w w' → Q (.tuple #[pv q, .int .i64 0]) w') : f38 (pv p) (.int .i64 n) w Q := by
  have e1 : (openB D n).1 = 0 := by rw [e]
  have e2 : (openB D n).2.1 = D' := by rw [e]
  have e3 : (openB D n).2.2 = L := by rw [e]
  refine f38_s hd h0 h1 (fun h => absurd e1 h) (fun _ w' q u hqw hq hu hd' hc => ?_)
  rw [e2] at hd'
  rw [e3] at hu
  refine kk w' q u hqw ⟨?_, Nat.le_trans hBw hqw, hq, ownV_weak hu hBw⟩ hd' hu hc
  obtain ⟨L', hm, hl⟩ := hd'.mp
  exact ⟨Nat.le_trans hB0 hd'.pB, Nat.le_trans hB0 hd'.bB, hd'.n, hd'.hp, ownE_weak hd'.own hB0, L', hm, hl⟩
theorem f36_s (kk : ∀ w', Below w.heap.size w w' → Q (.bool true) w') : f36 w Q := by
  unfold f36
  try simp only [↓reduceIte, ↓LL, LM, Value.cells, Nat.reduceAdd, Option.some.injEq, exists_eq_left', decide_true, decide_false, if_true, if_false, reduceCtorEq, cond_true, cond_false]
  refine f22_s ⟨by decide, by decide⟩ ?_
  try simp only [↓reduceIte, ↓LL, LM, Value.cells, Nat.reduceAdd, Option.some.injEq, exists_eq_left', decide_true, decide_false, if_true, if_false, reduceCtorEq, cond_true, cond_false]
  refine f37_s (B := w.heap.size) (126 + 4 * 3) (k := 138) (by decide) (Nat.le_refl _) fun w1 p v b pw bw hd hf b1 => ?_
  try simp only [↓reduceIte, ↓LL, LM, Value.cells, Nat.reduceAdd, Option.some.injEq, exists_eq_left', decide_true, decide_false, if_true, if_false, reduceCtorEq, cond_true, cond_false]
  have s1 := b1.size
  refine open_at (B0 := w.heap.size) (n := 3) hd (by decide) (by decide) (Nat.le_refl _) s1 (open_new (m := 3) (N := 138) (by decide) (by decide) (by decide)) fun w2 q u q2 h2 _ _ hc2 => ?_
  have b2 : Below w.heap.size w w2 := bs b1 (fpD_B hd) s1 hc2
  have s2 := b2.size
  try simp only [↓reduceIte, ↓LL, LM, Value.cells, Nat.reduceAdd, Option.some.injEq, exists_eq_left', decide_true, decide_false, if_true, if_false, reduceCtorEq, cond_true, cond_false, get0, get1]
  rw [pn_eq pt49]
  try simp only [↓reduceIte, ↓LL, LM, Value.cells, Nat.reduceAdd, Option.some.injEq, exists_eq_left', decide_true, decide_false, if_true, if_false, reduceCtorEq, cond_true, cond_false, Option.isNone]
  refine f67_s fun w3 b3 => ?_
  try simp only [↓reduceIte, ↓LL, LM, Value.cells, Nat.reduceAdd, Option.some.injEq, exists_eq_left', decide_true, decide_false, if_true, if_false, reduceCtorEq, cond_true, cond_false]
  rw [smr_run (buildC _ _ _)]
  have b03 := bt b2 b3
  have h3 := h2.below b3
  try simp only [↓reduceIte, ↓LL, LM, Value.cells, Nat.reduceAdd, Option.some.injEq, exists_eq_left', decide_true, decide_false, if_true, if_false, reduceCtorEq, cond_true, cond_false]
  refine bslE slC rfl (by decide) (by decide) rfl fun w4 k4 b4 => ?_
  have b04 := bt b03 b4
  have h4 := h3.below b4
  have s3 := b03.size
  try simp only [↓reduceIte, ↓LL, LM, Value.cells, Nat.reduceAdd, Option.some.injEq, exists_eq_left', decide_true, decide_false, if_true, if_false, reduceCtorEq, cond_true, cond_false]
  have hv : mayB false (List.replicate 3 (zs 256)).length [((1 : Int), fillB 7)] = 0 := by
    unfold mayB
    rw [if_neg (by decide), if_neg (by decide), if_neg (by rintro ⟨c, hc, h⟩; rw [List.mem_singleton.1 hc] at h; simp at h), if_neg]
    unfold oddL
    rw [decide_eq_true_iff]
    intro h
    refine h ⟨by simp, fun c hc => ?_⟩
    rw [List.mem_singleton.1 hc]
    exact fillB_size 7
  have hr := rdy_new (m := 3) (N := 138) (by decide) (by decide) (by decide)
  obtain ⟨D', e1, r1, e2, e3, _, e5⟩ := commit_rdy (G := ⟨List.replicate 3 (zs 256), false, 0⟩) hr hv (by simp) (by decide)
  refine commit_at h4 (ownE_lit rfl s3 k4) (by decide) (by decide) (by decide) (by decide) (by simp) fun w5 h5 hc5 => ?_
  rw [e1] at h5 ⊢
  have b05 := bs b04 h4.fpB b04.size hc5
  try simp only [↓reduceIte, ↓LL, LM, Value.cells, Nat.reduceAdd, Option.some.injEq, exists_eq_left', decide_true, decide_false, if_true, if_false, reduceCtorEq, cond_true, cond_false]
  have c5 : D'.c = 15 := by rw [e3]; rfl
  refine open_at (B0 := w.heap.size) (n := 3) (D := D') h5.dev (by omega) (by omega) (Nat.le_refl _) b05.size (open_rdy r1) fun w6 q' u' q6 h6 d6 _ hc6 => ?_
  have b06 := bs b05 (fpD_B h5.dev) b05.size hc6
  have h6' : PgAt w.heap.size w6 q p b v u _ D' := ⟨d6, h5.qB, pg_dev h5.dev h5.hq hc6, own_dev h5.dev h5.hu (by decide) (by decide) hc6⟩
  have er : pgR (setL (List.replicate 3 (zs 256)) [((1 : Int), fillB 7)]) 1 = (fillB 7, 0) := rfl
  try simp only [↓reduceIte, ↓LL, LM, Value.cells, Nat.reduceAdd, Option.some.injEq, exists_eq_left', decide_true, decide_false, if_true, if_false, reduceCtorEq, cond_true, cond_false, get0, get1]
  refine f44_s h6.hq h6.hu ?_
  rw [er]
  try simp only [↓reduceIte, ↓LL, LM, Value.cells, Nat.reduceAdd, Option.some.injEq, exists_eq_left', decide_true, decide_false, if_true, if_false, reduceCtorEq, cond_true, cond_false, get0, get1]
  refine f67_s fun w7 b7 => ?_
  try simp only [↓reduceIte, ↓LL, LM, Value.cells, Nat.reduceAdd, Option.some.injEq, exists_eq_left', decide_true, decide_false, if_true, if_false, reduceCtorEq, cond_true, cond_false]
  refine f47_s (h6'.below b7).hq ?_
  try simp only [↓reduceIte, ↓LL, LM, Value.cells, Nat.reduceAdd, Option.some.injEq, exists_eq_left', decide_true, decide_false, if_true, if_false, reduceCtorEq, cond_true, cond_false]
  refine f46_s (h6.below b7).hq (h6.below b7).hu ?_
  try simp only [↓reduceIte, ↓LL, LM, Value.cells, Nat.reduceAdd, Option.some.injEq, exists_eq_left', decide_true, decide_false, if_true, if_false, reduceCtorEq, cond_true, cond_false]
  exact kk w7 (bt b06 b7)
end
end Go.Proofs.YtongpnolikkknaaDoor

set_option maxRecDepth 20000
set_option maxHeartbeats 4000000
namespace Go.Proofs.YtongpnolikkknaaDoor
open Sh RowKit Go.MapKept
theorem nd0 (k : Nat) : 0 ≤ (newD k).c := Int.le_refl 0
theorem nd1 (k : Nat) : (newD k).c + 200 ≤ 1000000 := by show (0 + 200 : Int) ≤ 1000000; decide
theorem nd2 (k : Nat) : (newD k).c ≤ 1000000 := by show (0 : Int) ≤ 1000000; decide
theorem ndh (k : Nat) : ¬ (newD k).h < (newD k).c + 1 := by show ¬ (4611686018427387904 : Int) < 0 + 1; decide
def anyG (m : Nat) (l : List Int) (f0 : Int) : Int := if l.any (fun x => decide ((m : Int) ≤ x)) = true then 10 else f0
theorem anyG_snoc (m : Nat) (l : List Int) (x f0 : Int) : anyG m (l ++ [x]) f0 = if (m : Int) ≤ x then 10 else anyG m l f0 := by
  unfold anyG
  rw [List.any_append]
  by_cases c : (m : Int) ≤ x
  · simp [c]
  · simp [c]
theorem anyG_ten (m : Nat) (l : List Int) : anyG m l 10 = 10 := by unfold anyG; split <;> rfl
theorem recLs_none {D : Dv} : ∀ (l : List Int) (k : Nat) (M : List ByteArray) (ds : List De), (∃ n ∈ l, (M.length : Int) ≤ n) → recLs D l k M ds = none
  | [], k, M, ds, h => by obtain ⟨n, hn, _⟩ := h; simp at hn
  | a :: l, k, M, ds, h => by
    show (if (M.length : Int) ≤ a then none else recLs D l (k + 1) (M.set a.toNat (imP D k)) (ds ++ pageD (plG a) (imP D k))) = none
    by_cases c : (M.length : Int) ≤ a
    · rw [if_pos c]
    · rw [if_neg c]
      obtain ⟨n, hn, hl⟩ := h
      refine recLs_none l _ _ _ ?_
      rcases List.mem_cons.1 hn with rfl | hn
      · exact absurd hl c
      · exact ⟨n, hn, by rw [List.length_set]; exact hl⟩
def dirA (dir : ByteArray) (k : Nat) : List Sec := exs [.wr 1 dir, .wr 0 (markB true).1, .sy] (newD k).A
theorem new_at {k i : Nat} (h : i < k) : (newD k).A[i]? = some ⟨pad ⟨#[]⟩, none⟩ := by unfold newD; rw [List.getElem?_replicate, if_pos h]
theorem dirA_0 {dir : ByteArray} {k : Nat} (h : 2 ≤ k) : (dirA dir k)[0]? = some ⟨markB true, none⟩ := by
  have e1 : ((De.wr 1 dir).ex (newD k).A)[0]? = some ⟨pad ⟨#[]⟩, none⟩ := by rw [ex_wr_out (by decide)]; exact new_at (by omega)
  have e2 := ex_wr_in (i := 0) (a := (0 : Int)) (s := (markB true).1) rfl e1
  show (De.sy.ex ((De.wr 0 (markB true).1).ex ((De.wr 1 dir).ex (newD k).A)))[0]? = _
  rw [ex_sy, e2]
  have : pad (markB true).1 = markB true := Subtype.ext (pad_64 (markB true).2)
  rw [this]; rfl
theorem dirA_1 {dir : ByteArray} {k : Nat} (h : 2 ≤ k) : (dirA dir k)[1]? = some ⟨pad dir, none⟩ := by
  have e1 := ex_wr_in (i := 1) (a := (1 : Int)) (s := dir) rfl (new_at (k := k) (i := 1) (by omega))
  show (De.sy.ex ((De.wr 0 (markB true).1).ex ((De.wr 1 dir).ex (newD k).A)))[1]? = _
  rw [ex_sy, ex_wr_out (by decide), e1]; rfl
theorem dirA_i {dir : ByteArray} {k i : Nat} (h : i < k) (h2 : 2 ≤ i) : (dirA dir k)[i]? = some ⟨pad ⟨#[]⟩, none⟩ := by
  show (De.sy.ex ((De.wr 0 (markB true).1).ex ((De.wr 1 dir).ex (newD k).A)))[i]? = _
  rw [ex_sy, ex_wr_out (by show i ≠ 0; omega), ex_wr_out (by show i ≠ 1; omega), new_at h]; rfl
theorem dirA_len (dir : ByteArray) (k : Nat) : (dirA dir k).length = k := by unfold dirA; rw [exs_len]; simp [newD]
theorem rep_sz (m : Nat) : ∀ s ∈ List.replicate m (zs 256), s.size = 256 := fun s hs => by rw [List.eq_of_mem_replicate hs]; exact zs_size 256
theorem open_dir {k m : Nat} {dir : ByteArray} {D : Dv} (h1 : 1 ≤ m) (h2 : m ≤ 160) (hk : 126 + 4 * m ≤ k) (hA : D.A = dirA dir k) (hh : D.c + 200 ≤ D.h) :
    (openB D (m : Nat)).1 = if dirB (pad dir).1 = true ∧ ∀ x ∈ lst (pad dir).1, x < (m : Int) then 0 else 10 := by
  have hf : Fit D.A (List.replicate m (zs 256)) := ⟨by rw [hA, dirA_len, List.length_replicate]; exact hk, rep_sz m, by simpa using h1, by simpa using h2⟩
  have hm : Mk D.A true := ⟨markB true, by rw [hA]; exact dirA_0 (by omega), mkd_mark true⟩
  have hr : D.rd 1 = (pad dir).1 := rd_nat (i := 1) (by rw [hA]; exact dirA_1 (by omega))
  have eu := openB_un hf
  rw [List.length_replicate, mk_rd hm, if_pos rfl] at eu
  by_cases c1 : dirB (pad dir).1 = true
  · by_cases c2 : ∀ x ∈ lst (pad dir).1, x < (m : Int)
    · rw [if_pos ⟨c1, c2⟩]
      have hi : Ing D.A (List.replicate m (zs 256)) (lst (pad dir).1) := by
        obtain ⟨_, q2, _, _⟩ := dirB_lst c1
        refine ⟨pad dir, by rw [hA]; exact dirA_1 (by omega), c1, rfl, fun n hn => by rw [List.length_replicate]; exact c2 n hn, fun k' n s hk' hs j hj => ?_, fun n s hn hs j hj => ?_⟩
        · rw [List.getElem?_replicate] at hs
          split at hs
          · obtain rfl : zs 256 = s := Option.some.inj hs
            have := (List.getElem?_eq_some_iff.1 hk').1
            rw [hA, dirA_i (by omega) (by omega), zs_chunk hj, pad_zs]
          · cases hs
        · rw [List.getElem?_replicate] at hs
          split at hs
          · obtain rfl : zs 256 = s := Option.some.inj hs
            rw [hA, dirA_i (by omega) (by omega), zs_chunk hj, pad_zs]
          · cases hs
      have := (open_two hf (.inr ⟨hm, _, hi⟩)).2.2.2.2.2.2.2 hh
      rwa [List.length_replicate] at this
    · rw [if_neg (fun h => c2 h.2), eu]
      unfold recB
      rw [hr, if_pos c1]
      have : ∃ n ∈ lst (pad dir).1, ((pgL D m).length : Int) ≤ n := by
        apply Classical.byContradiction
        intro hc
        refine c2 fun x hx => ?_
        apply Classical.byContradiction
        intro hx2
        exact hc ⟨x, hx, by rw [pgL_len]; omega⟩
      rw [recLs_none _ _ _ _ this]
  · rw [if_neg (fun h => c1 h.1), eu]
    unfold recB
    rw [hr, if_neg c1]
section
variable {B : Nat} {W w w' : World} {q p b : Nat} {v u : Value} {D : Dv} {Q : Value → World → Prop}
theorem opens_end {m : Nat} {f : Int} (hd : DevAt B w p v b D) (h0 : 0 ≤ D.c) (h1 : D.c + 200 ≤ 1000000) (e : (openB D (m : Nat)).1 = f) (kk : ∀ w', ChgS (fpD p v b) w w' → Q (.bool true) w') : f10_j1 (.int .i64 ((m : Nat) : Int)) (pv p) (.int .i64 f) w Q := by
  unfold f10_j1
  try simp only [↓reduceIte, ↓LL, LM, Value.cells, Nat.reduceAdd, Option.some.injEq, exists_eq_left', decide_true, decide_false, if_true, if_false, reduceCtorEq, cond_true, cond_false]
  subst e
  refine f38_s hd h0 h1 (fun hne w' d2 hc => ?_) (fun he w' q u _ _ _ _ hc => ?_)
  · try simp only [↓reduceIte, ↓LL, LM, Value.cells, Nat.reduceAdd, Option.some.injEq, exists_eq_left', decide_true, decide_false, if_true, if_false, reduceCtorEq, cond_true, cond_false, get0, get1]
    rw [pn_ne pt49]
    try simp only [↓reduceIte, ↓LL, LM, Value.cells, Nat.reduceAdd, Option.some.injEq, exists_eq_left', decide_true, decide_false, if_true, if_false, reduceCtorEq, cond_true, cond_false, Option.isNone, hne, Bool.not_true, decide_true, decide_false]
    exact kk w' hc
  · try simp only [↓reduceIte, ↓LL, LM, Value.cells, Nat.reduceAdd, Option.some.injEq, exists_eq_left', decide_true, decide_false, if_true, if_false, reduceCtorEq, cond_true, cond_false, get0, get1, he]
    rw [pn_ne pt49]
    try simp only [↓reduceIte, ↓LL, LM, Value.cells, Nat.reduceAdd, Option.some.injEq, exists_eq_left', decide_true, decide_false, if_true, if_false, reduceCtorEq, cond_true, cond_false, Option.isNone, Bool.not_false, decide_true, decide_false]
    exact kk w' hc
theorem opens_loop {m0 : Nat} {l : List Int} {f0 : Int} {t : Value} {j1 : Value → Value → Value → M} (hl : rdI .i64 W v l) (h31 : l.length ≤ 31) : ∀ (d m i : Nat) (w : World), i + d = l.length → d < m → Below W.heap.size W w →
    (∀ w', Below W.heap.size W w' → j1 (.int .i64 ((m0 : Nat) : Int)) t (.int .i64 (anyG m0 l f0)) w' Q) →
    itr (fun _ _ _ _ _ => bot) (f10_b2 j1) m (.int .i64 ((m0 : Nat) : Int)) t v (.int .i64 (anyG m0 (l.take i) f0)) (.int .i64 ((i : Nat) : Int)) w Q := by
  intro d
  induction d with
  | zero =>
    intro m i w hi hm hb kk
    obtain ⟨m, rfl⟩ : ∃ x, m = x + 1 := ⟨m - 1, by omega⟩
    show f10_b2 j1 _ _ _ _ _ _ w Q
    unfold f10_b2
    have lp := rdI_lnl hl
    have c : ¬ (i : Int) < (l.length : Nat) := by omega
    rw [List.take_of_length_le (by omega)]
    try simp only [↓reduceIte, ↓LL, LM, Value.cells, Nat.reduceAdd, Option.some.injEq, exists_eq_left', decide_true, decide_false, if_true, if_false, reduceCtorEq, cond_true, cond_false, lp, c]
    exact kk w hb
  | succ d ih =>
    intro m i w hi hm hb kk
    obtain ⟨m, rfl⟩ : ∃ x, m = x + 1 := ⟨m - 1, by omega⟩
    show f10_b2 j1 _ _ _ _ _ _ w Q
    unfold f10_b2
    have lp := rdI_lnl hl
    have c : (i : Int) < (l.length : Nat) := by omega
    have hil : i < l.length := by omega
    have h3 : IntKind.i64.wrap ((i : Int) + 1) = ((i + 1 : Nat) : Int) := by rw [w64 (by omega) (by omega)]; rfl
    obtain ⟨ad, hc, hia⟩ := rdI_at (rdI_b hl hb) hil
    have hts : l.take (i + 1) = l.take i ++ [l[i]] := List.take_succ_eq_append_getElem hil
    have nxt := ih m (i + 1) w (by omega) (by omega) hb kk
    by_cases c2 : (m0 : Int) ≤ l[i]
    · have c2' : l[i] ≥ (m0 : Int) := c2
      have e : anyG m0 (l.take (i + 1)) f0 = 10 := by rw [hts, anyG_snoc, if_pos c2]
      rw [e] at nxt
      try simp only [↓reduceIte, ↓LL, LM, Value.cells, Nat.reduceAdd, Option.some.injEq, exists_eq_left', decide_true, decide_false, if_true, if_false, reduceCtorEq, cond_true, cond_false, lp, c, hia, hc, c2, c2']
      unfold f10_j3
      try simp only [↓reduceIte, ↓LL, LM, Value.cells, Nat.reduceAdd, Option.some.injEq, exists_eq_left', decide_true, decide_false, if_true, if_false, reduceCtorEq, cond_true, cond_false, h3]
      exact nxt
    · have c2' : ¬ l[i] ≥ (m0 : Int) := c2
      have e : anyG m0 (l.take (i + 1)) f0 = anyG m0 (l.take i) f0 := by rw [hts, anyG_snoc, if_neg c2]
      rw [e] at nxt
      try simp only [↓reduceIte, ↓LL, LM, Value.cells, Nat.reduceAdd, Option.some.injEq, exists_eq_left', decide_true, decide_false, if_true, if_false, reduceCtorEq, cond_true, cond_false, lp, c, hia, hc, c2, c2']
      unfold f10_j3
      try simp only [↓reduceIte, ↓LL, LM, Value.cells, Nat.reduceAdd, Option.some.injEq, exists_eq_left', decide_true, decide_false, if_true, if_false, reduceCtorEq, cond_true, cond_false, h3]
      exact nxt
theorem f10_s {n m : Int} {dir : ByteArray} (kk : ∀ w', Below w.heap.size w w' → Q (.bool true) w') : f10 (.int .i64 n) (.int .i64 m) (.string dir) w Q := by
  unfold f10
  try simp only [↓reduceIte, ↓LL, LM, Value.cells, Nat.reduceAdd, Option.some.injEq, exists_eq_left', decide_true, decide_false, if_true, if_false, reduceCtorEq, cond_true, cond_false]
  refine f36_s fun w1 b1 => ?_
  try simp only [↓reduceIte, ↓LL, LM, Value.cells, Nat.reduceAdd, Option.some.injEq, exists_eq_left', decide_true, decide_false, if_true, if_false, reduceCtorEq, cond_true, cond_false]
  have hk : (((min (max n 0) 4096).toNat : Nat) : Int) = min (max n 0) 4096 := by omega
  generalize (min (max n 0) 4096).toNat = k at *
  have s1 := b1.size
  refine f37_s (B := w.heap.size) n (k := k) hk s1 fun w2 p v b pw bw hd hf b2 => ?_
  have b02 := bt b1 b2
  have s2 := b02.size
  have lk : (newD k).A.length = k := by simp [newD]
  try simp only [↓reduceIte, ↓LL, LM, Value.cells, Nat.reduceAdd, Option.some.injEq, exists_eq_left', decide_true, decide_false, if_true, if_false, reduceCtorEq, cond_true, cond_false]
  by_cases ca : m < 1 ∨ 160 < m ∨ (k : Int) < 126 + 4 * m
  · have e : openB (newD k) m = (1, newD k, []) := by unfold openB; rw [lk, if_pos ca]
    refine f38_s hd (nd0 k) (nd1 k) (fun _ w3 d3 hc3 => ?_) (fun h => by rw [e] at h; cases h)
    rw [e] at d3 ⊢
    have b03 := bs b02 (fpD_B hd) s2 hc3
    have fin := kk w3 b03
    by_cases c1 : m < 1
    · try simp only [↓reduceIte, ↓LL, LM, Value.cells, Nat.reduceAdd, Option.some.injEq, exists_eq_left', decide_true, decide_false, if_true, if_false, reduceCtorEq, cond_true, cond_false, get0, get1, c1]
      rw [pn_eq pt49]
      try simp only [↓reduceIte, ↓LL, LM, Value.cells, Nat.reduceAdd, Option.some.injEq, exists_eq_left', decide_true, decide_false, if_true, if_false, reduceCtorEq, cond_true, cond_false, Option.isNone]
      exact fin
    · by_cases c2 : 160 < m
      · have c2' : m > 160 := c2
        try simp only [↓reduceIte, ↓LL, LM, Value.cells, Nat.reduceAdd, Option.some.injEq, exists_eq_left', decide_true, decide_false, if_true, if_false, reduceCtorEq, cond_true, cond_false, get0, get1, c1, c2, c2']
        rw [pn_eq pt49]
        try simp only [↓reduceIte, ↓LL, LM, Value.cells, Nat.reduceAdd, Option.some.injEq, exists_eq_left', decide_true, decide_false, if_true, if_false, reduceCtorEq, cond_true, cond_false, Option.isNone]
        exact fin
      · have c2' : ¬ m > 160 := c2
        have c3 : (k : Int) < 126 + 4 * m := by omega
        have w1' : IntKind.i64.wrap (4 * m) = 4 * m := w64 (by omega) (by omega)
        have w2' : IntKind.i64.wrap (126 + 4 * m) = 126 + 4 * m := w64 (by omega) (by omega)
        try simp only [↓reduceIte, ↓LL, LM, Value.cells, Nat.reduceAdd, Option.some.injEq, exists_eq_left', decide_true, decide_false, if_true, if_false, reduceCtorEq, cond_true, cond_false, get0, get1, c1, c2, c2']
        refine f39_s d3 ?_
        rw [lk]
        try simp only [↓reduceIte, ↓LL, LM, Value.cells, Nat.reduceAdd, Option.some.injEq, exists_eq_left', decide_true, decide_false, if_true, if_false, reduceCtorEq, cond_true, cond_false, w1', w2', c3]
        rw [pn_eq pt49]
        try simp only [↓reduceIte, ↓LL, LM, Value.cells, Nat.reduceAdd, Option.some.injEq, exists_eq_left', decide_true, decide_false, if_true, if_false, reduceCtorEq, cond_true, cond_false, Option.isNone]
        exact fin
  · obtain ⟨m, rfl⟩ := Int.eq_ofNat_of_zero_le (show 0 ≤ m by omega)
    have c1 : ¬ ((m : Nat) : Int) < 1 := by omega
    have c2 : ¬ (160 : Int) < ((m : Nat) : Int) := by omega
    have c2' : ¬ ((m : Nat) : Int) > 160 := c2
    have c3 : ¬ ((k : Nat) : Int) < 126 + 4 * ((m : Nat) : Int) := by omega
    have w1' : IntKind.i64.wrap (4 * ((m : Nat) : Int)) = 4 * ((m : Nat) : Int) := w64 (by omega) (by omega)
    have w2' : IntKind.i64.wrap (126 + 4 * ((m : Nat) : Int)) = 126 + 4 * ((m : Nat) : Int) := w64 (by omega) (by omega)
    refine open_at (B0 := w.heap.size) hd (nd0 k) (nd1 k) (Nat.le_refl _) s2 (open_new (m := m) (N := k) (by omega) (by omega) (by omega)) fun w3 q u _ _ d3 _ hc3 => ?_
    have b03 := bs b02 (fpD_B hd) s2 hc3
    try simp only [↓reduceIte, ↓LL, LM, Value.cells, Nat.reduceAdd, Option.some.injEq, exists_eq_left', decide_true, decide_false, if_true, if_false, reduceCtorEq, cond_true, cond_false, get0, get1, c1, c2, c2']
    refine f39_s d3 ?_
    rw [lk]
    try simp only [↓reduceIte, ↓LL, LM, Value.cells, Nat.reduceAdd, Option.some.injEq, exists_eq_left', decide_true, decide_false, if_true, if_false, reduceCtorEq, cond_true, cond_false, w1', w2', c3]
    by_cases c4 : 64 < dir.size
    · have c4' : ((dir.size : Nat) : Int) > 64 := by omega
      have c4'' : (64 : Int) < ((dir.size : Nat) : Int) := by omega
      try simp only [↓reduceIte, ↓LL, LM, Value.cells, Nat.reduceAdd, Option.some.injEq, exists_eq_left', decide_true, decide_false, if_true, if_false, reduceCtorEq, cond_true, cond_false, c4', c4'']
      exact kk w3 b03
    · have c4' : ¬ ((dir.size : Nat) : Int) > 64 := by omega
      have c4'' : ¬ (64 : Int) < ((dir.size : Nat) : Int) := by omega
      try simp only [↓reduceIte, ↓LL, LM, Value.cells, Nat.reduceAdd, Option.some.injEq, exists_eq_left', decide_true, decide_false, if_true, if_false, reduceCtorEq, cond_true, cond_false, c4', c4'']
      have r1 : (newD k).wr 1 dir = (0, ⟨(De.wr 1 dir).ex (newD k).A, 0 + 1, 4611686018427387904⟩) := by
        have := run_ex (d := .wr 1 dir) (D := newD k) ⟨by decide, by rw [lk]; omega, by omega⟩
        rw [if_neg (ndh k)] at this
        exact this
      refine f40_s d3 (nd0 k) (nd2 k) 1 dir fun w4 d4 hc4 => ?_
      rw [r1] at d4 ⊢
      have b04 := bs b03 (fpD_B d3) b03.size hc4
      try simp only [↓reduceIte, ↓LL, LM, Value.cells, Nat.reduceAdd, Option.some.injEq, exists_eq_left', decide_true, decide_false, if_true, if_false, reduceCtorEq, cond_true, cond_false]
      refine f18_s fun w5 b5 => ?_
      have b05 := bt b04 b5
      have d5 := d4.below b5
      try simp only [↓reduceIte, ↓LL, LM, Value.cells, Nat.reduceAdd, Option.some.injEq, exists_eq_left', decide_true, decide_false, if_true, if_false, reduceCtorEq, cond_true, cond_false]
      have r2 : (⟨(De.wr 1 dir).ex (newD k).A, 0 + 1, 4611686018427387904⟩ : Dv).wr 0 (markB true).1 = (0, ⟨(De.wr 0 (markB true).1).ex ((De.wr 1 dir).ex (newD k).A), 0 + 1 + 1, 4611686018427387904⟩) := by
        have := run_ex (d := .wr 0 (markB true).1) (D := ⟨(De.wr 1 dir).ex (newD k).A, 0 + 1, 4611686018427387904⟩) ⟨by decide, by show (0 : Int) < ((De.ex (De.wr 1 dir) (newD k).A).length : Int); rw [ex_len, lk]; omega, Nat.le_of_eq (markB true).2⟩
        rw [if_neg (by show ¬ (4611686018427387904 : Int) < 0 + 1 + 1; decide)] at this
        exact this
      refine f40_s d5 (by show (0 : Int) ≤ 0 + 1; decide) (by show (0 + 1 : Int) ≤ 1000000; decide) 0 (markB true).1 fun w6 d6 hc6 => ?_
      rw [r2] at d6 ⊢
      have b06 := bs b05 (fpD_B d5) b05.size hc6
      try simp only [↓reduceIte, ↓LL, LM, Value.cells, Nat.reduceAdd, Option.some.injEq, exists_eq_left', decide_true, decide_false, if_true, if_false, reduceCtorEq, cond_true, cond_false]
      have r3 : (⟨(De.wr 0 (markB true).1).ex ((De.wr 1 dir).ex (newD k).A), 0 + 1 + 1, 4611686018427387904⟩ : Dv).sync = (0, ⟨dirA dir k, 0 + 1 + 1 + 1, 4611686018427387904⟩) := by
        have := run_ex (d := .sy) (D := ⟨(De.wr 0 (markB true).1).ex ((De.wr 1 dir).ex (newD k).A), 0 + 1 + 1, 4611686018427387904⟩) trivial
        rw [if_neg (by show ¬ (4611686018427387904 : Int) < 0 + 1 + 1 + 1; decide)] at this
        exact this
      refine f41_s d6 (by show (0 : Int) ≤ 0 + 1 + 1; decide) (by show (0 + 1 + 1 : Int) ≤ 1000000; decide) fun w7 d7 hc7 => ?_
      rw [r3] at d7 ⊢
      have b07 := bs b06 (fpD_B d6) b06.size hc7
      try simp only [↓reduceIte, ↓LL, LM, Value.cells, Nat.reduceAdd, Option.some.injEq, exists_eq_left', decide_true, decide_false, if_true, if_false, reduceCtorEq, cond_true, cond_false]
      refine f42_s dir fun w8 b8 => ?_
      have b08 := bt b07 b8
      have d8 := d7.below b8
      try simp only [↓reduceIte, ↓LL, LM, Value.cells, Nat.reduceAdd, Option.some.injEq, exists_eq_left', decide_true, decide_false, if_true, if_false, reduceCtorEq, cond_true, cond_false]
      have eo := open_dir (D := ⟨dirA dir k, 0 + 1 + 1 + 1, 4611686018427387904⟩) (k := k) (m := m) (dir := dir) (by omega) (by omega) (by omega) rfl (by show (0 + 1 + 1 + 1 + 200 : Int) ≤ 4611686018427387904; decide)
      refine f16_s (by rw [(pad dir).2]; decide) (fun w9 b9 hdir => ?_) (fun w9 lv b9 hdir hlv => ?_)
      · have b09 := bt b08 b9
        have d9 := d8.below b9
        try simp only [↓reduceIte, ↓LL, LM, Value.cells, Nat.reduceAdd, Option.some.injEq, exists_eq_left', decide_true, decide_false, if_true, if_false, reduceCtorEq, cond_true, cond_false, get0, get1]
        have hnil : rdI .i64 w9 (.slice none 0 0) [] := ⟨none, 0, rfl, fun i hi => by simp at hi⟩
        rw [if_neg (fun h => by rw [hdir] at h; cases h.1)] at eo
        have := opens_loop (W := w9) (m0 := m) (f0 := 10) (t := pv p) (j1 := f10_j1) (Q := Q) hnil (by simp) 0 1 0 w9 rfl (by omega) (Below.refl _ _) (fun w' hb' => ?_)
        · exact ⟨_, this⟩
        · rw [anyG_ten]
          exact opens_end (d9.below hb') (by show (0 : Int) ≤ 0 + 1 + 1 + 1; decide) (by show (0 + 1 + 1 + 1 + 200 : Int) ≤ 1000000; decide) eo fun w10 hc10 => kk w10 (bs (bt b09 hb') (fpD_B (d9.below hb')) (bt b09 hb').size hc10)
      · have b09 := bt b08 b9
        have d9 := d8.below b9
        try simp only [↓reduceIte, ↓LL, LM, Value.cells, Nat.reduceAdd, Option.some.injEq, exists_eq_left', decide_true, decide_false, if_true, if_false, reduceCtorEq, cond_true, cond_false, get0, get1]
        obtain ⟨_, l31, _, _⟩ := dirB_lst hdir
        have hrd := rdP_rd (ownI_rdP hlv)
        have := opens_loop (W := w9) (m0 := m) (f0 := 0) (t := pv p) (j1 := f10_j1) (Q := Q) hrd l31 (lst (pad dir).1).length ((lst (pad dir).1).length + 1) 0 w9 (by omega) (by omega) (Below.refl _ _) (fun w' hb' => ?_)
        · exact ⟨_, this⟩
        · have e : (openB ⟨dirA dir k, 0 + 1 + 1 + 1, 4611686018427387904⟩ ((m : Nat) : Int)).1 = anyG m (lst (pad dir).1) 0 := by
            rw [eo]
            unfold anyG
            by_cases c : (lst (pad dir).1).any (fun x => decide (((m : Nat) : Int) ≤ x)) = true
            · rw [if_pos c, if_neg]
              rintro ⟨_, h⟩
              obtain ⟨x, hx, hl⟩ := List.any_eq_true.1 c
              have h1 := h x hx
              have h2 := of_decide_eq_true hl
              omega
            · have hall : ∀ x ∈ lst (pad dir).1, x < ((m : Nat) : Int) := by
                intro x hx
                apply Classical.byContradiction
                intro hn
                exact c (List.any_eq_true.2 ⟨x, hx, decide_eq_true (by omega)⟩)
              rw [if_neg c, if_pos ⟨hdir, hall⟩]
          exact opens_end (d9.below hb') (by show (0 : Int) ≤ 0 + 1 + 1 + 1; decide) (by show (0 + 1 + 1 + 1 + 200 : Int) ≤ 1000000; decide) e fun w10 hc10 => kk w10 (bs (bt b09 hb') (fpD_B (d9.below hb')) (bt b09 hb').size hc10)
end
end Go.Proofs.YtongpnolikkknaaDoor

set_option maxRecDepth 20000
set_option maxHeartbeats 4000000
namespace Go.Proofs.YtongpnolikkknaaDoor
open Sh RowKit Go.MapKept
section
variable {w : World} {Q : Value → World → Prop}
theorem f11_s {n : Int} {ps bs : List Int} {vp vb : Value} (hp : rdI .i64 w vp ps) (hbs : rdI .u8 w vb bs) (hl : ps.length ≤ 1048576) (kk : ∀ w', Below w.heap.size w w' → Q (.bool true) w') : f11 (.int .i64 n) (.agg #[vp, vb]) w Q := by
  unfold f11
  try simp only [↓reduceIte, ↓LL, LM, Value.cells, Nat.reduceAdd, Option.some.injEq, exists_eq_left', decide_true, decide_false, if_true, if_false, reduceCtorEq, cond_true, cond_false]
  have b1 := b_psh w (.cells #[vp, vb] 68)
  have k1 := blk_psh_new (w := w) (o := .cells #[vp, vb] 68)
  generalize psh w (.cells #[vp, vb] 68) = w1 at *
  refine f36_s fun w2 b2 => ?_
  have b02 := bt b1 b2
  have k2 := stay b2 k1
  try simp only [↓reduceIte, ↓LL, LM, Value.cells, Nat.reduceAdd, Option.some.injEq, exists_eq_left', decide_true, decide_false, if_true, if_false, reduceCtorEq, cond_true, cond_false]
  refine ldn_box k2 rfl ?_
  refine f43_s (rdI_b hp b02) (rdI_b hbs b02) hl fun w3 x y b3 hx hy => ?_
  have b03 := bt b02 b3
  try simp only [↓reduceIte, ↓LL, LM, Value.cells, Nat.reduceAdd, Option.some.injEq, exists_eq_left', decide_true, decide_false, if_true, if_false, reduceCtorEq, cond_true, cond_false, get0, get1]
  refine f44_n ?_
  try simp only [↓reduceIte, ↓LL, LM, Value.cells, Nat.reduceAdd, Option.some.injEq, exists_eq_left', decide_true, decide_false, if_true, if_false, reduceCtorEq, cond_true, cond_false, get0, get1]
  refine f38_n ?_
  try simp only [↓reduceIte, ↓LL, LM, Value.cells, Nat.reduceAdd, Option.some.injEq, exists_eq_left', decide_true, decide_false, if_true, if_false, reduceCtorEq, cond_true, cond_false, get0, get1]
  refine f45_n ?_
  try simp only [↓reduceIte, ↓LL, LM, Value.cells, Nat.reduceAdd, Option.some.injEq, exists_eq_left', decide_true, decide_false, if_true, if_false, reduceCtorEq, cond_true, cond_false]
  refine f46_n ?_
  try simp only [↓reduceIte, ↓LL, LM, Value.cells, Nat.reduceAdd, Option.some.injEq, exists_eq_left', decide_true, decide_false, if_true, if_false, reduceCtorEq, cond_true, cond_false]
  refine f47_n ?_
  try simp only [↓reduceIte, ↓LL, LM, Value.cells, Nat.reduceAdd, Option.some.injEq, exists_eq_left', decide_true, decide_false, if_true, if_false, reduceCtorEq, cond_true, cond_false]
  rw [pn_eq pt49]
  try simp only [↓reduceIte, ↓LL, LM, Value.cells, Nat.reduceAdd, Option.some.injEq, exists_eq_left', decide_true, decide_false, if_true, if_false, reduceCtorEq, cond_true, cond_false, Option.isNone]
  exact kk w3 b03
end
end Go.Proofs.YtongpnolikkknaaDoor

namespace Go.Proofs.YtongpnolikkknaaDoor
open Go.ChangeShapes Go.WideShapes Go.ChangeAt Go.RowKit
open Sh
def R11 := RiB
def b11 : Int × Bat → Nat := fun x => x.2.ps.length
theorem oa11 : OpensA Tryd.prog [3, 68] (Int × Bat) R11 b11 := oaiB
theorem law11 (W : World) (vs : List Value) (a : Int × Bat) (h : R11 W vs a) (hk : b11 a ≤ 1048576) : Calls Tryd.prog 11 vs.toArray W (Rt fun v W' => v = .bool true ∧ Below W.heap.size W W') := by
  obtain ⟨n, ps, bs, vp, vb⟩ := a
  obtain ⟨rfl, h1, h2, _⟩ := h
  exact s11 _ _ _ _ (f11_s h1 h2 hk fun w' hb => ⟨rfl, hb⟩)
set_option maxRecDepth 1000000 in
theorem lifted11 (os : Os) (started : os.Started) (H : Type) (enc : TypeId × Value → H) (F : Stop.Interp) :
    ReturnsInHanded {} Tryd.checked os 11 .any (fun w args => ((Rows.OpenSpec.upto Rows.pagerNilSpec).pre enc Tryd.prog Tryd.f11 Rows.pagerNilUptoRow.domain false w args ∧ laidMetH Tryd.prog Rows.pagerNilUptoRow.laid w) ∧ sizedMet enc Tryd.prog Tryd.f11 (Rows.OpenSpec.upto Rows.pagerNilSpec) false w args) (((Rows.OpenSpec.upto Rows.pagerNilSpec).at F).post enc Tryd.prog Tryd.f11 false true false false) := by
  refine law_from_laid_upto (C := Tryd.checked) (s := Rows.pagerNilSpec) (X := (fun w _ => laidMetH Tryd.prog Rows.pagerNilUptoRow.laid w)) (tb := 4) (R := R11) (b := b11) own started (by kernel_rfl) Tryd.func11
    (cond_witness_at (enc := enc) (C := Tryd.checked) (os := os) (s := Rows.OpenSpec.upto Rows.pagerNilSpec) (k := Rows.uptoSmall) (X := (fun w _ => laidMetH Tryd.prog Rows.pagerNilUptoRow.laid w)) rfl false (laidW Tryd.prog Rows.pagerNilUptoRow.laid os) #[.int .i64 0, .agg #[.slice none 0 0, .slice none 0 0]] 8 rfl (by kernel_rfl) (by kernel_rfl) (by kernel_rfl)
      (x := ([.lit (.int .i64 0), .agg [.nil, .nil]], [], [])) (by kernel_rfl) rfl (by kernel_rfl) (by kernel_rfl) (laidW_metH os _))
    rfl (by kernel_rfl) (by kernel_rfl) rfl Tryd.underlying4 (fun ds hd => ?_) ?_ law11
  · match ds, hd with
    | [d0, d1], _ => exact ⟨rfl, rfl, rfl⟩
  · show OpensA Tryd.prog Tryd.f11.params.toList _ R11 b11
    rw [Tryd.params11]; exact oa11
theorem pagerNil_row : Rows.PagerNilUptoSaid :=
  OpenClaim.holds_of_cond 11 Tryd.f11 rfl rfl rfl rfl rfl rfl rfl ⟨rfl, rfl, rfl, rfl, rfl⟩ rfl rfl rfl rfl rfl (by kernel_rfl) Tryd.func11 (by kernel_rfl)
    (of_decide_eq_true (by kernel_rfl)) (by unfold Func.isWrapper; first | (rw [if_pos (by decide +kernel)]; kernel_rfl) | (rw [if_neg (by decide +kernel)]; exact ⟨rfl, rfl⟩))
    (fun os started H enc _ F => lifted11 os started H enc F)
theorem pagerNil_holds : Rows.PagerNilUptoCardSaid :=
  Claim7.holds_tied_plain_at .later [] Rows.pagerNilUptoCard.laidKinds true Rows.pagerNilUptoCard.stood.harness Rows.pagerNilUptoCard.stood.looks
    pagerNil_row (fun _ h => by cases h) (by kernel_rfl) (fun _ h => by cases h) pagerNilUpto_row_tie rfl ⟨rfl, rfl⟩ (by kernel_rfl) (by kernel_rfl)
    (fun f fn hf hfn => by
      obtain rfl : f = 11 := Option.some.inj ((show Tryd.prog.funcNamed Rows.pagerNilUptoRow.func = some 11 by kernel_rfl).symm.trans hf) |>.symm
      obtain rfl : fn = Tryd.f11 := (Option.some.inj (Tryd.func11.symm.trans hfn)).symm
      exact ⟨by kernel_rfl, no_stand (by kernel_rfl)⟩)
    (by kernel_rfl)
#print axioms pagerNil_holds
end Go.Proofs.YtongpnolikkknaaDoor
