/- The call of SpaceTwo returns true for every input, and its arguments read behind it as they read before. -/
import Derived.Test.YtongpnolikkknaaGreatDoorZ4
set_option linter.unusedVariables false
set_option linter.unusedSimpArgs false
set_option linter.unusedSectionVars false
set_option maxRecDepth 20000
set_option maxHeartbeats 4000000
namespace Go.Proofs.YtongpnolikkknaaGreatDoor
open Sh RowKit Go.MapKept
theorem byL_usedS {U : List Nat} (h : UOk U) : byL (usedS U) = U.map fun (x : Nat) => (x : Int) := byL_son fun x hx => by
  obtain ⟨y, hy, rfl⟩ := List.mem_map.1 hx
  have := h.bd y hy
  omega
theorem byL_first {U : List Nat} {hd : ByteArray} (h : UOk U) : byL (firstW U hd) = (U.map fun (x : Nat) => (x : Int)) ++ byL hd := by unfold firstW; rw [byL_app, byL_usedS h]
theorem U0_first {U : List Nat} {hd : ByteArray} (h : UOk U) : U0 (firstW U hd) = U := by
  unfold U0
  rw [byL_first h, List.take_left' (by rw [List.length_map, h.len]), List.map_map]
  exact (List.map_congr_left fun x _ => rfl).trans (List.map_id U)
theorem ext_first {U : List Nat} {hd : ByteArray} (h : UOk U) : (firstW U hd).extract 20 (firstW U hd).size = hd := by
  apply byL_inj
  rw [byL_ext, byL_first h, List.drop_left' (by rw [List.length_map, h.len])]
theorem head_first {U : List Nat} {hd : ByteArray} (h : UOk U) : (firstW U hd).extract 0 20 = usedS U := by
  apply byL_inj
  rw [byL_take, List.drop_zero, byL_first h, List.take_left' (by rw [List.length_map, h.len]), byL_usedS h]
theorem first_size {U : List Nat} {hd : ByteArray} (h : UOk U) : (firstW U hd).size = 20 + hd.size := by unfold firstW; rw [ByteArray.size_append, usedS_size h]
theorem first_U0 {s : ByteArray} (h : s.size = 256) : firstW (U0 s) (s.extract 20 s.size) = s := by
  apply byL_inj
  rw [byL_first (U0_ok h), byL_ext]
  have e : ((U0 s).map fun (x : Nat) => (x : Int)) = (byL s).take 20 := by
    unfold U0
    rw [List.map_map]
    refine (List.map_congr_left fun x hx => ?_).trans (List.map_id _)
    have := byL_nn (List.mem_of_mem_take hx)
    show ((x.toNat : Nat) : Int) = x
    exact Int.toNat_of_nonneg this.1
  rw [e, List.take_append_drop]
/-- page 0 with a page's bit turned -/
def trnS (s : ByteArray) (n : Nat) : ByteArray := firstW (trnB (U0 s) n) (s.extract 20 s.size)
theorem trnS_first {U : List Nat} {hd : ByteArray} (h : UOk U) (n : Nat) : trnS (firstW U hd) n = firstW (trnB U n) hd := by unfold trnS; rw [U0_first h, ext_first h]
theorem trnS_size {s : ByteArray} (h : s.size = 256) (n : Nat) : (trnS s n).size = 256 := by
  unfold trnS
  rw [first_size (trnB_ok (U0_ok h) n)]
  have : (s.extract 20 s.size).size = s.size - 20 := by rw [ByteArray.size_extract]; omega
  omega
theorem byte_U0 {s : ByteArray} {n : Nat} (h : s.size = 256) (hn : n < 160) : ∃ b, s[n / 8]? = some b ∧ b.toNat = bytN (U0 s) n ∧ (byL s)[n / 8]? = some ((bytN (U0 s) n : Nat) : Int) := by
  have hl : n / 8 < (byL s).length := by rw [byL_len]; omega
  obtain ⟨c, h1, h2⟩ := byL_get s (n / 8) hl
  have e : bytN (U0 s) n = c.toNat := by
    unfold bytN U0
    rw [List.getD_eq_getElem?_getD, List.getElem?_map, List.getElem?_take_of_lt (by omega), List.getElem?_eq_getElem hl, h2]
    rfl
  exact ⟨c, h1, e.symm, by rw [List.getElem?_eq_getElem hl, h2, e]⟩
theorem son_trn {s : ByteArray} {n : Nat} (h : s.size = 256) (hn : n < 160) : strOfNums ((byL s).set (n / 8) ((bytN (U0 s) n ^^^ 2 ^ (n % 8) : Nat) : Int)) = trnS s n := by
  have hU := U0_ok h
  have hx : bytN (U0 s) n ^^^ 2 ^ (n % 8) < 256 := by
    have := Nat.xor_lt_two_pow (n := 8) (show bytN (U0 s) n < 2 ^ 8 from bytN_lt hU n) (show 2 ^ (n % 8) < 2 ^ 8 from pow_lt8 (Nat.mod_lt _ (by decide)))
    exact this
  apply byL_inj
  rw [byL_son fun x hm => by
    rcases List.mem_or_eq_of_mem_set hm with hm | rfl
    · exact byL_nn hm
    · omega]
  unfold trnS
  rw [byL_first (trnB_ok hU n), byL_ext]
  have e : byL s = ((U0 s).map fun (x : Nat) => (x : Int)) ++ (byL s).drop 20 := by
    have := byL_first (hd := s.extract 20 s.size) hU
    rw [first_U0 h, byL_ext] at this
    exact this
  have hl : (U0 s).length = 20 := hU.len
  have e2 : (byL s).set (n / 8) ((bytN (U0 s) n ^^^ 2 ^ (n % 8) : Nat) : Int) = (((U0 s).map fun (x : Nat) => (x : Int)) ++ (byL s).drop 20).set (n / 8) ((bytN (U0 s) n ^^^ 2 ^ (n % 8) : Nat) : Int) := by rw [← e]
  rw [e2, List.set_append_left _ _ (by rw [List.length_map, hl]; omega)]
  unfold trnB
  rw [List.map_set]
/-- the document's work -/
structure P8 where
  base : List ByteArray
  now : List ByteArray
  nts : List (List ByteArray)
  ov : Bool
structure Ok8 (X : P8) (N : Nat) : Prop where
  l1 : 1 ≤ N
  l2 : N ≤ 160
  len : X.now.length = N
  sz : ∀ s ∈ X.now, s.size = 256
  bl : X.base.length = N
def n0 (X : P8) : ByteArray := X.now.getD 0 ⟨#[]⟩
def thr8 (X : P8) (n : Int) : Int := thrB (U0 (n0 X)) X.now.length X.ov n
def rd8 (X : P8) (n : Int) : ByteArray × Int := if thr8 X n ≠ 0 then (⟨#[]⟩, thr8 X n) else (X.now.getD n.toNat ⟨#[]⟩, 0)
def wrE (X : P8) (n : Int) (s : ByteArray) : Int := if thr8 X n ≠ 0 then thr8 X n else if s.size ≠ 256 then 1 else 0
def wrX (X : P8) (n : Int) (s : ByteArray) : P8 := if wrE X n s = 0 then { X with now := X.now.set n.toNat s } else X
def drX (X : P8) (n : Int) : P8 := if thr8 X n = 0 then { X with now := X.now.set 0 (trnS (n0 X) n.toNat) } else X
def Fre (U : List Nat) (N n : Nat) : Prop := 1 ≤ n ∧ n < N ∧ isB U n = false ∧ ∀ j, 1 ≤ j → j < n → isB U j = true
theorem Fre.uniq {U : List Nat} {N m n : Nat} (h : Fre U N m) (k : Fre U N n) : m = n := by
  rcases Nat.lt_trichotomy m n with c | c | c
  · have := k.2.2.2 m h.1 c
    rw [h.2.2.1] at this; cases this
  · exact c
  · have := h.2.2.2 n k.1 c
    rw [k.2.2.1] at this; cases this
def tkX (X : P8) (n : Nat) : P8 := { X with now := (X.now.set 0 (trnS (n0 X) n)).set n (zs 256) }
def hd8 (X : P8) : ByteArray := if X.ov = true then ⟨#[]⟩ else (n0 X).extract 20 (n0 X).size
def shE (X : P8) (s : ByteArray) : Int := if X.ov = true then 13 else if 236 < s.size then 3 else 0
def shX (X : P8) (s : ByteArray) : P8 := if shE X s = 0 then { X with now := X.now.set 0 ((n0 X).extract 0 20 ++ s ++ zs (236 - s.size)) } else X
theorem Ok8.n0 {X : P8} {N : Nat} (h : Ok8 X N) : X.now[0]? = some (n0 X) ∧ (n0 X).size = 256 := by
  have := h.l1
  have := h.len
  have e : X.now[0]? = some (Go.Proofs.YtongpnolikkknaaGreatDoor.n0 X) := getD_some (by omega)
  exact ⟨e, h.sz _ (List.mem_of_getElem? e)⟩
theorem Ok8.set {X : P8} {N : Nat} (h : Ok8 X N) {i : Nat} {s : ByteArray} (hs : s.size = 256) : Ok8 { X with now := X.now.set i s } N :=
  ⟨h.l1, h.l2, by show (X.now.set i s).length = N; rw [List.length_set]; exact h.len, fun x hx => by
    rcases List.mem_or_eq_of_mem_set hx with hx | rfl
    · exact h.sz x hx
    · exact hs, h.bl⟩
structure R8 (B : Nat) (w : World) (r : Nat) (vb vn vo : Value) (vs : List Value) (X : P8) : Prop where
  rB : B ≤ r
  hr : w.heap[r]? = some (.cells #[vb, vn, vo, .bool X.ov] 151 (0, 0))
  hb : ownV B 9 w vb (X.base.map .string)
  hn : ownV B 9 w vn (X.now.map .string)
  ho : ownV B 100 w vo vs
  hl : vs.length = X.nts.length
  hv : ∀ (i : Nat) v l, vs[i]? = some v → X.nts[i]? = some l → ownV B 9 w v (l.map .string)
  sb : ∀ g, vb.ownBlock = some g → vn.ownBlock ≠ some g
  sv : ∀ v ∈ vs, ∀ g, v.ownBlock = some g → vn.ownBlock ≠ some g
def fp8 (r : Nat) (vb vn vo : Value) (vs : List Value) : Nat → Prop := fun k => k = r ∨ vb.ownBlock = some k ∨ vn.ownBlock = some k ∨ vo.ownBlock = some k ∨ ∃ v ∈ vs, v.ownBlock = some k
section
variable {B : Nat} {W w w' : World} {r : Nat} {vb vn vo v : Value} {vs : List Value} {X : P8} {N : Nat} {Q : Value → World → Prop} {K : Value → M} {K0 : M}
theorem ownS_at {e : TypeId} {l : List ByteArray} (h : ownV B e w v (l.map .string)) {i : Nat} (hi : i < l.length) : ∃ g, v.ownBlock = some g ∧ w.cell? ⟨g, i, none⟩ = some (.string l[i]) ∧ ∀ (k : IntKind) (K : Value → M) (w' : World) (Q : Value → World → Prop), ia 1 v (.int k (i : Int)) K w' Q = K (.pointer (some ⟨g, i, none⟩)) w' Q := by
  obtain ⟨g, cap, rfl, h1, h2, h3, h4⟩ := ownV_blk h (by intro e; rw [List.map_eq_nil_iff] at e; rw [e] at hi; simp at hi)
  refine ⟨g, h1, ?_, fun k K w' Q => ia_at (by rw [List.length_map]; exact hi)⟩
  have := h4 i (by rw [List.length_map]; exact hi)
  rw [this, List.getElem_map]
theorem R8.at (h : R8 B w r vb vn vo vs X) {i : Nat} (hi : i < X.now.length) : ∃ g, vn.ownBlock = some g ∧ w.cell? ⟨g, i, none⟩ = some (.string (X.now.getD i ⟨#[]⟩)) ∧ ∀ (k : IntKind) (K : Value → M) (w' : World) (Q : Value → World → Prop), ia 1 vn (.int k (i : Int)) K w' Q = K (.pointer (some ⟨g, i, none⟩)) w' Q := by
  obtain ⟨g, h1, h2, h3⟩ := ownS_at h.hn hi
  refine ⟨g, h1, ?_, h3⟩
  rw [h2, List.getD_eq_getElem?_getD, List.getElem?_eq_getElem hi]; rfl
theorem R8.c0 (h : R8 B w r vb vn vo vs X) : w.cell? ⟨r, 0, none⟩ = some vb := by rw [cell_of_blk h.hr]; rfl
theorem R8.c1 (h : R8 B w r vb vn vo vs X) : w.cell? ⟨r, 1, none⟩ = some vn := by rw [cell_of_blk h.hr]; rfl
theorem R8.c2 (h : R8 B w r vb vn vo vs X) : w.cell? ⟨r, 2, none⟩ = some vo := by rw [cell_of_blk h.hr]; rfl
theorem R8.c3 (h : R8 B w r vb vn vo vs X) : w.cell? ⟨r, 3, none⟩ = some (.bool X.ov) := by rw [cell_of_blk h.hr]; rfl
theorem R8.lnl (h : R8 B w r vb vn vo vs X) : ∀ (K : Value → M) (w1 : World) (Q : Value → World → Prop), lnl vn K w1 Q = K (.int .i64 ((X.now.length : Nat) : Int)) w1 Q := by
  have := lnl_own h.hn
  rwa [List.length_map] at this
theorem R8.chg {S : Nat → Prop} (h : R8 B w r vb vn vo vs X) (hc : ChgS S w w') (hS : ∀ k, fp8 r vb vn vo vs k → ¬ S k) : R8 B w' r vb vn vo vs X :=
  ⟨h.rB, hc.keep h.hr (hS r (.inl rfl)), ownV_chg h.hb hc fun g hg => hS g (.inr (.inl hg)), ownV_chg h.hn hc fun g hg => hS g (.inr (.inr (.inl hg))), ownV_chg h.ho hc fun g hg => hS g (.inr (.inr (.inr (.inl hg)))), h.hl,
    fun i v l h1 h2 => ownV_chg (h.hv i v l h1 h2) hc fun g hg => hS g (.inr (.inr (.inr (.inr ⟨v, List.mem_of_getElem? h1, hg⟩)))), h.sb, h.sv⟩
theorem R8.below (h : R8 B w r vb vn vo vs X) (hb : Below w.heap.size w w') : R8 B w' r vb vn vo vs X := h.chg (S := fun _ => False) (ChgS.of_below hb) fun _ _ hf => hf
theorem R8.drw (h : R8 B w r vb vn vo vs X) : R8 B (Sh.drw w) r vb vn vo vs X := h.below ⟨rfl, rfl, rfl, Nat.le_refl _, fun _ _ => rfl⟩
theorem R8.vsB (h : R8 B w r vb vn vo vs X) : ∀ v ∈ vs, ∀ g, v.ownBlock = some g → B ≤ g ∧ g < w.heap.size ∧ ∃ cur, w.heap[g]? = some (.cells cur 9 (0, 0)) := by
  intro v hv g hg
  obtain ⟨i, hi, rfl⟩ := List.mem_iff_getElem.1 hv
  have hi2 : i < X.nts.length := by rw [← h.hl]; exact hi
  exact ownV_lt (h.hv i _ _ (List.getElem?_eq_getElem hi) (List.getElem?_eq_getElem hi2)) g hg
theorem R8.lt (h : R8 B w r vb vn vo vs X) : ∀ k, fp8 r vb vn vo vs k → B ≤ k ∧ k < w.heap.size := by
  rintro k (rfl | hk | hk | hk | ⟨v, hv, hk⟩)
  · exact ⟨h.rB, blk_lt h.hr⟩
  · exact ⟨(ownV_lt h.hb k hk).1, (ownV_lt h.hb k hk).2.1⟩
  · exact ⟨(ownV_lt h.hn k hk).1, (ownV_lt h.hn k hk).2.1⟩
  · exact ⟨(ownV_lt h.ho k hk).1, (ownV_lt h.ho k hk).2.1⟩
  · exact ⟨(h.vsB v hv k hk).1, (h.vsB v hv k hk).2.1⟩
theorem ty_ne {g : Nat} {cs ds : Array Value} {s t : TypeId} {f f' : Nat × Nat} (h : w.heap[g]? = some (.cells cs s f)) (k : w.heap[g]? = some (.cells ds t f')) : s = t := by
  rw [h] at k
  have h2 := Option.some.inj k
  injection h2 with _ h3 _
theorem R8.nn (h : R8 B w r vb vn vo vs X) {g : Nat} (hg : vn.ownBlock = some g) : g ≠ r ∧ vo.ownBlock ≠ some g ∧ vb.ownBlock ≠ some g := by
  obtain ⟨_, _, cur, hcur⟩ := ownV_lt h.hn g hg
  refine ⟨?_, fun hv => ?_, fun hv => h.sb g hv hg⟩
  · rintro rfl
    exact absurd (ty_ne hcur h.hr) (by decide)
  · obtain ⟨_, _, cur', hcur'⟩ := ownV_lt h.ho g hv
    exact absurd (ty_ne hcur hcur') (by decide)
/-- a page of the document's stored -/
theorem R8.put {i g : Nat} {s : ByteArray} (h : R8 B w r vb vn vo vs X) (hi : i < X.now.length) (hg : vn.ownBlock = some g) (kk : ∀ w', R8 B w' r vb vn vo vs { X with now := X.now.set i s } → ChgS (fun k => vn.ownBlock = some k) w w' → K0 w' Q) : st (.pointer (some ⟨g, i, none⟩)) (.string s) K0 w Q := by
  obtain ⟨n1, n2, n3⟩ := h.nn hg
  rcases ownV_cases h.hn with ⟨rfl, _⟩ | ⟨g', cap, cur, e, hg', hb, hn, hm, hs, ht⟩
  · cases hg
  · have : g' = g := by rw [e] at hg; exact Option.some.inj hg
    subst this
    rw [List.length_map] at hn
    refine st_box hb (by omega) rfl fun w' hw hu => ?_
    have hc : ChgS (fun k => k = g') w w' := ChgS.of_upd hu rfl
    refine kk w' ⟨h.rB, hc.keep h.hr n1.symm, ownV_chg h.hb hc fun k hk e => n3 (e ▸ hk), ?_, ownV_chg h.ho hc fun k hk e => n2 (e ▸ hk), h.hl, fun j v l h1 h2 => ownV_chg (h.hv j v l h1 h2) hc fun k hk e => h.sv v (List.mem_of_getElem? h1) k hk (e ▸ hg), h.sb, h.sv⟩ (ChgS.of_upd hu hg)
    have := ownV_set (x := .string s) h.hn (by rw [List.length_map]; exact hi) hg (fun cur' h' => by rw [hb] at h'; cases h'; exact hw)
    show ownV B 9 w' vn ((X.now.set i s).map .string)
    rw [List.map_set]
    exact this
theorem shr8 {x k : Nat} (hk : k < 8) : shr .u8 .u64 (.int .u8 (x : Int)) (.int .u64 (k : Int)) K w Q = K (.int .u8 ((x / 2 ^ k : Nat) : Int)) w Q := by
  rw [shr_e]
  have e : (x : Int).fdiv (2 ^ (min ((k : Int).toNat) IntKind.u8.bits)) = ((x / 2 ^ k : Nat) : Int) := by
    have : min ((k : Int).toNat) IntKind.u8.bits = k := by rw [Int.toNat_natCast]; exact Nat.min_eq_left (by show k ≤ 8; omega)
    rw [this, Int.fdiv_eq_ediv_of_nonneg _ (by exact Int.le_of_lt (Int.pow_pos (by decide)))]
    have e2 : ((2 : Int) ^ k) = ((2 ^ k : Nat) : Int) := by rw [Int.natCast_pow]; rfl
    rw [e2]; exact (Int.natCast_ediv x (2 ^ k)).symm
  rw [e]
  apply propext
  exact ⟨fun h => h.2, fun h => ⟨by omega, h⟩⟩
theorem shl8u {k : Nat} (hk : k < 8) : shl .u8 .u64 (.int .u8 1) (.int .u64 (k : Int)) K w Q = K (.int .u8 ((2 ^ k : Nat) : Int)) w Q := by
  rw [shl_e]
  have e : IntKind.u8.wrap (1 * 2 ^ (min ((k : Int).toNat) IntKind.u8.bits)) = ((2 ^ k : Nat) : Int) := by
    rcases (by omega : k = 0 ∨ k = 1 ∨ k = 2 ∨ k = 3 ∨ k = 4 ∨ k = 5 ∨ k = 6 ∨ k = 7) with rfl | rfl | rfl | rfl | rfl | rfl | rfl | rfl <;> rfl
  rw [e]
  apply propext
  exact ⟨fun h => h.2, fun h => ⟨by omega, h⟩⟩
theorem isB_div (U : List Nat) (n : Nat) : isB U n = decide (bytN U n / 2 ^ (n % 8) % 2 = 1) := by
  unfold isB
  exact Nat.testBit_eq_decide_div_mod_eq ..
theorem f103_s {n : Nat} (h : R8 B w r vb vn vo vs X) (ok : Ok8 X N) (hn : n < 160) (kk : Q (.bool (decide (n = 0) || isB (U0 (n0 X)) n)) w) : f103 (pv r) (.int .i64 (n : Int)) w Q := by
  unfold f103
  by_cases c : n = 0
  · subst c
    have z : ((0 : Nat) : Int) = 0 := rfl
    rw [decide_eq_true rfl, Bool.true_or] at kk
    try simp only [↓reduceIte, ↓LL, LM, Value.cells, Nat.reduceAdd, Option.some.injEq, exists_eq_left', decide_true, decide_false, if_true, if_false, reduceCtorEq, cond_true, cond_false, z]
    exact kk
  · have z : ¬ (n : Int) = 0 := by omega
    have c1 := h.c1
    obtain ⟨e0, s0⟩ := ok.n0
    have len := ok.len
    have l1 := ok.l1
    obtain ⟨g, hg, hc, hia⟩ := h.at (i := 0) (by omega)
    have hia0 : ∀ (k : IntKind) (K : Value → M) (w' : World) (Q : Value → World → Prop), ia 1 vn (.int k 0) K w' Q = K (.pointer (some ⟨g, 0, none⟩)) w' Q := hia
    have hc' : w.cell? ⟨g, 0, none⟩ = some (.string (n0 X)) := hc
    have d1 := div8 (n := n) (by omega)
    have d2 := mod8 n
    have z8 : ¬ (8 : Int) = 0 := by decide
    have z2 : ¬ (2 : Int) = 0 := by decide
    obtain ⟨b, hb1, hb2, _⟩ := byte_U0 s0 hn
    have ix : ∀ (K : Value → M) (w : World) (Q : Value → World → Prop), ixs (.string (n0 X)) (.int .i64 ((n / 8 : Nat) : Int)) K w Q = K (.int .u8 ((bytN (U0 (n0 X)) n : Nat) : Int)) w Q := fun K w Q => by
      rw [ixs_e, Int.toNat_natCast]
      apply propext
      constructor
      · rintro ⟨_, c, hc, hk⟩
        rw [hb1] at hc
        cases hc
        rw [← hb2]; exact hk
      · intro hk
        exact ⟨by omega, b, hb1, by rw [hb2]; exact hk⟩
    have wu : IntKind.u64.wrap ((n % 8 : Nat) : Int) = ((n % 8 : Nat) : Int) := wu64 (by omega) (by omega)
    have sr : ∀ (K : Value → M) (w : World) (Q : Value → World → Prop), shr .u8 .u64 (.int .u8 ((bytN (U0 (n0 X)) n : Nat) : Int)) (.int .u64 ((n % 8 : Nat) : Int)) K w Q = K (.int .u8 ((bytN (U0 (n0 X)) n / 2 ^ (n % 8) : Nat) : Int)) w Q := fun K w Q => shr8 (Nat.mod_lt _ (by decide))
    have e2 : (((bytN (U0 (n0 X)) n / 2 ^ (n % 8) : Nat) : Int)).tmod 2 = ((bytN (U0 (n0 X)) n / 2 ^ (n % 8) % 2 : Nat) : Int) := (Int.ofNat_tmod _ 2).symm
    rw [decide_eq_false c, Bool.false_or, isB_div] at kk
    by_cases ce : bytN (U0 (n0 X)) n / 2 ^ (n % 8) % 2 = 1
    · have ce' : ((bytN (U0 (n0 X)) n / 2 ^ (n % 8) % 2 : Nat) : Int) = 1 := by rw [ce]; rfl
      rw [decide_eq_true ce] at kk
      try simp only [↓reduceIte, ↓LL, LM, Value.cells, Nat.reduceAdd, Option.some.injEq, exists_eq_left', decide_true, decide_false, if_true, if_false, reduceCtorEq, cond_true, cond_false, ne_eq, z, c1, hia0, hc', z8, z2, true_and, d1, d2, ix, wu, sr, e2, ce']
      exact kk
    · have ce' : ¬ ((bytN (U0 (n0 X)) n / 2 ^ (n % 8) % 2 : Nat) : Int) = 1 := by omega
      rw [decide_eq_false ce] at kk
      try simp only [↓reduceIte, ↓LL, LM, Value.cells, Nat.reduceAdd, Option.some.injEq, exists_eq_left', decide_true, decide_false, if_true, if_false, reduceCtorEq, cond_true, cond_false, ne_eq, z, c1, hia0, hc', z8, z2, true_and, d1, d2, ix, wu, sr, e2, ce']
      exact kk
/-- a text's bytes as a row of the call's own (marked as a conversion's) -/
theorem cvo {src dst e : TypeId} {z : Value} {n b : Nat} {s : ByteArray} {P : Program} (hs : isStr P src = true) (h : slT P dst e z n b) (he : P.underlying e = some (.int .u8))
    (k : ∀ w' cs c, w'.heap[w.heap.size]? = some (.cells cs e (cs.size, cs.size + 1)) → s.size ≤ cs.size → cs.toList.take s.size = (byL s).map (.int .u8) → Below w.heap.size w w' → K (.slice (some ⟨w.heap.size, 0, none⟩) s.size c) w' Q) : sm P (convert src dst (.string s)) K w Q := by
  obtain ⟨i, h1, _⟩ := slT_info h
  unfold isStr at hs
  cases hu : P.underlying src with
  | none => simp [hu] at hs
  | some u =>
    have hl : (Go.Lib.bytesCells w e s).size = s.size + (grownCap w s.size 0 e - s.size) := by unfold Go.Lib.bytesCells; simp
    refine ⟨_, _, Go.Lib.run_convert_string_bytes w src dst e s hu h1 he, k _ _ _ (Go.Lib.bytesWorld_at_new w e s) (by omega) ?_ (Below_bytes e s (Below.refl _ w) (Nat.le_refl _))⟩
    unfold Go.Lib.bytesCells
    rw [Array.toList_append, List.take_left' (by simp)]
    unfold byL
    simp [Function.comp_def]
theorem st_boxF {b o lo hi : Nat} {c : Array Value} {t : TypeId} {v : Value} (h : w.heap[b]? = some (.cells c t (lo, hi))) (hf : o < lo) (ho : o < c.size) (hv : v.oneCell' = true)
    (k : ∀ w', w'.heap[b]? = some (.cells (c.setIfInBounds o v) t (lo, hi)) → Upd b w w' → K0 w' Q) : st (.pointer (some ⟨b, o, none⟩)) v K0 w Q := by
  rw [st_e]
  have hz : w.frozen? ⟨b, o, none⟩ = false := by
    simp [World.frozen?, h]
    intro hx
    omega
  refine ⟨by rw [cell_of_blk h]; simp [ho], hz, hv, k _ (blk_setCell h) ?_⟩
  exact ⟨rfl, rfl, rfl, size_setCell, fun k hk => blk_setCell_ne hk⟩
theorem f124_s {n : Nat} (h : R8 B w r vb vn vo vs X) (ok : Ok8 X N) (hn : n < 160) (kk : ∀ w', R8 B w' r vb vn vo vs { X with now := X.now.set 0 (trnS (n0 X) n) } → ChgS (fun k => vn.ownBlock = some k) w w' → Q (.tuple #[]) w') : f124 (pv r) (.int .i64 (n : Int)) w Q := by
  unfold f124
  have c1 := h.c1
  obtain ⟨e0, s0⟩ := ok.n0
  have len := ok.len
  have l1 := ok.l1
  obtain ⟨g, hg, hc, hia⟩ := h.at (i := 0) (by omega)
  have hia0 : ∀ (k : IntKind) (K : Value → M) (w' : World) (Q : Value → World → Prop), ia 1 vn (.int k 0) K w' Q = K (.pointer (some ⟨g, 0, none⟩)) w' Q := hia
  have hc' : w.cell? ⟨g, 0, none⟩ = some (.string (n0 X)) := hc
  have d1 := div8 (n := n) (by omega)
  have d2 := mod8 n
  have z8 : ¬ (8 : Int) = 0 := by decide
  have wu : IntKind.u64.wrap ((n % 8 : Nat) : Int) = ((n % 8 : Nat) : Int) := wu64 (by omega) (by omega)
  obtain ⟨b, hb1, hb2, hb3⟩ := byte_U0 s0 hn
  have hU := U0_ok s0
  try simp only [↓reduceIte, ↓LL, LM, Value.cells, Nat.reduceAdd, Option.some.injEq, exists_eq_left', decide_true, decide_false, if_true, if_false, reduceCtorEq, cond_true, cond_false, c1, hia0, hc']
  refine cvo str9 sl61 ud5 fun w2 cs cap k2 hs2 ht2 b2 => ?_
  have ia2 : ∀ (K : Value → M) (w' : World) (Q : Value → World → Prop), ia 1 (.slice (some ⟨w.heap.size, 0, none⟩) (n0 X).size cap) (.int .i64 ((n / 8 : Nat) : Int)) K w' Q = K (.pointer (some ⟨w.heap.size, n / 8, none⟩)) w' Q := fun K w' Q => ia_at (by rw [s0]; omega)
  have hlt : n / 8 < (n0 X).size := by rw [s0]; omega
  have cb : w2.cell? ⟨w.heap.size, n / 8, none⟩ = some (.int .u8 ((bytN (U0 (n0 X)) n : Nat) : Int)) := by
    rw [cell_of_blk k2]
    show cs[n / 8]? = _
    have : (cs.toList.take (n0 X).size)[n / 8]? = some (.int .u8 ((bytN (U0 (n0 X)) n : Nat) : Int)) := by rw [ht2, List.getElem?_map, hb3]; rfl
    rw [List.getElem?_take_of_lt hlt] at this
    simpa using this
  have sl : ∀ (K : Value → M) (w : World) (Q : Value → World → Prop), shl .u8 .u64 (.int .u8 1) (.int .u64 ((n % 8 : Nat) : Int)) K w Q = K (.int .u8 ((2 ^ (n % 8) : Nat) : Int)) w Q := fun K w Q => shl8u (Nat.mod_lt _ (by decide))
  have x8 : ∀ (K : Value → M) (w : World) (Q : Value → World → Prop), bws .xor .u8 (.int .u8 ((bytN (U0 (n0 X)) n : Nat) : Int)) (.int .u8 ((2 ^ (n % 8) : Nat) : Int)) K w Q = K (.int .u8 ((bytN (U0 (n0 X)) n ^^^ 2 ^ (n % 8) : Nat) : Int)) w Q := fun K w Q => xor8 (bytN_lt hU n) (pow_lt8 (Nat.mod_lt _ (by decide)))
  try simp only [↓reduceIte, ↓LL, LM, Value.cells, Nat.reduceAdd, Option.some.injEq, exists_eq_left', decide_true, decide_false, if_true, if_false, reduceCtorEq, cond_true, cond_false, ne_eq, z8, true_and, d1, d2, ia2, cb, wu, sl, x8]
  refine st_boxF k2 (by omega) (by omega) rfl fun w3 k3 u3 => ?_
  have h2 := h.below b2
  have b3 : Below w.heap.size w w3 := b2.trans (u3.below (Nat.le_refl _))
  have h3 := (h.below b3).drw
  have c13 : (drw w3).cell? ⟨r, 1, none⟩ = some vn := h3.c1
  have c13' : w3.cell? ⟨r, 1, none⟩ = some vn := h3.c1
  have hrd : rdI .u8 (drw w3) (.slice (some ⟨w.heap.size, 0, none⟩) (n0 X).size cap) ((byL (n0 X)).set (n / 8) ((bytN (U0 (n0 X)) n ^^^ 2 ^ (n % 8) : Nat) : Int)) := by
    refine ⟨some ⟨w.heap.size, 0, none⟩, cap, by rw [List.length_set, byL_len], fun i hi => ⟨_, rfl, ?_⟩⟩
    rw [List.length_set, byL_len] at hi
    rw [add_lit, Nat.zero_add]
    show w3.cell? _ = _
    rw [cell_of_blk k3]
    show (cs.setIfInBounds (n / 8) _)[i]? = _
    have hsize : i < cs.size := by omega
    have ei : cs.toList[i]? = some (Value.int .u8 ((byL (n0 X))[i]'(by rw [byL_len]; exact hi))) := by
      have : (cs.toList.take (n0 X).size)[i]? = some (Value.int .u8 ((byL (n0 X))[i]'(by rw [byL_len]; exact hi))) := by rw [ht2, List.getElem?_map, List.getElem?_eq_getElem (by rw [byL_len]; exact hi)]; rfl
      rwa [List.getElem?_take_of_lt hi] at this
    rw [List.getElem_set]
    by_cases ce : n / 8 = i
    · subst ce
      rw [if_pos rfl, Array.getElem?_setIfInBounds_self_of_lt hsize]
    · rw [if_neg ce, Array.getElem?_setIfInBounds_ne ce, ← Array.getElem?_toList]
      exact ei
  try simp only [↓reduceIte, ↓LL, LM, Value.cells, Nat.reduceAdd, Option.some.injEq, exists_eq_left', decide_true, decide_false, if_true, if_false, reduceCtorEq, cond_true, cond_false, c13, c13']
  refine cvb sl61 ud5 str9 hrd ?_
  rw [son_trn s0 hn]
  try simp only [↓reduceIte, ↓LL, LM, Value.cells, Nat.reduceAdd, Option.some.injEq, exists_eq_left', decide_true, decide_false, if_true, if_false, reduceCtorEq, cond_true, cond_false, hia0]
  refine h3.put (by omega) hg fun w4 h4 hc4 => ?_
  try simp only [↓reduceIte, ↓LL, LM, Value.cells, Nat.reduceAdd, Option.some.injEq, exists_eq_left', decide_true, decide_false, if_true, if_false, reduceCtorEq, cond_true, cond_false]
  exact kk w4 h4 (((ChgS.of_below b3).drw).trans hc4 fun _ _ h => h)
theorem f123_s {n : Int} (h : R8 B w r vb vn vo vs X) (ok : Ok8 X N) (kk : Q (.bool (decide (0 < n ∧ n < (X.now.length : Int) ∧ isB (U0 (n0 X)) n.toNat = true))) w) : f123 (pv r) (.int .i64 n) w Q := by
  unfold f123
  have c1 := h.c1
  have lv := h.lnl
  have len := ok.len
  have l2 := ok.l2
  by_cases g1 : 0 < n
  · have g1' : n > 0 := g1
    by_cases g2 : n < ((X.now.length : Nat) : Int)
    · obtain ⟨n, rfl⟩ := Int.eq_ofNat_of_zero_le (show 0 ≤ n by omega)
      rw [Int.toNat_natCast] at kk
      try simp only [↓reduceIte, ↓LL, LM, Value.cells, Nat.reduceAdd, Option.some.injEq, exists_eq_left', decide_true, decide_false, if_true, if_false, reduceCtorEq, cond_true, cond_false, g1, g1', c1, lv, g2]
      refine f103_s h ok (by omega) ?_
      rw [decide_eq_false (show ¬ n = 0 by omega), Bool.false_or]
      cases hb : isB (U0 (n0 X)) n with
      | true =>
        rw [hb, decide_eq_true ⟨g1, g2, rfl⟩] at kk
        try simp only [↓reduceIte, ↓LL, LM, Value.cells, Nat.reduceAdd, Option.some.injEq, exists_eq_left', decide_true, decide_false, if_true, if_false, reduceCtorEq, cond_true, cond_false]
        exact kk
      | false =>
        rw [hb, decide_eq_false (by rintro ⟨_, _, h⟩; cases h)] at kk
        try simp only [↓reduceIte, ↓LL, LM, Value.cells, Nat.reduceAdd, Option.some.injEq, exists_eq_left', decide_true, decide_false, if_true, if_false, reduceCtorEq, cond_true, cond_false]
        exact kk
    · rw [decide_eq_false (fun h => g2 h.2.1)] at kk
      try simp only [↓reduceIte, ↓LL, LM, Value.cells, Nat.reduceAdd, Option.some.injEq, exists_eq_left', decide_true, decide_false, if_true, if_false, reduceCtorEq, cond_true, cond_false, g1, g1', c1, lv, g2]
      exact kk
  · have g1' : ¬ n > 0 := g1
    rw [decide_eq_false (fun h => g1 h.1)] at kk
    try simp only [↓reduceIte, ↓LL, LM, Value.cells, Nat.reduceAdd, Option.some.injEq, exists_eq_left', decide_true, decide_false, if_true, if_false, reduceCtorEq, cond_true, cond_false, g1, g1']
    exact kk
theorem thr8_f {n : Int} (ho : X.ov = false) : thr8 X n = if 0 < n ∧ n < (X.now.length : Int) ∧ isB (U0 (n0 X)) n.toNat = true then 0 else 7 := by unfold thr8 thrB; rw [ho, if_neg (by decide)]
theorem thr8_t {n : Int} (ho : X.ov = true) : thr8 X n = 13 := by unfold thr8 thrB; rw [ho, if_pos rfl]
theorem f94_s {n : Int} (h : R8 B w r vb vn vo vs X) (ok : Ok8 X N) (kk : Q (.tuple #[.string (rd8 X n).1, .int .i64 (rd8 X n).2]) w) : f94 (pv r) (.int .i64 n) w Q := by
  unfold f94
  have c3 := h.c3
  unfold rd8 at kk
  cases ho : X.ov with
  | true =>
    rw [thr8_t ho, if_pos (by decide)] at kk
    rw [ho] at c3
    try simp only [↓reduceIte, ↓LL, LM, Value.cells, Nat.reduceAdd, Option.some.injEq, exists_eq_left', decide_true, decide_false, if_true, if_false, reduceCtorEq, cond_true, cond_false, c3]
    exact kk
  | false =>
    rw [ho] at c3
    try simp only [↓reduceIte, ↓LL, LM, Value.cells, Nat.reduceAdd, Option.some.injEq, exists_eq_left', decide_true, decide_false, if_true, if_false, reduceCtorEq, cond_true, cond_false, c3]
    refine f123_s h ok ?_
    rw [thr8_f ho] at kk
    by_cases c : 0 < n ∧ n < (X.now.length : Int) ∧ isB (U0 (n0 X)) n.toNat = true
    · rw [if_pos c, if_neg (by decide)] at kk
      rw [decide_eq_true c]
      have c1 := h.c1
      obtain ⟨n, rfl⟩ := Int.eq_ofNat_of_zero_le (show 0 ≤ n by omega)
      rw [Int.toNat_natCast] at kk
      obtain ⟨g, hg, hc, hia⟩ := h.at (i := n) (by omega)
      try simp only [↓reduceIte, ↓LL, LM, Value.cells, Nat.reduceAdd, Option.some.injEq, exists_eq_left', decide_true, decide_false, if_true, if_false, reduceCtorEq, cond_true, cond_false, c1, hia, hc]
      exact kk
    · rw [if_neg c, if_pos (by decide)] at kk
      rw [decide_eq_false c]
      try simp only [↓reduceIte, ↓LL, LM, Value.cells, Nat.reduceAdd, Option.some.injEq, exists_eq_left', decide_true, decide_false, if_true, if_false, reduceCtorEq, cond_true, cond_false]
      exact kk
theorem wrE_1 {n : Int} {s : ByteArray} (h : thr8 X n ≠ 0) : wrE X n s = thr8 X n := by unfold wrE; rw [if_pos h]
theorem wrE_2 {n : Int} {s : ByteArray} (h : thr8 X n = 0) (hs : s.size ≠ 256) : wrE X n s = 1 := by unfold wrE; rw [if_neg (fun k => k h), if_pos hs]
theorem wrE_0 {n : Int} {s : ByteArray} (h : thr8 X n = 0) (hs : s.size = 256) : wrE X n s = 0 := by unfold wrE; rw [if_neg (fun k => k h), if_neg (fun k => k hs)]
theorem wrX_1 {n : Int} {s : ByteArray} (h : wrE X n s ≠ 0) : wrX X n s = X := by unfold wrX; rw [if_neg h]
theorem wrX_0 {n : Int} {s : ByteArray} (h : wrE X n s = 0) : wrX X n s = { X with now := X.now.set n.toNat s } := by unfold wrX; rw [if_pos h]
theorem drX_1 {n : Int} (h : thr8 X n ≠ 0) : drX X n = X := by unfold drX; rw [if_neg h]
theorem drX_0 {n : Int} (h : thr8 X n = 0) : drX X n = { X with now := X.now.set 0 (trnS (n0 X) n.toNat) } := by unfold drX; rw [if_pos h]
theorem shE_13 {s : ByteArray} (h : X.ov = true) : shE X s = 13 := by unfold shE; rw [if_pos h]
theorem shE_3 {s : ByteArray} (h : X.ov = false) (hs : 236 < s.size) : shE X s = 3 := by unfold shE; rw [if_neg (by rw [h]; intro h; cases h), if_pos hs]
theorem shE_0 {s : ByteArray} (h : X.ov = false) (hs : s.size ≤ 236) : shE X s = 0 := by unfold shE; rw [if_neg (by rw [h]; intro h; cases h), if_neg (by omega)]
theorem shX_1 {s : ByteArray} (h : shE X s ≠ 0) : shX X s = X := by unfold shX; rw [if_neg h]
theorem shX_0 {s : ByteArray} (h : shE X s = 0) : shX X s = { X with now := X.now.set 0 ((n0 X).extract 0 20 ++ s ++ zs (236 - s.size)) } := by unfold shX; rw [if_pos h]
theorem wrX_ok {n : Int} {s : ByteArray} (ok : Ok8 X N) : Ok8 (wrX X n s) N := by
  unfold wrX
  split
  · rename_i he
    refine ok.set ?_
    unfold wrE at he
    split at he
    · rename_i hne; exact absurd he hne
    · split at he
      · cases he
      · rename_i hs; exact Classical.byContradiction fun hc => hs hc
  · exact ok
theorem f96_s {n : Int} {s : ByteArray} (h : R8 B w r vb vn vo vs X) (ok : Ok8 X N) (kk : ∀ w', R8 B w' r vb vn vo vs (wrX X n s) → ChgS (fun k => vn.ownBlock = some k) w w' → Q (.int .i64 (wrE X n s)) w') : f96 (pv r) (.int .i64 n) (.string s) w Q := by
  unfold f96
  have c3 := h.c3
  cases ho : X.ov with
  | true =>
    have t1 := thr8_t (n := n) ho
    have e1 : wrE X n s = 13 := (wrE_1 (by rw [t1]; decide)).trans t1
    rw [e1, wrX_1 (by rw [e1]; decide)] at kk
    rw [ho] at c3
    try simp only [↓reduceIte, ↓LL, LM, Value.cells, Nat.reduceAdd, Option.some.injEq, exists_eq_left', decide_true, decide_false, if_true, if_false, reduceCtorEq, cond_true, cond_false, c3]
    exact kk w h (ChgS.refl _ _)
  | false =>
    rw [ho] at c3
    try simp only [↓reduceIte, ↓LL, LM, Value.cells, Nat.reduceAdd, Option.some.injEq, exists_eq_left', decide_true, decide_false, if_true, if_false, reduceCtorEq, cond_true, cond_false, c3]
    refine f123_s h ok ?_
    have tf := thr8_f (n := n) ho
    by_cases c : 0 < n ∧ n < (X.now.length : Int) ∧ isB (U0 (n0 X)) n.toNat = true
    · rw [if_pos c] at tf
      rw [decide_eq_true c]
      have c1 := h.c1
      obtain ⟨n, rfl⟩ := Int.eq_ofNat_of_zero_le (show 0 ≤ n by omega)
      obtain ⟨g, hg, hc, hia⟩ := h.at (i := n) (by omega)
      by_cases cs : s.size = 256
      · have cs' : ((s.size : Nat) : Int) = 256 := by omega
        have e1 := wrE_0 tf cs
        rw [e1, wrX_0 e1, Int.toNat_natCast] at kk
        try simp only [↓reduceIte, ↓LL, LM, Value.cells, Nat.reduceAdd, Option.some.injEq, exists_eq_left', decide_true, decide_false, if_true, if_false, reduceCtorEq, cond_true, cond_false, ne_eq, cs', c1, hia]
        refine h.put (by omega) hg fun w2 h2 hc2 => ?_
        try simp only [↓reduceIte, ↓LL, LM, Value.cells, Nat.reduceAdd, Option.some.injEq, exists_eq_left', decide_true, decide_false, if_true, if_false, reduceCtorEq, cond_true, cond_false]
        exact kk w2 h2 hc2
      · have cs' : ¬ ((s.size : Nat) : Int) = 256 := by omega
        have e1 := wrE_2 tf cs
        rw [e1, wrX_1 (by rw [e1]; decide)] at kk
        try simp only [↓reduceIte, ↓LL, LM, Value.cells, Nat.reduceAdd, Option.some.injEq, exists_eq_left', decide_true, decide_false, if_true, if_false, reduceCtorEq, cond_true, cond_false, ne_eq, cs']
        exact kk w h (ChgS.refl _ _)
    · rw [if_neg c] at tf
      have e1 : wrE X n s = 7 := (wrE_1 (by rw [tf]; decide)).trans tf
      rw [e1, wrX_1 (by rw [e1]; decide)] at kk
      rw [decide_eq_false c]
      try simp only [↓reduceIte, ↓LL, LM, Value.cells, Nat.reduceAdd, Option.some.injEq, exists_eq_left', decide_true, decide_false, if_true, if_false, reduceCtorEq, cond_true, cond_false]
      exact kk w h (ChgS.refl _ _)
theorem drX_ok {n : Int} (ok : Ok8 X N) : Ok8 (drX X n) N := by
  unfold drX
  split
  · exact ok.set (trnS_size ok.n0.2 _)
  · exact ok
theorem f98_s {n : Int} (h : R8 B w r vb vn vo vs X) (ok : Ok8 X N) (kk : ∀ w', R8 B w' r vb vn vo vs (drX X n) → ChgS (fun k => vn.ownBlock = some k) w w' → Q (.int .i64 (thr8 X n)) w') : f98 (pv r) (.int .i64 n) w Q := by
  unfold f98
  have c3 := h.c3
  have len := ok.len
  have l2 := ok.l2
  cases ho : X.ov with
  | true =>
    have t1 := thr8_t (n := n) ho
    rw [drX_1 (by rw [t1]; decide), t1] at kk
    rw [ho] at c3
    try simp only [↓reduceIte, ↓LL, LM, Value.cells, Nat.reduceAdd, Option.some.injEq, exists_eq_left', decide_true, decide_false, if_true, if_false, reduceCtorEq, cond_true, cond_false, c3]
    exact kk w h (ChgS.refl _ _)
  | false =>
    rw [ho] at c3
    try simp only [↓reduceIte, ↓LL, LM, Value.cells, Nat.reduceAdd, Option.some.injEq, exists_eq_left', decide_true, decide_false, if_true, if_false, reduceCtorEq, cond_true, cond_false, c3]
    refine f123_s h ok ?_
    have tf := thr8_f (n := n) ho
    by_cases c : 0 < n ∧ n < (X.now.length : Int) ∧ isB (U0 (n0 X)) n.toNat = true
    · rw [if_pos c] at tf
      rw [drX_0 tf, tf] at kk
      rw [decide_eq_true c]
      obtain ⟨n, rfl⟩ := Int.eq_ofNat_of_zero_le (show 0 ≤ n by omega)
      rw [Int.toNat_natCast] at kk
      try simp only [↓reduceIte, ↓LL, LM, Value.cells, Nat.reduceAdd, Option.some.injEq, exists_eq_left', decide_true, decide_false, if_true, if_false, reduceCtorEq, cond_true, cond_false]
      refine f124_s h ok (by omega) fun w2 h2 hc2 => ?_
      try simp only [↓reduceIte, ↓LL, LM, Value.cells, Nat.reduceAdd, Option.some.injEq, exists_eq_left', decide_true, decide_false, if_true, if_false, reduceCtorEq, cond_true, cond_false]
      exact kk w2 h2 hc2
    · rw [if_neg c] at tf
      rw [drX_1 (by rw [tf]; decide), tf] at kk
      rw [decide_eq_false c]
      try simp only [↓reduceIte, ↓LL, LM, Value.cells, Nat.reduceAdd, Option.some.injEq, exists_eq_left', decide_true, decide_false, if_true, if_false, reduceCtorEq, cond_true, cond_false]
      exact kk w h (ChgS.refl _ _)
theorem shX_ok {s : ByteArray} (ok : Ok8 X N) : Ok8 (shX X s) N := by
  unfold shX
  split
  · rename_i he
    refine ok.set ?_
    have hs : s.size ≤ 236 := by
      unfold shE at he
      split at he
      · cases he
      · split at he
        · cases he
        · omega
    have h0 := ok.n0.2
    rw [ByteArray.size_append, ByteArray.size_append, ByteArray.size_extract, zs_size]
    omega
  · exact ok
theorem f99_s {s : ByteArray} (h : R8 B w r vb vn vo vs X) (ok : Ok8 X N) (kk : ∀ w', R8 B w' r vb vn vo vs (shX X s) → ChgS (fun k => vn.ownBlock = some k) w w' → Q (.int .i64 (shE X s)) w') : f99 (pv r) (.string s) w Q := by
  unfold f99
  have c3 := h.c3
  have len := ok.len
  have l1 := ok.l1
  cases ho : X.ov with
  | true =>
    rw [ho] at c3
    rw [shX_1 (by rw [shE_13 ho]; decide), shE_13 ho] at kk
    try simp only [↓reduceIte, ↓LL, LM, Value.cells, Nat.reduceAdd, Option.some.injEq, exists_eq_left', decide_true, decide_false, if_true, if_false, reduceCtorEq, cond_true, cond_false, c3]
    exact kk w h (ChgS.refl _ _)
  | false =>
    rw [ho] at c3
    by_cases c : 236 < s.size
    · have g1 : ((s.size : Nat) : Int) > 236 := by omega
      have g2 : (236 : Int) < ((s.size : Nat) : Int) := by omega
      rw [shX_1 (by rw [shE_3 ho c]; decide), shE_3 ho c] at kk
      try simp only [↓reduceIte, ↓LL, LM, Value.cells, Nat.reduceAdd, Option.some.injEq, exists_eq_left', decide_true, decide_false, if_true, if_false, reduceCtorEq, cond_true, cond_false, c3, g1, g2]
      exact kk w h (ChgS.refl _ _)
    · have g1 : ¬ ((s.size : Nat) : Int) > 236 := by omega
      have g2 : ¬ (236 : Int) < ((s.size : Nat) : Int) := by omega
      have e0 := shE_0 (s := s) ho (by omega)
      rw [shX_0 e0, e0] at kk
      have h1 := h.drw
      have c1 : (drw w).cell? ⟨r, 1, none⟩ = some vn := h1.c1
      have c1' : w.cell? ⟨r, 1, none⟩ = some vn := h.c1
      obtain ⟨g, hg, hc, hia⟩ := h.at (i := 0) (by omega)
      have hia0 : ∀ (k : IntKind) (K : Value → M) (w' : World) (Q : Value → World → Prop), ia 1 vn (.int k 0) K w' Q = K (.pointer (some ⟨g, 0, none⟩)) w' Q := hia
      have hc' : w.cell? ⟨g, 0, none⟩ = some (.string (n0 X)) := hc
      have hc'' : (drw w).cell? ⟨g, 0, none⟩ = some (.string (n0 X)) := hc
      have s0 := ok.n0.2
      have ew : IntKind.i64.wrap (236 - ((s.size : Nat) : Int)) = ((236 - s.size : Nat) : Int) := by rw [w64 (by omega) (by omega)]; omega
      try simp only [↓reduceIte, ↓LL, LM, Value.cells, Nat.reduceAdd, Option.some.injEq, exists_eq_left', decide_true, decide_false, if_true, if_false, reduceCtorEq, cond_true, cond_false, c3, g1, g2, c1, c1', hia0, hc', hc'']
      refine sls_to (k := 20) (by omega) ?_
      have z1 : ((n0 X).extract 0 20).size + s.size ≤ 9223372036854775807 := by rw [ByteArray.size_extract]; omega
      try simp only [↓reduceIte, ↓LL, LM, Value.cells, Nat.reduceAdd, Option.some.injEq, exists_eq_left', decide_true, decide_false, if_true, if_false, reduceCtorEq, cond_true, cond_false, cat_e]
      refine ⟨z1, ?_⟩
      try simp only [↓reduceIte, ↓LL, LM, Value.cells, Nat.reduceAdd, Option.some.injEq, exists_eq_left', decide_true, decide_false, if_true, if_false, reduceCtorEq, cond_true, cond_false, ew]
      refine f88_s fun w2 b2 => ?_
      have h2 := h1.below b2
      refine ⟨by rw [Kld_e]; exact cell_below b2 hc'', ?_⟩
      refine ⟨by rw [Kld_e]; exact cell_below b2 c1, ?_⟩
      refine ⟨by rw [Kld_e]; exact cell_below b2 c1, ?_⟩
      refine sls_to (k := 236 - s.size) (by rw [zs_size]; omega) ?_
      have ez : (zs 256).extract 0 (236 - s.size) = zs (236 - s.size) := by
        apply byL_inj
        rw [byL_take, byL_zs, byL_zs, List.drop_zero, List.take_replicate]
        congr 1
        omega
      rw [ez]
      have z2 : ((n0 X).extract 0 20 ++ s).size + (zs (236 - s.size)).size ≤ 9223372036854775807 := by rw [ByteArray.size_append, ByteArray.size_extract, zs_size]; omega
      try simp only [↓reduceIte, ↓LL, LM, Value.cells, Nat.reduceAdd, Option.some.injEq, exists_eq_left', decide_true, decide_false, if_true, if_false, reduceCtorEq, cond_true, cond_false, cat_e]
      refine ⟨z2, ?_⟩
      try simp only [↓reduceIte, ↓LL, LM, Value.cells, Nat.reduceAdd, Option.some.injEq, exists_eq_left', decide_true, decide_false, if_true, if_false, reduceCtorEq, cond_true, cond_false, hia0]
      refine h2.put (by omega) hg fun w3 h3 hc3 => ?_
      try simp only [↓reduceIte, ↓LL, LM, Value.cells, Nat.reduceAdd, Option.some.injEq, exists_eq_left', decide_true, decide_false, if_true, if_false, reduceCtorEq, cond_true, cond_false]
      exact kk w3 h3 ((ChgS.of_below (of_drw' b2)).trans hc3 fun _ _ h => h)
end
end Go.Proofs.YtongpnolikkknaaGreatDoor

set_option maxRecDepth 20000
set_option maxHeartbeats 4000000
namespace Go.Proofs.YtongpnolikkknaaGreatDoor
open Sh RowKit Go.MapKept
theorem slN8 : slT Tryz.prog 149 100 (.slice none 0 0) 1 24 := ⟨by kernel_rfl, by kernel_rfl⟩
def svE (X : P8) : Int := if X.ov = true then 0 else (X.nts.length : Nat)
def svX (X : P8) : P8 := if X.ov = true then X else { X with nts := X.nts ++ [X.now] }
def bkE (X : P8) (k : Int) : Int := if X.ov = true then 13 else if k < 0 ∨ (X.nts.length : Int) ≤ k then 7 else 0
def bkX (X : P8) (k : Int) : P8 := if bkE X k = 0 then { X with now := X.nts.getD k.toNat [], nts := X.nts.take (k.toNat + 1) } else X
def us8 (X : P8) : Nat := if X.ov = true then 0 else 1 + cntB (U0 (n0 X)) X.now.length
def chP (X : P8) (j : Nat) : Bool := (decide (j = 0) || isB (U0 (n0 X)) j) && decide (X.now.getD j ⟨#[]⟩ ≠ X.base.getD j ⟨#[]⟩)
def chL (X : P8) (i : Nat) : List Nat := (List.range i).filter (chP X)
def ch8 (X : P8) : List Nat := if X.ov = true then [] else chL X X.now.length
def cmE8 (X : P8) : Int := if X.ov = true then 13 else if 31 < (ch8 X).length then 3 else 0
def cmX (X : P8) : P8 := if cmE8 X = 0 then { X with ov := true } else X
def stD (X : P8) (L : List ByteArray) (l : List Nat) : List ByteArray := l.foldl (fun L j => L.set j (X.now.getD j ⟨#[]⟩)) L
def cmL (X : P8) (L : List ByteArray) : List ByteArray := if cmE8 X = 0 then stD X L (ch8 X) else L
theorem stD_len (X : P8) (l : List Nat) : ∀ L : List ByteArray, (stD X L l).length = L.length := by
  induction l with
  | nil => intro L; rfl
  | cons a l ih => intro L; show (stD X (L.set a _) l).length = _; rw [ih, List.length_set]
theorem stD_snoc (X : P8) (L : List ByteArray) (l : List Nat) (a : Nat) : stD X L (l ++ [a]) = (stD X L l).set a (X.now.getD a ⟨#[]⟩) := by unfold stD; rw [List.foldl_append]; rfl
theorem stD_setL (X : P8) (l : List Nat) : ∀ L : List ByteArray, stD X L l = setL L (l.map fun (j : Nat) => ((j : Int), X.now.getD j ⟨#[]⟩)) := by
  induction l with
  | nil => intro L; rfl
  | cons a l ih => intro L; exact ih _
theorem chL_succ (X : P8) (i : Nat) : chL X (i + 1) = if chP X i = true then chL X i ++ [i] else chL X i := by
  unfold chL
  rw [List.range_succ, List.filter_append]
  by_cases h : chP X i = true
  · rw [if_pos h, List.filter_cons_of_pos h]; rfl
  · rw [if_neg h, List.filter_cons_of_neg h]; simp
theorem chL_le (X : P8) (i : Nat) : (chL X i).length ≤ i := by
  have := List.length_filter_le (chP X) (List.range i)
  rw [List.length_range] at this
  exact this
theorem chL_lt (X : P8) (i : Nat) : ∀ j ∈ chL X i, j < i := fun j hj => by
  have := (List.mem_filter.1 hj).1
  exact List.mem_range.1 this
section
variable {B : Nat} {W w w' : World} {r rp : Nat} {vb vn vo v u up : Value} {vs : List Value} {X : P8} {N : Nat} {Q : Value → World → Prop} {K : Value → M} {K0 : M} {xs : List Value} {L : List ByteArray}
theorem ap_Vk {F : World → Prop} {t e : TypeId} {z x : Value} {b : Nat} (ht : slT Tryz.prog t e z 1 b) (hz : z.cells.size = 1) (hx : x.oneCell' = true) (hxc : x.cells = #[x]) (hF : F (psh w (.cells #[x] e))) (h : ownV B e w v xs) (h63 : xs.length + 1 ≤ maxLen) (hbytes : (xs.length + 1) * b ≤ 140737488355328) (hB : B ≤ w.heap.size)
    (kk : ∀ w' v', ownV B e w' v' (xs ++ [x]) → ChgS (fun k => v.ownBlock = some k) w w' → (∀ g, v'.ownBlock = some g → v.ownBlock = some g ∨ w.heap.size ≤ g) → K v' w' Q) :
    sm Tryz.prog (Instr.buildSlice t 1 #[(0, x)]) (fun u => kp F (sm Tryz.prog (Builtin.append_ #[t, t] t #[v, u]) K)) w Q := by
  refine bsl1 ht hz hxc ?_
  refine ⟨hF, ?_⟩
  have h1 : (psh w (.cells #[x] e)).ownsRow B e 1 v xs.length xs := World.ownsRow.alloc h _
  obtain ⟨i, g1, g2, g3, g4, g5⟩ := slT_info ht
  obtain ⟨v', w', hr, ho, hg, _, hf⟩ := run_append_own_at (P := Tryz.prog) (psh w (.cells #[x] e)) B t t e i z 1 b g1 g2 g3 g4 g5 hz (by decide) v xs.length xs h1 ⟨w.heap.size, 0, none⟩ 1 1 [x] rfl (by
    intro j u hj
    cases j with
    | zero => simp at hj; subst hj; rw [add_lit, cell_psh_new]; rfl
    | succ j => simp at hj) (by intro u hu; simp at hu; subst hu; exact hx) h63 hbytes (by rw [size_psh]; omega)
  refine ⟨v', w', hr, kk w' v' ?_ ⟨hg.os, hg.tape, hg.output, by have := hg.size; rw [size_psh] at this; omega, fun k hk hne => ?_⟩ ?_⟩
  · unfold ownV; rw [List.length_append]; exact ho
  · rw [hg.block k (by rw [size_psh]; omega) (fun e => hne e.symm), blk_psh_old hk]
  · intro g hgv
    rcases hf with hf | hf
    · left; rw [← hf]; exact hgv
    · right
      rw [hf, size_psh] at hgv
      cases hgv; omega
/-- a row of texts copied -/
theorem cpS {l : List ByteArray} (h : ownV B 9 w v (l.map .string)) (hl : l.length ≤ 1000000) (kk : ∀ v' w', ownV w.heap.size 9 w' v' (l.map .string) → Below w.heap.size w w' → K v' w' Q) : sm Tryz.prog (Builtin.append_ #[100, 100] 100 #[.slice none 0 0, v]) K w Q := by
  refine ap_E (B := w.heap.size) (l := []) slS rfl (by decide) encT_len (fun x => encT_one x) ownE_nil (ownE_rd encT_len (by decide) (ownV_T h)) (by rw [List.length_nil, Nat.zero_add]; unfold maxLen; omega) (by rw [List.length_nil, Nat.zero_add]; omega) (Nat.le_refl _) fun v2 w2 o2 g2 _ => ?_
  rw [List.nil_append] at o2
  exact kk v2 w2 (ownT_V o2) (Below_nil g2)
theorem sll_ownV {e : TypeId} {i : Nat} {j : IntKind} (h : ownV B e w v xs) (hi : i ≤ xs.length) (kk : ∀ v', ownV B e w v' (xs.take i) → v'.ownBlock = v.ownBlock → K v' w Q) : sll 1 v none (some (.int j (i : Int))) K w Q := by
  rcases ownV_cases h with ⟨rfl, rfl⟩ | ⟨g, cap, cur, rfl, hg, hb, hn, hm, hs, ht⟩
  · have : i = 0 := by simpa using hi
    subst this
    refine ⟨none, 0, 0, 0, 0, rfl, ⟨_, _, rfl, by omega, by omega, by omega⟩, rfl, ?_⟩
    exact kk _ (by simpa using ownV_nil) rfl
  · refine ⟨some ⟨g, 0, none⟩, xs.length, cap, 0, i, rfl, ⟨_, _, rfl, by omega, by omega, by omega⟩, rfl, ?_⟩
    have ev : (if cap = 0 then some (⟨g, 0, none⟩ : Addr) else (some (⟨g, 0, none⟩ : Addr)).map (·.add (0 * 1))) = some ⟨g, 0, none⟩ := by split <;> simp [add_zero']
    rw [ev, Nat.sub_zero, Nat.sub_zero]
    refine kk _ ?_ rfl
    have := ownV_mk (xs := xs.take i) (cap := cap) hg hb (by rw [List.length_take]; omega) hm hs (by
      rw [List.length_take, Nat.min_eq_left hi]
      have : cur.toList.take i = (cur.toList.take xs.length).take i := by rw [List.take_take, Nat.min_eq_left hi]
      rw [this, ht])
    rw [List.length_take, Nat.min_eq_left hi] at this
    exact this
theorem ownV_fresh {e : TypeId} {B' : Nat} (h : ownV B e w v xs) (hB : ∀ g, v.ownBlock = some g → B' ≤ g) : ownV B' e w v xs := by
  rcases ownV_cases h with ⟨rfl, rfl⟩ | ⟨g, cap, cur, rfl, hg, hb, hn, hm, hs, ht⟩
  · exact ownV_nil
  · exact ownV_mk (hB g rfl) hb hn hm hs ht
theorem take8_loop (h : R8 B w r vb vn vo vs X) (ok : Ok8 X N)
    (k0 : ∀ n, Fre (U0 (n0 X)) N n → ∀ w', R8 B w' r vb vn vo vs (tkX X n) → ChgS (fun k => vn.ownBlock = some k) w w' → Q (.tuple #[.int .i64 ((n : Nat) : Int), .int .i64 0]) w')
    (k8 : (∀ j, 1 ≤ j → j < N → isB (U0 (n0 X)) j = true) → Q (.tuple #[.int .i64 0, .int .i64 8]) w) :
    ∀ (d m i : Nat), i + d = N → d < m → 1 ≤ i → (∀ j, 1 ≤ j → j < i → isB (U0 (n0 X)) j = true) → itr (fun _ _ => bot) (f97_b2 f97_j1) m (pv r) (.int .i64 ((i : Nat) : Int)) w Q := by
  have c1 := h.c1
  have lv := h.lnl
  have len := ok.len
  have l2 := ok.l2
  intro d
  induction d with
  | zero =>
    intro m i hi hm h1 hall
    obtain ⟨m, rfl⟩ : ∃ x, m = x + 1 := ⟨m - 1, by omega⟩
    show f97_b2 f97_j1 _ _ _ w Q
    unfold f97_b2
    have cc : ¬ (i : Int) < ((X.now.length : Nat) : Int) := by omega
    try simp only [↓reduceIte, ↓LL, LM, Value.cells, Nat.reduceAdd, Option.some.injEq, exists_eq_left', decide_true, decide_false, if_true, if_false, reduceCtorEq, cond_true, cond_false, c1, lv, cc]
    unfold f97_j1
    try simp only [↓reduceIte, ↓LL, LM, Value.cells, Nat.reduceAdd, Option.some.injEq, exists_eq_left', decide_true, decide_false, if_true, if_false, reduceCtorEq, cond_true, cond_false]
    exact k8 fun j hj hl => hall j hj (by omega)
  | succ d ih =>
    intro m i hi hm h1 hall
    obtain ⟨m, rfl⟩ : ∃ x, m = x + 1 := ⟨m - 1, by omega⟩
    show f97_b2 f97_j1 _ _ _ w Q
    unfold f97_b2
    have cc : (i : Int) < ((X.now.length : Nat) : Int) := by omega
    have h3 : IntKind.i64.wrap ((i : Int) + 1) = ((i + 1 : Nat) : Int) := by rw [w64 (by omega) (by omega)]; rfl
    try simp only [↓reduceIte, ↓LL, LM, Value.cells, Nat.reduceAdd, Option.some.injEq, exists_eq_left', decide_true, decide_false, if_true, if_false, reduceCtorEq, cond_true, cond_false, c1, lv, cc]
    refine f103_s h ok (by omega) ?_
    rw [decide_eq_false (show ¬ i = 0 by omega), Bool.false_or]
    cases hu : isB (U0 (n0 X)) i with
    | true =>
      try simp only [↓reduceIte, ↓LL, LM, Value.cells, Nat.reduceAdd, Option.some.injEq, exists_eq_left', decide_true, decide_false, if_true, if_false, reduceCtorEq, cond_true, cond_false, h3]
      exact ih m (i + 1) (by omega) (by omega) (by omega) fun j hj hl => by
        rcases Nat.lt_or_ge j i with hlt | hge
        · exact hall j hj hlt
        · have : j = i := by omega
          rw [this]; exact hu
    | false =>
      try simp only [↓reduceIte, ↓LL, LM, Value.cells, Nat.reduceAdd, Option.some.injEq, exists_eq_left', decide_true, decide_false, if_true, if_false, reduceCtorEq, cond_true, cond_false]
      refine f124_s h ok (by omega) fun w2 h2 hc2 => ?_
      have h2d := h2.drw
      have d1 : (drw w2).cell? ⟨r, 1, none⟩ = some vn := h2d.c1
      have d1' : w2.cell? ⟨r, 1, none⟩ = some vn := h2d.c1
      try simp only [↓reduceIte, ↓LL, LM, Value.cells, Nat.reduceAdd, Option.some.injEq, exists_eq_left', decide_true, decide_false, if_true, if_false, reduceCtorEq, cond_true, cond_false, d1, d1']
      refine f88_s fun w3 b3 => ?_
      have h3' := h2d.below b3
      refine ⟨by rw [Kld_e]; exact h3'.c1, ?_⟩
      have hil : i < (X.now.set 0 (trnS (n0 X) i)).length := by rw [List.length_set]; omega
      obtain ⟨g, hg, hc, hia⟩ := h3'.at (i := i) hil
      try simp only [↓reduceIte, ↓LL, LM, Value.cells, Nat.reduceAdd, Option.some.injEq, exists_eq_left', decide_true, decide_false, if_true, if_false, reduceCtorEq, cond_true, cond_false, hia]
      refine h3'.put hil hg fun w4 h4 hc4 => ?_
      try simp only [↓reduceIte, ↓LL, LM, Value.cells, Nat.reduceAdd, Option.some.injEq, exists_eq_left', decide_true, decide_false, if_true, if_false, reduceCtorEq, cond_true, cond_false]
      exact k0 i ⟨h1, by omega, hu, hall⟩ w4 h4 ((hc2.trans (ChgS.of_below (of_drw' b3)) fun _ _ h => h).trans hc4 fun _ _ h => h)
theorem f97_s (h : R8 B w r vb vn vo vs X) (ok : Ok8 X N) (k13 : X.ov = true → Q (.tuple #[.int .i64 0, .int .i64 13]) w)
    (k0 : X.ov = false → ∀ n, Fre (U0 (n0 X)) N n → ∀ w', R8 B w' r vb vn vo vs (tkX X n) → ChgS (fun k => vn.ownBlock = some k) w w' → Q (.tuple #[.int .i64 ((n : Nat) : Int), .int .i64 0]) w')
    (k8 : X.ov = false → (∀ j, 1 ≤ j → j < N → isB (U0 (n0 X)) j = true) → Q (.tuple #[.int .i64 0, .int .i64 8]) w) : f97 (pv r) w Q := by
  unfold f97
  have c3 := h.c3
  have l1 := ok.l1
  cases ho : X.ov with
  | true =>
    rw [ho] at c3
    try simp only [↓reduceIte, ↓LL, LM, Value.cells, Nat.reduceAdd, Option.some.injEq, exists_eq_left', decide_true, decide_false, if_true, if_false, reduceCtorEq, cond_true, cond_false, c3]
    exact k13 ho
  | false =>
    rw [ho] at c3
    try simp only [↓reduceIte, ↓LL, LM, Value.cells, Nat.reduceAdd, Option.some.injEq, exists_eq_left', decide_true, decide_false, if_true, if_false, reduceCtorEq, cond_true, cond_false, c3]
    exact ⟨_, take8_loop h ok (k0 ho) (k8 ho) (N - 1) N 1 (by omega) (by omega) (Nat.le_refl _) fun j hj hl => by omega⟩
theorem tkX_ok {n : Nat} (ok : Ok8 X N) : Ok8 (tkX X n) N := (ok.set (i := 0) (trnS_size ok.n0.2 n)).set (X := { X with now := X.now.set 0 (trnS (n0 X) n) }) (zs_size 256)
theorem R8.hrlt (h : R8 B w r vb vn vo vs X) : r < w.heap.size := blk_lt h.hr
theorem f100_s (h : R8 B w r vb vn vo vs X) (ok : Ok8 X N) (hB : B ≤ w.heap.size) (hn : X.nts.length ≤ 100000)
    (kk : ∀ w' vo' vs', R8 B w' r vb vn vo' vs' (svX X) → (∀ k, fp8 r vb vn vo' vs' k → fp8 r vb vn vo vs k ∨ w.heap.size ≤ k) → ChgS (fp8 r vb vn vo vs) w w' → Q (.int .i64 (svE X)) w') : f100 (pv r) w Q := by
  unfold f100
  have c3 := h.c3
  unfold svE svX at kk
  have len := ok.len
  have l2 := ok.l2
  cases ho : X.ov with
  | true =>
    rw [ho] at c3
    rw [if_pos ho, if_pos ho] at kk
    try simp only [↓reduceIte, ↓LL, LM, Value.cells, Nat.reduceAdd, Option.some.injEq, exists_eq_left', decide_true, decide_false, if_true, if_false, reduceCtorEq, cond_true, cond_false, c3]
    exact kk w vo vs h (fun k hk => .inl hk) (ChgS.refl _ _)
  | false =>
    rw [ho] at c3
    rw [if_neg (by rw [ho]; intro h; cases h), if_neg (by rw [ho]; intro h; cases h)] at kk
    have h1 := h.drw
    have c1 : (drw w).cell? ⟨r, 1, none⟩ = some vn := h1.c1
    have c2 : (drw w).cell? ⟨r, 2, none⟩ = some vo := h1.c2
    have c1' : w.cell? ⟨r, 1, none⟩ = some vn := h1.c1
    have c2' : w.cell? ⟨r, 2, none⟩ = some vo := h1.c2
    try simp only [↓reduceIte, ↓LL, LM, Value.cells, Nat.reduceAdd, Option.some.injEq, exists_eq_left', decide_true, decide_false, if_true, if_false, reduceCtorEq, cond_true, cond_false, c3, c1, c2, c1', c2']
    refine cpS h1.hn (by omega) fun v2 w2 o2 b2 => ?_
    have h2 := h1.below b2
    have zz : w.heap.size ≤ w2.heap.size := b2.size
    refine ⟨by rw [Kld_e]; exact cell_below b2 c2, ?_⟩
    obtain ⟨p2, cc2, e2⟩ := ownV_len o2
    have f2 : ∀ g, v2.ownBlock = some g → w.heap.size ≤ g ∧ g < w2.heap.size := fun g hg => ⟨(ownV_lt o2 g hg).1, (ownV_lt o2 g hg).2.1⟩
    refine ap_Vk slN8 rfl (by rw [e2]; rfl) (by rw [e2]; rfl) (by rw [Kld_e]; exact cell_below (b_psh _ _) h2.c2) h2.ho (by rw [h.hl]; unfold maxLen; omega) (by rw [h.hl]; omega) (Nat.le_trans hB zz) fun w3 vo3 o3 hc3 fr3 => ?_
    have lo3 := ownV_lt o3
    have von : ∀ g, vo.ownBlock = some g → g ≠ r ∧ vn.ownBlock ≠ some g ∧ vb.ownBlock ≠ some g ∧ v2.ownBlock ≠ some g ∧ ∀ v ∈ vs, v.ownBlock ≠ some g := fun g hg => by
      obtain ⟨_, hlt, cur, hcur⟩ := ownV_lt h2.ho g hg
      refine ⟨?_, fun hv => ?_, fun hv => ?_, fun hv => ?_, fun v hvm hv => ?_⟩
      · rintro rfl
        exact absurd (ty_ne hcur h2.hr) (by decide)
      · obtain ⟨_, _, cur', hcur'⟩ := ownV_lt h2.hn g hv
        exact absurd (ty_ne hcur hcur') (by decide)
      · obtain ⟨_, _, cur', hcur'⟩ := ownV_lt h2.hb g hv
        exact absurd (ty_ne hcur hcur') (by decide)
      · obtain ⟨_, _, cur', hcur'⟩ := ownV_lt o2 g hv
        exact absurd (ty_ne hcur hcur') (by decide)
      · obtain ⟨_, _, cur', hcur'⟩ := h2.vsB v hvm g hv
        exact absurd (ty_ne hcur hcur') (by decide)
    have hr3 := hc3.keep h2.hr fun e => (von r e).1 rfl
    rw [ho] at hr3
    try simp only [↓reduceIte, ↓LL, LM, Value.cells, Nat.reduceAdd, Option.some.injEq, exists_eq_left', decide_true, decide_false, if_true, if_false, reduceCtorEq, cond_true, cond_false]
    refine st_box (o := 2) (v := vo3) hr3 (by show 2 < 4; decide) (by obtain ⟨x, y, hx⟩ := ownV_len o3; rw [hx]; rfl) fun w4 hr4 u4 => ?_
    have hr4 : w4.heap[r]? = some (.cells #[vb, vn, vo3, .bool false] 151 (0, 0)) := hr4
    have c24 : w4.cell? ⟨r, 2, none⟩ = some vo3 := by rw [cell_of_blk hr4]; rfl
    have hc4 : ChgS (fun k => k = r) w3 w4 := ChgS.of_upd u4 rfl
    have vo3n : ∀ g, vo3.ownBlock = some g → g ≠ r := fun g hg e => by
      obtain ⟨_, _, cur, hcur⟩ := lo3 g hg
      rw [e] at hcur
      exact absurd (ty_ne hcur hr3) (by decide)
    have nr : ∀ {e : TypeId} {v : Value} {ys : List Value}, e ≠ 151 → ownV B e w3 v ys → ∀ g, v.ownBlock = some g → ¬ g = r := fun he ho g hg e => by
      obtain ⟨_, _, cur, hcur⟩ := ownV_lt ho g hg
      rw [e] at hcur
      exact he (ty_ne hcur hr3)
    have hb3 := ownV_chg h2.hb hc3 fun g hg hn => (von g hn).2.2.1 hg
    have hn3 := ownV_chg h2.hn hc3 fun g hg hn => (von g hn).2.1 hg
    have o23 : ownV B 9 w3 v2 (X.now.map .string) := ownV_chg (ownV_fresh o2 fun g hg => Nat.le_trans hB (f2 g hg).1) hc3 fun g hg hn => (von g hn).2.2.2.1 hg
    have hv3 : ∀ (i : Nat) v l, vs[i]? = some v → X.nts[i]? = some l → ownV B 9 w3 v (l.map .string) := fun i v l e1 e2 => ownV_chg (h2.hv i v l e1 e2) hc3 fun g hg hn => (von g hn).2.2.2.2 v (List.mem_of_getElem? e1) hg
    have ho4 := ownV_chg o3 hc4 fun g hg => vo3n g hg
    have lv := lnl_own o3
    have ll : (vs ++ [v2]).length = X.nts.length + 1 := by rw [List.length_append, h.hl]; rfl
    rw [ll] at lv
    have ew : IntKind.i64.wrap (((X.nts.length + 1 : Nat) : Int) - 1) = ((X.nts.length : Nat) : Int) := by rw [w64 (by omega) (by omega)]; omega
    try simp only [↓reduceIte, ↓LL, LM, Value.cells, Nat.reduceAdd, Option.some.injEq, exists_eq_left', decide_true, decide_false, if_true, if_false, reduceCtorEq, cond_true, cond_false, c24, lv, ew]
    refine kk w4 vo3 (vs ++ [v2]) ⟨h.rB, by show _ = some (Obj.cells #[vb, vn, vo3, .bool X.ov] _ _); rw [ho]; exact hr4, ownV_chg hb3 hc4 (nr (by decide) hb3), ownV_chg hn3 hc4 (nr (by decide) hn3), ho4, ?_, fun i v l e1 e2 => ?_, h.sb, fun v hv g hg => ?_⟩ (fun k hk => ?_) ?_
    · show (vs ++ [v2]).length = (X.nts ++ [X.now]).length
      rw [ll, List.length_append]; rfl
    · have e2 : (X.nts ++ [X.now])[i]? = some l := e2
      have hw : ownV B 9 w3 v (l.map .string) := by
        rcases Nat.lt_or_ge i vs.length with hlt | hge
        · rw [List.getElem?_append_left hlt] at e1
          rw [List.getElem?_append_left (by rw [← h.hl]; exact hlt)] at e2
          exact hv3 i v l e1 e2
        · rw [List.getElem?_append_right hge] at e1
          rw [List.getElem?_append_right (by rw [← h.hl]; exact hge)] at e2
          rw [← h.hl] at e2
          have : i - vs.length = 0 := by
            rcases Nat.eq_zero_or_pos (i - vs.length) with hz | hp
            · exact hz
            · rw [List.getElem?_eq_none (by simp only [List.length_cons, List.length_nil]; omega)] at e1
              cases e1
          rw [this] at e1 e2
          cases e1; cases e2
          exact o23
      exact ownV_chg hw hc4 (nr (by decide) hw)
    · rcases List.mem_append.1 hv with hv | hv
      · exact h.sv v hv g hg
      · rw [List.mem_singleton.1 hv] at hg
        intro hx
        have := (ownV_lt h1.hn g hx).2.1
        have := (f2 g hg).1
        have e : (drw w).heap.size = w.heap.size := rfl
        omega
    · rcases hk with hk | hk | hk | hk | ⟨v, hv, hk⟩
      · exact .inl (.inl hk)
      · exact .inl (.inr (.inl hk))
      · exact .inl (.inr (.inr (.inl hk)))
      · rcases fr3 k hk with hk | hk
        · exact .inl (.inr (.inr (.inr (.inl hk))))
        · exact .inr (by omega)
      · rcases List.mem_append.1 hv with hv | hv
        · exact .inl (.inr (.inr (.inr (.inr ⟨v, hv, hk⟩))))
        · rw [List.mem_singleton.1 hv] at hk
          exact .inr (f2 k hk).1
    · refine ((ChgS.of_below (of_drw' b2)).trans (T := fp8 r vb vn vo vs) ?_ fun _ _ h => h).trans (T := fp8 r vb vn vo vs) (hc4.mono fun k hk => .inl hk) fun _ _ h => h
      exact hc3.mono fun k hk => .inr (.inr (.inr (.inl hk)))
theorem bkE_13 {k : Int} (ho : X.ov = true) : bkE X k = 13 := by unfold bkE; rw [if_pos ho]
theorem bkE_7 {k : Int} (ho : X.ov = false) (hk : k < 0 ∨ (X.nts.length : Int) ≤ k) : bkE X k = 7 := by unfold bkE; rw [if_neg (by rw [ho]; intro h; cases h), if_pos hk]
theorem bkE_0 {k : Int} (ho : X.ov = false) (h0 : 0 ≤ k) (h1 : k < (X.nts.length : Int)) : bkE X k = 0 := by unfold bkE; rw [if_neg (by rw [ho]; intro h; cases h), if_neg (by omega)]
theorem bkX_1 {k : Int} (h : bkE X k ≠ 0) : bkX X k = X := by unfold bkX; rw [if_neg h]
theorem bkX_0 {k : Int} (h : bkE X k = 0) : bkX X k = { X with now := X.nts.getD k.toNat [], nts := X.nts.take (k.toNat + 1) } := by unfold bkX; rw [if_pos h]
theorem f101_s {k : Int} (h : R8 B w r vb vn vo vs X) (hB : B ≤ w.heap.size) (hN : ∀ l ∈ X.nts, l.length ≤ 1000000) (hn : X.nts.length ≤ 100000)
    (kk : ∀ w' vn' vo' vs', R8 B w' r vb vn' vo' vs' (bkX X k) → (∀ j, fp8 r vb vn' vo' vs' j → fp8 r vb vn vo vs j ∨ w.heap.size ≤ j) → ChgS (fp8 r vb vn vo vs) w w' → Q (.int .i64 (bkE X k)) w') : f101 (pv r) (.int .i64 k) w Q := by
  unfold f101
  have c3 := h.c3
  cases ho : X.ov with
  | true =>
    rw [ho] at c3
    have e1 := bkE_13 (k := k) ho
    rw [bkX_1 (by rw [e1]; decide), e1] at kk
    try simp only [↓reduceIte, ↓LL, LM, Value.cells, Nat.reduceAdd, Option.some.injEq, exists_eq_left', decide_true, decide_false, if_true, if_false, reduceCtorEq, cond_true, cond_false, c3]
    exact kk w vn vo vs h (fun k hk => .inl hk) (ChgS.refl _ _)
  | false =>
    rw [ho] at c3
    have c2 := h.c2
    have lv := lnl_own h.ho
    rw [h.hl] at lv
    by_cases g1 : k < 0
    · have e1 := bkE_7 (k := k) ho (.inl g1)
      rw [bkX_1 (by rw [e1]; decide), e1] at kk
      try simp only [↓reduceIte, ↓LL, LM, Value.cells, Nat.reduceAdd, Option.some.injEq, exists_eq_left', decide_true, decide_false, if_true, if_false, reduceCtorEq, cond_true, cond_false, c3, g1]
      exact kk w vn vo vs h (fun k hk => .inl hk) (ChgS.refl _ _)
    · by_cases g2 : (X.nts.length : Int) ≤ k
      · have g2' : k ≥ ((X.nts.length : Nat) : Int) := g2
        have e1 := bkE_7 (k := k) ho (.inr g2)
        rw [bkX_1 (by rw [e1]; decide), e1] at kk
        try simp only [↓reduceIte, ↓LL, LM, Value.cells, Nat.reduceAdd, Option.some.injEq, exists_eq_left', decide_true, decide_false, if_true, if_false, reduceCtorEq, cond_true, cond_false, c3, g1, c2, lv, g2, g2']
        exact kk w vn vo vs h (fun k hk => .inl hk) (ChgS.refl _ _)
      · have g2' : ¬ k ≥ ((X.nts.length : Nat) : Int) := g2
        have e1 := bkE_0 (k := k) ho (by omega) (by omega)
        rw [bkX_0 e1, e1] at kk
        obtain ⟨k, rfl⟩ := Int.eq_ofNat_of_zero_le (show 0 ≤ k by omega)
        rw [Int.toNat_natCast] at kk
        have hkl : k < X.nts.length := by omega
        have hkv : k < vs.length := by rw [h.hl]; exact hkl
        have ew : IntKind.i64.wrap ((k : Int) + 1) = ((k + 1 : Nat) : Int) := by rw [w64 (by omega) (by omega)]; rfl
        obtain ⟨gv, capv, hvo, hgv, hgB, _, hcell⟩ := ownV_blk h.ho (by intro e; rw [e] at hkv; simp at hkv)
        have hia : ∀ (K : Value → M) (w' : World) (Q : Value → World → Prop), ia 1 vo (.int .i64 ((k : Nat) : Int)) K w' Q = K (.pointer (some ⟨gv, k, none⟩)) w' Q := fun K w' Q => by rw [hvo]; exact ia_at hkv
        have hck := hcell k hkv
        have hvk := h.hv k vs[k] X.nts[k] (List.getElem?_eq_getElem hkv) (List.getElem?_eq_getElem hkl)
        have eN : X.nts.getD k [] = X.nts[k] := by rw [List.getD_eq_getElem?_getD, List.getElem?_eq_getElem hkl]; rfl
        rw [eN] at kk
        have hmem : vs[k] ∈ vs := List.getElem_mem hkv
        try simp only [↓reduceIte, ↓LL, LM, Value.cells, Nat.reduceAdd, Option.some.injEq, exists_eq_left', decide_true, decide_false, if_true, if_false, reduceCtorEq, cond_true, cond_false, c3, g1, c2, lv, g2, g2', hia, hck]
        refine cpS hvk (hN _ (List.getElem_mem hkl)) fun v2 w2 o2 b2 => ?_
        have h2 := h.below b2
        have f2 : ∀ g, v2.ownBlock = some g → w.heap.size ≤ g ∧ g < w2.heap.size := fun g hg => ⟨(ownV_lt o2 g hg).1, (ownV_lt o2 g hg).2.1⟩
        have hr2 := h2.hr
        rw [ho] at hr2
        try simp only [↓reduceIte, ↓LL, LM, Value.cells, Nat.reduceAdd, Option.some.injEq, exists_eq_left', decide_true, decide_false, if_true, if_false, reduceCtorEq, cond_true, cond_false]
        refine st_box (o := 1) (v := v2) hr2 (by show 1 < 4; decide) (by obtain ⟨x, y, hx⟩ := ownV_len o2; rw [hx]; rfl) fun w3 hr3 u3 => ?_
        have hr3 : w3.heap[r]? = some (.cells #[vb, v2, vo, .bool false] 151 (0, 0)) := hr3
        have hc3 : ChgS (fun k => k = r) w2 w3 := ChgS.of_upd u3 rfl
        have c23 : w3.cell? ⟨r, 2, none⟩ = some vo := by rw [cell_of_blk hr3]; rfl
        have nr : ∀ {e : TypeId} {v : Value} {ys : List Value} {B' : Nat}, e ≠ 151 → ownV B' e w2 v ys → ∀ g, v.ownBlock = some g → ¬ g = r := fun he ho g hg e => by
          obtain ⟨_, _, cur, hcur⟩ := ownV_lt ho g hg
          rw [e] at hcur
          exact he (ty_ne hcur hr2)
        have ho3 := ownV_chg h2.ho hc3 (nr (by decide) h2.ho)
        try simp only [↓reduceIte, ↓LL, LM, Value.cells, Nat.reduceAdd, Option.some.injEq, exists_eq_left', decide_true, decide_false, if_true, if_false, reduceCtorEq, cond_true, cond_false, c23, ew]
        refine sll_ownV ho3 (i := k + 1) (by omega) fun vo4 o4 eb4 => ?_
        try simp only [↓reduceIte, ↓LL, LM, Value.cells, Nat.reduceAdd, Option.some.injEq, exists_eq_left', decide_true, decide_false, if_true, if_false, reduceCtorEq, cond_true, cond_false]
        refine st_box (o := 2) (v := vo4) hr3 (by show 2 < 4; decide) (by obtain ⟨x, y, hx⟩ := ownV_len o4; rw [hx]; rfl) fun w5 hr5 u5 => ?_
        have hr5 : w5.heap[r]? = some (.cells #[vb, v2, vo4, .bool false] 151 (0, 0)) := hr5
        have hc5 : ChgS (fun k => k = r) w3 w5 := ChgS.of_upd u5 rfl
        have hc25 : ChgS (fun k => k = r) w2 w5 := hc3.trans hc5 fun _ _ h => h
        try simp only [↓reduceIte, ↓LL, LM, Value.cells, Nat.reduceAdd, Option.some.injEq, exists_eq_left', decide_true, decide_false, if_true, if_false, reduceCtorEq, cond_true, cond_false]
        refine kk w5 v2 vo4 (vs.take (k + 1)) ⟨h.rB, by show _ = some (Obj.cells #[vb, v2, vo4, .bool X.ov] _ _); rw [ho]; exact hr5, ownV_chg h2.hb hc25 (nr (by decide) h2.hb), ?_, ownV_chg o4 hc5 (fun g hg => nr (by decide) h2.ho g (by rw [← eb4]; exact hg)), ?_, fun i v l e1 e2 => ?_, fun g hg hx => ?_, fun v hv g hg hx => ?_⟩ (fun j hj => ?_) ?_
        · exact ownV_chg (ownV_fresh o2 fun g hg => Nat.le_trans hB (f2 g hg).1) hc25 (nr (by decide) o2)
        · show (vs.take (k + 1)).length = (X.nts.take (k + 1)).length
          rw [List.length_take, List.length_take, h.hl]
        · have e2 : (X.nts.take (k + 1))[i]? = some l := e2
          rw [List.getElem?_take] at e1 e2
          split at e1
          · rename_i hik
            rw [if_pos hik] at e2
            have := h2.hv i v l e1 e2
            exact ownV_chg this hc25 (nr (by decide) this)
          · cases e1
        · have := (f2 g hx).1
          have := (ownV_lt h.hb g hg).2.1
          omega
        · have := (f2 g hx).1
          have := (h.vsB v (List.mem_of_mem_take hv) g hg).2.1
          omega
        · rcases hj with hj | hj | hj | hj | ⟨v, hv, hj⟩
          · exact .inl (.inl hj)
          · exact .inl (.inr (.inl hj))
          · exact .inr (f2 j hj).1
          · exact .inl (.inr (.inr (.inr (.inl (by rw [← eb4]; exact hj)))))
          · exact .inl (.inr (.inr (.inr (.inr ⟨v, List.mem_of_mem_take hv, hj⟩))))
        · exact (ChgS.of_below b2).trans (T := fp8 r vb vn _ vs) (hc25.mono fun k hk => .inl hk) fun _ _ h => h
theorem used8_loop (h : R8 B w r vb vn vo vs X) (ok : Ok8 X N) (ho : X.ov = false) (kk : Q (.int .i64 ((1 + cntB (U0 (n0 X)) X.now.length : Nat) : Int)) w) :
    ∀ (d m i : Nat), i + d = N → d < m → itr (fun _ _ _ => bot) (f59_b2 f59_j1) m (pv r) (.int .i64 (((if i = 0 then 0 else 1 + cntB (U0 (n0 X)) i : Nat)) : Int)) (.int .i64 ((i : Nat) : Int)) w Q := by
  have c1 := h.c1
  have c3 := h.c3
  rw [ho] at c3
  have lv := h.lnl
  have len := ok.len
  have l1 := ok.l1
  have l2 := ok.l2
  intro d
  induction d with
  | zero =>
    intro m i hi hm
    obtain ⟨m, rfl⟩ : ∃ x, m = x + 1 := ⟨m - 1, by omega⟩
    show f59_b2 f59_j1 _ _ _ _ w Q
    unfold f59_b2
    have cc : ¬ (i : Int) < ((X.now.length : Nat) : Int) := by omega
    have : i = X.now.length := by omega
    subst this
    rw [if_neg (by omega)]
    try simp only [↓reduceIte, ↓LL, LM, Value.cells, Nat.reduceAdd, Option.some.injEq, exists_eq_left', decide_true, decide_false, if_true, if_false, reduceCtorEq, cond_true, cond_false, c1, lv, cc]
    unfold f59_j1
    try simp only [↓reduceIte, ↓LL, LM, Value.cells, Nat.reduceAdd, Option.some.injEq, exists_eq_left', decide_true, decide_false, if_true, if_false, reduceCtorEq, cond_true, cond_false]
    exact kk
  | succ d ih =>
    intro m i hi hm
    obtain ⟨m, rfl⟩ : ∃ x, m = x + 1 := ⟨m - 1, by omega⟩
    show f59_b2 f59_j1 _ _ _ _ w Q
    unfold f59_b2
    have cc : (i : Int) < ((X.now.length : Nat) : Int) := by omega
    have h3 : IntKind.i64.wrap ((i : Int) + 1) = ((i + 1 : Nat) : Int) := by rw [w64 (by omega) (by omega)]; rfl
    have cb := cntB_le (U0 (n0 X)) i
    have nx := ih m (i + 1) (by omega) (by omega)
    rw [if_neg (by omega)] at nx
    try simp only [↓reduceIte, ↓LL, LM, Value.cells, Nat.reduceAdd, Option.some.injEq, exists_eq_left', decide_true, decide_false, if_true, if_false, reduceCtorEq, cond_true, cond_false, c1, lv, cc, c3]
    refine f103_s h ok (by omega) ?_
    by_cases c : i = 0
    · subst c
      have e0 : 1 + cntB (U0 (n0 X)) (0 + 1) = 1 := rfl
      rw [e0] at nx
      have h4 : IntKind.i64.wrap (((0 : Nat) : Int) + 1) = 1 := rfl
      have e1 : ((1 : Nat) : Int) = 1 := rfl
      rw [if_pos rfl]
      try simp only [↓reduceIte, ↓LL, LM, Value.cells, Nat.reduceAdd, Option.some.injEq, exists_eq_left', decide_true, decide_false, if_true, if_false, reduceCtorEq, cond_true, cond_false, Bool.true_or, h4, decide_true]
      unfold f59_j3
      try simp only [↓reduceIte, ↓LL, LM, Value.cells, Nat.reduceAdd, Option.some.injEq, exists_eq_left', decide_true, decide_false, if_true, if_false, reduceCtorEq, cond_true, cond_false, h3]
      exact nx
    · rw [cntB_succ _ (by omega)] at nx
      rw [if_neg c, decide_eq_false c, Bool.false_or]
      have h4 : IntKind.i64.wrap (((1 + cntB (U0 (n0 X)) i : Nat) : Int) + 1) = ((1 + (cntB (U0 (n0 X)) i + 1) : Nat) : Int) := by rw [w64 (by omega) (by omega)]; omega
      cases hu : isB (U0 (n0 X)) i with
      | true =>
        rw [hu, if_pos rfl] at nx
        try simp only [↓reduceIte, ↓LL, LM, Value.cells, Nat.reduceAdd, Option.some.injEq, exists_eq_left', decide_true, decide_false, if_true, if_false, reduceCtorEq, cond_true, cond_false, h4]
        unfold f59_j3
        try simp only [↓reduceIte, ↓LL, LM, Value.cells, Nat.reduceAdd, Option.some.injEq, exists_eq_left', decide_true, decide_false, if_true, if_false, reduceCtorEq, cond_true, cond_false, h3]
        exact nx
      | false =>
        rw [hu, if_neg (by decide), Nat.add_zero] at nx
        try simp only [↓reduceIte, ↓LL, LM, Value.cells, Nat.reduceAdd, Option.some.injEq, exists_eq_left', decide_true, decide_false, if_true, if_false, reduceCtorEq, cond_true, cond_false]
        unfold f59_j3
        try simp only [↓reduceIte, ↓LL, LM, Value.cells, Nat.reduceAdd, Option.some.injEq, exists_eq_left', decide_true, decide_false, if_true, if_false, reduceCtorEq, cond_true, cond_false, h3]
        exact nx
theorem f59_s (h : R8 B w r vb vn vo vs X) (ok : Ok8 X N) (kk : Q (.int .i64 ((us8 X : Nat) : Int)) w) : f59 (pv r) w Q := by
  unfold f59
  unfold us8 at kk
  have len := ok.len
  have l1 := ok.l1
  cases ho : X.ov with
  | true =>
    rw [if_pos ho] at kk
    refine ⟨1, ?_⟩
    show f59_b2 f59_j1 _ _ _ _ w Q
    unfold f59_b2
    have c1 := h.c1
    have c3 := h.c3
    rw [ho] at c3
    have lv := h.lnl
    have cc : (0 : Int) < ((X.now.length : Nat) : Int) := by omega
    try simp only [↓reduceIte, ↓LL, LM, Value.cells, Nat.reduceAdd, Option.some.injEq, exists_eq_left', decide_true, decide_false, if_true, if_false, reduceCtorEq, cond_true, cond_false, c1, lv, cc, c3]
    unfold f59_j1
    try simp only [↓reduceIte, ↓LL, LM, Value.cells, Nat.reduceAdd, Option.some.injEq, exists_eq_left', decide_true, decide_false, if_true, if_false, reduceCtorEq, cond_true, cond_false]
    exact kk
  | false =>
    rw [if_neg (by rw [ho]; intro h; cases h)] at kk
    exact ⟨_, used8_loop h ok ho kk N (N + 1) 0 (by omega) (by omega)⟩
theorem changed8_loop (h : R8 B w r vb vn vo vs X) (ok : Ok8 X N) (ho : X.ov = false) (kk : ∀ w' v, Below w.heap.size w w' → ownI w.heap.size 3 .i64 w' v ((chL X N).map fun (j : Nat) => (j : Int)) → Q v w') :
    ∀ (d m i : Nat) (w1 : World) (v : Value), i + d = N → d < m → Below w.heap.size w w1 → ownI w.heap.size 3 .i64 w1 v ((chL X i).map fun (j : Nat) => (j : Int)) → itr (fun _ _ _ => bot) (f63_b2 f63_j1) m (pv r) v (.int .i64 ((i : Nat) : Int)) w1 Q := by
  have lv := h.lnl
  have len := ok.len
  have l1 := ok.l1
  have l2 := ok.l2
  have bl := ok.bl
  intro d
  induction d with
  | zero =>
    intro m i w1 v hi hm hb hv
    obtain ⟨m, rfl⟩ : ∃ x, m = x + 1 := ⟨m - 1, by omega⟩
    show f63_b2 f63_j1 _ _ _ _ w1 Q
    unfold f63_b2
    have c1 := (h.below hb).c1
    have cc : ¬ (i : Int) < ((X.now.length : Nat) : Int) := by omega
    have : i = N := by omega
    subst this
    try simp only [↓reduceIte, ↓LL, LM, Value.cells, Nat.reduceAdd, Option.some.injEq, exists_eq_left', decide_true, decide_false, if_true, if_false, reduceCtorEq, cond_true, cond_false, c1, lv, cc]
    unfold f63_j1
    try simp only [↓reduceIte, ↓LL, LM, Value.cells, Nat.reduceAdd, Option.some.injEq, exists_eq_left', decide_true, decide_false, if_true, if_false, reduceCtorEq, cond_true, cond_false]
    exact kk w1 v hb hv
  | succ d ih =>
    intro m i w1 v hi hm hb hv
    obtain ⟨m, rfl⟩ : ∃ x, m = x + 1 := ⟨m - 1, by omega⟩
    show f63_b2 f63_j1 _ _ _ _ w1 Q
    unfold f63_b2
    have h1 := h.below hb
    have h1d := h1.drw
    have c1 := h1.c1
    have c3 := h1.c3
    rw [ho] at c3
    have c0d : (drw w1).cell? ⟨r, 0, none⟩ = some vb := h1d.c0
    have c1d : (drw w1).cell? ⟨r, 1, none⟩ = some vn := h1d.c1
    have c0 : w1.cell? ⟨r, 0, none⟩ = some vb := h1d.c0
    have cc : (i : Int) < ((X.now.length : Nat) : Int) := by omega
    have h3 : IntKind.i64.wrap ((i : Int) + 1) = ((i + 1 : Nat) : Int) := by rw [w64 (by omega) (by omega)]; rfl
    obtain ⟨ga, ha1, ha2, ha3⟩ := h1.at (i := i) (by omega)
    obtain ⟨gb, hb1, hb2, hb3⟩ := ownS_at h1.hb (i := i) (by omega)
    have eb : X.base[i]'(by omega) = X.base.getD i ⟨#[]⟩ := by rw [List.getD_eq_getElem?_getD, List.getElem?_eq_getElem (by omega)]; rfl
    rw [eb] at hb2
    have ha2' : (drw w1).cell? ⟨ga, i, none⟩ = some (.string (X.now.getD i ⟨#[]⟩)) := ha2
    have hb2' : (drw w1).cell? ⟨gb, i, none⟩ = some (.string (X.base.getD i ⟨#[]⟩)) := hb2
    have hcl := chL_le X i
    have bd : Below w.heap.size w (drw w1) := ⟨hb.os, hb.tape, hb.output, hb.size, hb.block⟩
    have hvd : ownI w.heap.size 3 .i64 (drw w1) v ((chL X i).map fun (j : Nat) => (j : Int)) := hv
    have hnx := chL_succ X i
    have fin0 : chP X i = false → itr (fun _ _ _ => bot) (f63_b2 f63_j1) m (pv r) v (.int .i64 ((i + 1 : Nat) : Int)) (drw w1) Q := fun hp => by
      rw [if_neg (by rw [hp]; decide)] at hnx
      exact ih m (i + 1) _ v (by omega) (by omega) bd (by rw [hnx]; exact hvd)
    try simp only [↓reduceIte, ↓LL, LM, Value.cells, Nat.reduceAdd, Option.some.injEq, exists_eq_left', decide_true, decide_false, if_true, if_false, reduceCtorEq, cond_true, cond_false, c1, lv, cc, c3]
    refine f103_s h1d ok (by omega) ?_
    by_cases hu : (decide (i = 0) || isB (U0 (n0 X)) i) = true
    · rw [hu]
      by_cases hd : X.now.getD i ⟨#[]⟩ = X.base.getD i ⟨#[]⟩
      · have hp : chP X i = false := by unfold chP; rw [hu, Bool.true_and]; exact decide_eq_false fun hne => hne hd
        have hd' : decide (X.now.getD i ⟨#[]⟩ ≠ X.base.getD i ⟨#[]⟩) = false := decide_eq_false fun hne => hne hd
        try simp only [↓reduceIte, ↓LL, LM, Value.cells, Nat.reduceAdd, Option.some.injEq, exists_eq_left', decide_true, decide_false, if_true, if_false, reduceCtorEq, cond_true, cond_false, c1d, c0d, c0, c1, ha3, hb3, ha2, hb2, ha2', hb2', hd']
        unfold f63_j3
        try simp only [↓reduceIte, ↓LL, LM, Value.cells, Nat.reduceAdd, Option.some.injEq, exists_eq_left', decide_true, decide_false, if_true, if_false, reduceCtorEq, cond_true, cond_false, h3]
        exact fin0 hp
      · have hp : chP X i = true := by unfold chP; rw [hu, Bool.true_and]; exact decide_eq_true hd
        have hd' : decide (X.now.getD i ⟨#[]⟩ ≠ X.base.getD i ⟨#[]⟩) = true := decide_eq_true hd
        rw [if_pos hp] at hnx
        try simp only [↓reduceIte, ↓LL, LM, Value.cells, Nat.reduceAdd, Option.some.injEq, exists_eq_left', decide_true, decide_false, if_true, if_false, reduceCtorEq, cond_true, cond_false, c1d, c0d, c0, c1, ha3, hb3, ha2, hb2, ha2', hb2', hd']
        refine ap_one slI hvd (by rw [List.length_map]; omega) (by rw [List.length_map]; omega) bd.size fun v2 w2 o2 b2 _ _ => ?_
        unfold f63_j3
        try simp only [↓reduceIte, ↓LL, LM, Value.cells, Nat.reduceAdd, Option.some.injEq, exists_eq_left', decide_true, decide_false, if_true, if_false, reduceCtorEq, cond_true, cond_false, h3]
        refine ih m (i + 1) w2 v2 (by omega) (by omega) (bd.trans b2) ?_
        rw [hnx, List.map_append]
        exact o2
    · have hu' : (decide (i = 0) || isB (U0 (n0 X)) i) = false := by cases hx : (decide (i = 0) || isB (U0 (n0 X)) i) with
        | true => exact absurd hx hu
        | false => rfl
      rw [hu']
      have hp : chP X i = false := by unfold chP; rw [hu', Bool.false_and]
      try simp only [↓reduceIte, ↓LL, LM, Value.cells, Nat.reduceAdd, Option.some.injEq, exists_eq_left', decide_true, decide_false, if_true, if_false, reduceCtorEq, cond_true, cond_false]
      unfold f63_j3
      try simp only [↓reduceIte, ↓LL, LM, Value.cells, Nat.reduceAdd, Option.some.injEq, exists_eq_left', decide_true, decide_false, if_true, if_false, reduceCtorEq, cond_true, cond_false, h3]
      exact fin0 hp
theorem f63_s (h : R8 B w r vb vn vo vs X) (ok : Ok8 X N) (kk : ∀ w' v, Below w.heap.size w w' → ownI w.heap.size 3 .i64 w' v ((ch8 X).map fun (j : Nat) => (j : Int)) → Q v w') : f63 (pv r) w Q := by
  unfold f63
  unfold ch8 at kk
  have len := ok.len
  have l1 := ok.l1
  cases ho : X.ov with
  | true =>
    rw [if_pos ho] at kk
    refine ⟨1, ?_⟩
    show f63_b2 f63_j1 _ _ _ _ w Q
    unfold f63_b2
    have c1 := h.c1
    have c3 := h.c3
    rw [ho] at c3
    have lv := h.lnl
    have cc : (0 : Int) < ((X.now.length : Nat) : Int) := by omega
    try simp only [↓reduceIte, ↓LL, LM, Value.cells, Nat.reduceAdd, Option.some.injEq, exists_eq_left', decide_true, decide_false, if_true, if_false, reduceCtorEq, cond_true, cond_false, c1, lv, cc, c3]
    unfold f63_j1
    try simp only [↓reduceIte, ↓LL, LM, Value.cells, Nat.reduceAdd, Option.some.injEq, exists_eq_left', decide_true, decide_false, if_true, if_false, reduceCtorEq, cond_true, cond_false]
    exact kk w _ (Below.refl _ _) ownI_nil
  | false =>
    rw [if_neg (by rw [ho]; intro h; cases h), len] at kk
    exact ⟨_, changed8_loop h ok ho kk N (N + 1) 0 w _ (by omega) (by omega) (Below.refl _ _) ownI_nil⟩
theorem buildR6 (p : Option Addr) (l c : Nat) (w : World) : (Instr.build 102 #[(0, .slice p l c)]).run Tryz.prog w = .ok (.agg #[.slice p l c]) w := by
  kernel_rfl
theorem cmt8_loop {l : List Nat} {rq : Nat} {uq : Value} (h : R8 B W r vb vn vo vs X) (ok : Ok8 X N) (hl : rdI .i64 W v (l.map fun (j : Nat) => (j : Int))) (hlt : ∀ j ∈ l, j < N) (hll : l.length ≤ 1000) (hL : L.length = N) (hq : ∀ g, uq.ownBlock = some g → W.heap.size ≤ g ∧ g ≠ rq) (hrq : W.heap.size ≤ rq)
    (kk : ∀ w', Below W.heap.size W w' → RfAt W.heap.size w' rq uq (stD X L l) → f102_j1 (pv r) (pv rq) w' Q) :
    ∀ (d m i : Nat) (w1 : World), i + d = l.length → d < m → Below W.heap.size W w1 → RfAt W.heap.size w1 rq uq (stD X L (l.take i)) → itr (fun _ _ _ _ => bot) (f102_b2 f102_j1) m (pv r) v (pv rq) (.int .i64 ((i : Nat) : Int)) w1 Q := by
  have len := ok.len
  intro d
  induction d with
  | zero =>
    intro m i w1 hi hm hb hr
    obtain ⟨m, rfl⟩ : ∃ x, m = x + 1 := ⟨m - 1, by omega⟩
    show f102_b2 f102_j1 _ _ _ _ _ w1 Q
    unfold f102_b2
    have lv := rdI_lnl hl
    rw [List.length_map] at lv
    have cc : ¬ (i : Int) < (l.length : Nat) := by omega
    try simp only [↓reduceIte, ↓LL, LM, Value.cells, Nat.reduceAdd, Option.some.injEq, exists_eq_left', decide_true, decide_false, if_true, if_false, reduceCtorEq, cond_true, cond_false, lv, cc]
    rw [List.take_of_length_le (by omega)] at hr
    exact kk w1 hb hr
  | succ d ih =>
    intro m i w1 hi hm hb hr
    obtain ⟨m, rfl⟩ : ∃ x, m = x + 1 := ⟨m - 1, by omega⟩
    show f102_b2 f102_j1 _ _ _ _ _ w1 Q
    unfold f102_b2
    have lv := rdI_lnl hl
    rw [List.length_map] at lv
    have cc : (i : Int) < (l.length : Nat) := by omega
    have hil : i < l.length := by omega
    have h3 : IntKind.i64.wrap ((i : Int) + 1) = ((i + 1 : Nat) : Int) := by rw [w64 (by omega) (by omega)]; rfl
    obtain ⟨a1, j1', ja1⟩ := rdI_at (rdI_below hb hl) (i := i) (by rw [List.length_map]; exact hil)
    rw [List.getElem_map] at j1'
    have j1'' : (drw w1).cell? a1 = some (.int .i64 ((l[i] : Nat) : Int)) := j1'
    have hln : l[i] < N := hlt _ (List.getElem_mem hil)
    have hts : l.take (i + 1) = l.take i ++ [l[i]] := List.take_succ_eq_append_getElem hil
    generalize l[i] = n at *
    have h1 := (h.below hb).drw
    obtain ⟨ga, ha1, ha2, ha3⟩ := h1.at (i := n) (by omega)
    have c1 : (drw w1).cell? ⟨r, 1, none⟩ = some vn := h1.c1
    have c1' : w1.cell? ⟨r, 1, none⟩ = some vn := h1.c1
    have q0 : (drw w1).cell? ⟨rq, 0, none⟩ = some uq := hr.c0
    have q0' : w1.cell? ⟨rq, 0, none⟩ = some uq := hr.c0
    have ha2' : w1.cell? ⟨ga, n, none⟩ = some (.string (X.now.getD n ⟨#[]⟩)) := ha2
    try simp only [↓reduceIte, ↓LL, LM, Value.cells, Nat.reduceAdd, Option.some.injEq, exists_eq_left', decide_true, decide_false, if_true, if_false, reduceCtorEq, cond_true, cond_false, lv, cc, q0, q0', ja1, j1', j1'', c1, c1', ha3, ha2, ha2']
    refine ia_stV (w := drw w1) (show ownV W.heap.size 9 (drw w1) uq _ from hr.hu) (i := n) (by rw [List.length_map, stD_len]; omega) rfl fun w3 g3 hg3 o3 up3 => ?_
    have es3 : ((stD X L (l.take i)).map Value.string).set n (.string (X.now.getD n ⟨#[]⟩)) = (stD X L (l.take (i + 1))).map .string := by rw [hts, stD_snoc, List.map_set]
    rw [es3] at o3
    have hr3 : w3.heap[rq]? = some (.cells #[uq] 102 (0, 0)) := by rw [up3.block rq (fun e => (hq g3 hg3).2 e.symm)]; exact hr.hr
    try simp only [↓reduceIte, ↓LL, LM, Value.cells, Nat.reduceAdd, Option.some.injEq, exists_eq_left', decide_true, decide_false, if_true, if_false, reduceCtorEq, cond_true, cond_false, h3]
    refine ih m (i + 1) w3 (by omega) (by omega) ?_ ⟨hrq, hr3, o3⟩
    have bd : Below W.heap.size W (drw w1) := ⟨hb.os, hb.tape, hb.output, hb.size, hb.block⟩
    exact bd.trans (up3.below (hq g3 hg3).1)
theorem f102_s (h : R8 B w r vb vn vo vs X) (ok : Ok8 X N) (hp : RfAt B w rp up L) (hL : L.length = N) (hB : B ≤ w.heap.size)
    (kk : ∀ w' rp' up', R8 B w' r vb vn vo vs (cmX X) → RfAt B w' rp' up' (cmL X L) → (∀ k, fpR rp' up' k → fpR rp up k ∨ w.heap.size ≤ k) → ChgS (fp8 r vb vn vo vs) w w' → (cmE8 X ≠ 0 → rp' = rp) → Q (.tuple #[pv rp', .int .i64 (cmE8 X)]) w') : f102 (pv r) (pv rp) w Q := by
  unfold f102
  have c3 := h.c3
  have len := ok.len
  have l1 := ok.l1
  have l2 := ok.l2
  cases ho : X.ov with
  | true =>
    rw [ho] at c3
    have e1 : cmE8 X = 13 := by unfold cmE8; rw [if_pos ho]
    have e2 : cmX X = X := by unfold cmX; rw [if_neg (by rw [e1]; decide)]
    have e3 : cmL X L = L := by unfold cmL; rw [if_neg (by rw [e1]; decide)]
    rw [e1, e2, e3] at kk
    try simp only [↓reduceIte, ↓LL, LM, Value.cells, Nat.reduceAdd, Option.some.injEq, exists_eq_left', decide_true, decide_false, if_true, if_false, reduceCtorEq, cond_true, cond_false, c3]
    exact kk w rp up h hp (fun k hk => .inl hk) (ChgS.refl _ _) (fun _ => rfl)
  | false =>
    rw [ho] at c3
    have hov : ¬ X.ov = true := by rw [ho]; intro h; cases h
    try simp only [↓reduceIte, ↓LL, LM, Value.cells, Nat.reduceAdd, Option.some.injEq, exists_eq_left', decide_true, decide_false, if_true, if_false, reduceCtorEq, cond_true, cond_false, c3]
    refine f63_s h ok fun w2 v2 b2 o2 => ?_
    have h2 := h.below b2
    have hp2 := hp.below b2
    have lv := rdI_lnl (ownI_rd o2)
    rw [List.length_map] at lv
    have ech : ch8 X = chL X N := by unfold ch8; rw [if_neg hov, len]
    by_cases cg : 31 < (ch8 X).length
    · have e1 : cmE8 X = 3 := by unfold cmE8; rw [if_neg hov, if_pos cg]
      have e2 : cmX X = X := by unfold cmX; rw [if_neg (by rw [e1]; decide)]
      have e3 : cmL X L = L := by unfold cmL; rw [if_neg (by rw [e1]; decide)]
      rw [e1, e2, e3] at kk
      have g1 : (((ch8 X).length : Nat) : Int) > 31 := by omega
      have g2 : (31 : Int) < (((ch8 X).length : Nat) : Int) := by omega
      try simp only [↓reduceIte, ↓LL, LM, Value.cells, Nat.reduceAdd, Option.some.injEq, exists_eq_left', decide_true, decide_false, if_true, if_false, reduceCtorEq, cond_true, cond_false, lv, g1, g2]
      exact kk w2 rp up h2 hp2 (fun k hk => .inl hk) (ChgS.of_below b2) (fun _ => rfl)
    · have e1 : cmE8 X = 0 := by unfold cmE8; rw [if_neg hov, if_neg cg]
      have e2 : cmX X = { X with ov := true } := by unfold cmX; rw [if_pos e1]
      have e3 : cmL X L = stD X L (ch8 X) := by unfold cmL; rw [if_pos e1]
      rw [e1, e2, e3] at kk
      have g1 : ¬ (((ch8 X).length : Nat) : Int) > 31 := by omega
      have g2 : ¬ (31 : Int) < (((ch8 X).length : Nat) : Int) := by omega
      have p0 := hp2.c0
      try simp only [↓reduceIte, ↓LL, LM, Value.cells, Nat.reduceAdd, Option.some.injEq, exists_eq_left', decide_true, decide_false, if_true, if_false, reduceCtorEq, cond_true, cond_false, lv, g1, g2, p0]
      refine cpS hp2.hu (by omega) fun v3 w3 o3 b3 => ?_
      obtain ⟨p3, cc3, e3⟩ := ownV_len o3
      subst e3
      rw [smr_run (buildR6 _ _ _ w3)]
      have b4 := b_psh w3 (.cells #[.slice p3 (L.map Value.string).length cc3] 102)
      have k4 := blk_psh_new (w := w3) (o := .cells #[.slice p3 (L.map Value.string).length cc3] 102)
      try simp only [↓reduceIte, ↓LL, LM, Value.cells, Nat.reduceAdd, Option.some.injEq, exists_eq_left', decide_true, decide_false, if_true, if_false, reduceCtorEq, cond_true, cond_false]
      generalize psh w3 (.cells #[.slice p3 (L.map Value.string).length cc3] 102) = w4 at *
      have o4 := ownV_below o3 b4
      have b24 := bt b3 b4
      have h4 := h2.below b24
      have z23 := b3.size
      have z34 := b4.size
      have f3 := ownV_lt o3
      have rd4 : rdI .i64 w4 v2 ((ch8 X).map fun (j : Nat) => (j : Int)) := rdI_below b24 (ownI_rd o2)
      -- the row made here lies above w2: a world cut there
      have hall : ∀ j ∈ ch8 X, j < N := by rw [ech]; exact chL_lt X N
      generalize hvq : (Value.slice p3 (L.map Value.string).length cc3) = uq at *
      have hcl : (ch8 X).length ≤ 1000 := by omega
      exact ⟨_, cmt8_loop h2 ok (ownI_rd o2) hall hcl hL (fun g hg => ⟨(f3 g hg).1, by have := (f3 g hg).2.1; omega⟩) z23 (fun w5 b5 hr5 => by
        unfold f102_j1
        try simp only [↓reduceIte, ↓LL, LM, Value.cells, Nat.reduceAdd, Option.some.injEq, exists_eq_left', decide_true, decide_false, if_true, if_false, reduceCtorEq, cond_true, cond_false]
        have h5 := h2.below b5
        have hr := h5.hr
        rw [ho] at hr
        refine st_box (o := 3) (v := .bool true) hr (by show 3 < 4; decide) rfl fun w6 hr6 u6 => ?_
        have hr6 : w6.heap[r]? = some (.cells #[vb, vn, vo, .bool true] 151 (0, 0)) := hr6
        have hc6 : ChgS (fun k => k = r) w5 w6 := ChgS.of_upd u6 rfl
        have nr : ∀ {e : TypeId} {v : Value} {ys : List Value} {B' : Nat}, e ≠ 151 → ownV B' e w5 v ys → ∀ g, v.ownBlock = some g → ¬ g = r := fun he ho g hg e => by
          obtain ⟨_, _, cur, hcur⟩ := ownV_lt ho g hg
          rw [e] at hcur
          exact he (ty_ne hcur hr)
        try simp only [↓reduceIte, ↓LL, LM, Value.cells, Nat.reduceAdd, Option.some.injEq, exists_eq_left', decide_true, decide_false, if_true, if_false, reduceCtorEq, cond_true, cond_false]
        have rlt := h2.hrlt
        refine kk w6 w3.heap.size uq ⟨h.rB, hr6, ownV_chg h5.hb hc6 (nr (by decide) h5.hb), ownV_chg h5.hn hc6 (nr (by decide) h5.hn), ownV_chg h5.ho hc6 (nr (by decide) h5.ho), h5.hl, fun i v l e1 e2 => ownV_chg (h5.hv i v l e1 e2) hc6 (nr (by decide) (h5.hv i v l e1 e2)), h5.sb, h5.sv⟩ ((hr5.weak (Nat.le_trans hB b2.size)).chg hc6 fun k hk e => ?_) (fun k hk => ?_) ?_ (fun hne => absurd rfl hne)
        · rw [e] at hk
          rcases hk with hk | hk
          · omega
          · have := (f3 r hk).1
            omega
        · have z2 := b2.size
          rcases hk with hk | hk
          · exact .inr (by omega)
          · have := (f3 k hk).1
            exact .inr (by omega)
        · exact ((ChgS.of_below b2).trans (ChgS.of_below b5) fun _ _ h => h).trans (T := fp8 r vb vn vo vs) (hc6.mono fun k hk => .inl hk) fun _ _ h => h) (ch8 X).length ((ch8 X).length + 1) 0 w4 (by omega) (by omega) b24 ⟨by omega, k4, o4⟩⟩
end
end Go.Proofs.YtongpnolikkknaaGreatDoor

set_option maxRecDepth 20000
set_option maxHeartbeats 4000000
namespace Go.Proofs.YtongpnolikkknaaGreatDoor
open Sh RowKit Go.MapKept
def nowL (U : List Nat) (hd : ByteArray) (F : Int → Option ByteArray) (L : List ByteArray) : List ByteArray := (List.range L.length).map fun (i : Nat) => if i = 0 then firstW U hd else (F (i : Int)).getD (L.getD i ⟨#[]⟩)
theorem nowL_len (U : List Nat) (hd : ByteArray) (F : Int → Option ByteArray) (L : List ByteArray) : (nowL U hd F L).length = L.length := by unfold nowL; simp
theorem nowL_get {U : List Nat} {hd : ByteArray} {F : Int → Option ByteArray} {L : List ByteArray} {i : Nat} (hi : i < L.length) : (nowL U hd F L).getD i ⟨#[]⟩ = if i = 0 then firstW U hd else (F (i : Int)).getD (L.getD i ⟨#[]⟩) := by
  rw [List.getD_eq_getElem?_getD, List.getElem?_eq_getElem (by rw [nowL_len]; exact hi)]
  show (nowL U hd F L)[i]'(by rw [nowL_len]; exact hi) = _
  unfold nowL
  rw [List.getElem_map, List.getElem_range]
theorem nowL_at {U : List Nat} {hd : ByteArray} {F : Int → Option ByteArray} {L : List ByteArray} {i : Nat} (h : i < (nowL U hd F L).length) : (nowL U hd F L)[i] = if i = 0 then firstW U hd else (F (i : Int)).getD (L.getD i ⟨#[]⟩) := by simp [nowL]
theorem nowL_put {U : List Nat} {hd : ByteArray} {F : Int → Option ByteArray} {L : List ByteArray} {n : Nat} {s : ByteArray} (h0 : 0 < n) : nowL U hd (putF F (n : Int) s) L = (nowL U hd F L).set n s := by
  refine List.ext_getElem (by rw [List.length_set, nowL_len, nowL_len]) fun i h1 h2 => ?_
  rw [List.getElem_set, nowL_at, nowL_at]
  by_cases c : n = i
  · subst c
    rw [if_neg (by omega), if_pos rfl]
    unfold putF
    rw [if_pos rfl]; rfl
  · rw [if_neg c]
    by_cases c0 : i = 0
    · rw [if_pos c0, if_pos c0]
    · rw [if_neg c0, if_neg c0]
      unfold putF
      rw [if_neg (by omega)]
theorem nowL_set0 {U U' : List Nat} {hd hd' : ByteArray} {F : Int → Option ByteArray} {L : List ByteArray} : nowL U' hd' F L = (nowL U hd F L).set 0 (firstW U' hd') := by
  refine List.ext_getElem (by rw [List.length_set, nowL_len, nowL_len]) fun i h1 h2 => ?_
  rw [List.getElem_set, nowL_at, nowL_at]
  by_cases c : 0 = i
  · rw [if_pos c.symm, if_pos c]
  · rw [if_neg (by omega), if_neg c, if_neg (by omega)]
theorem nowL_new {L : List ByteArray} (h1 : 1 ≤ L.length) (hs : ∀ s ∈ L, s.size = 256) : nowL (U0 (L.getD 0 ⟨#[]⟩)) ((L.getD 0 ⟨#[]⟩).extract 20 (L.getD 0 ⟨#[]⟩).size) (fun _ => none) L = L := by
  refine List.ext_getElem (nowL_len _ _ _ _) fun i h2 h3 => ?_
  rw [nowL_at]
  by_cases c : i = 0
  · subst c
    rw [if_pos rfl, first_U0 (hs _ (List.mem_of_getElem? (getD_some (by omega)))), List.getD_eq_getElem?_getD, List.getElem?_eq_getElem h3]; rfl
  · rw [if_neg c]
    show L.getD i _ = _
    rw [List.getD_eq_getElem?_getD, List.getElem?_eq_getElem h3]; rfl
structure Rel (X : P8) (U : List Nat) (hd : ByteArray) (F : Int → Option ByteArray) (ov : Bool) (L : List ByteArray) (PN : List Nt) : Prop where
  xo : X.ov = ov
  xn : ov = false → X.now = nowL U hd F L
  xb : ov = false → X.base = L
  xt : ov = false → X.nts = PN.map fun x => nowL x.U x.hd x.F L
def Pg8 (B N : Nat) (w : World) (t c : Nat) (X : P8) (G : Pg) (k : Int) (S : Nat → Prop) : Prop :=
  ∃ mp q mb p b v u U hd F vn PN ov C E D, Pn B N w t c mp q mb p b v u U hd F vn PN ov C E G D ∧ GoodK C.K G.L ∧ HB C (100 * k) ∧ Dg D G k ∧ (∀ s ∈ G.L, s.size = 256) ∧ Rel X U hd F ov G.L PN ∧ (PN.length : Int) ≤ k ∧ ∀ j, S j ↔ fpN t c mp q mb p b v u vn PN E j
theorem FOk.put {N : Nat} {F : Int → Option ByteArray} {n : Int} {s : ByteArray} (h : FOk N F) (h0 : 0 < n) (h1 : n < (N : Int)) (hs : s.size = 256) : FOk N (putF F n s) := by
  intro m x hx
  unfold putF at hx
  split at hx
  · rename_i e
    cases hx
    exact ⟨by omega, by omega, hs⟩
  · exact h m x hx
theorem filt_map {α : Type} {l : List Nat} {a b P : Nat → Bool} {f g : Nat → α} (h : ∀ n ∈ l, P n = (b n && a n)) (hf : ∀ n ∈ l, P n = true → f n = g n) : ((l.filter a).filter b).map f = (l.filter P).map g := by
  induction l with
  | nil => rfl
  | cons n l ih =>
    have ih := ih (fun m hm => h m (List.mem_cons_of_mem _ hm)) fun m hm => hf m (List.mem_cons_of_mem _ hm)
    have h0 := h n (List.mem_cons_self ..)
    have f0 := hf n (List.mem_cons_self ..)
    cases ha : a n with
    | false =>
      rw [ha, Bool.and_false] at h0
      rw [List.filter_cons_of_neg (by rw [ha]; decide), List.filter_cons_of_neg (by rw [h0]; decide)]
      exact ih
    | true =>
      rw [ha, Bool.and_true] at h0
      rw [List.filter_cons_of_pos ha]
      cases hb : b n with
      | false =>
        rw [hb] at h0
        rw [List.filter_cons_of_neg (by rw [hb]; decide), List.filter_cons_of_neg (by rw [h0]; decide)]
        exact ih
      | true =>
        rw [hb] at h0
        rw [List.filter_cons_of_pos hb, List.filter_cons_of_pos h0, List.map_cons, List.map_cons, ih, f0 h0]
section
variable {B N : Nat} {W w w' : World} {t c mp q mb p b m : Nat} {U : List Nat} {hd : ByteArray} {F : Int → Option ByteArray} {vn v u vk va vl : Value} {PN : List Nt} {ov : Bool} {C : Ca} {E : List (Nat × Ch)} {G : Pg} {D : Dv} {Q : Value → World → Prop} {K : Value → M} {X : P8} {k : Int} {S T : Nat → Prop} {L : List ByteArray}
theorem Rel.n0 (h : Rel X U hd F false L PN) (h1 : 1 ≤ L.length) : n0 X = firstW U hd := by
  unfold Go.Proofs.YtongpnolikkknaaGreatDoor.n0
  rw [h.xn rfl, nowL_get (by omega), if_pos rfl]
theorem Rel.thr (h : Rel X U hd F ov L PN) (hU : UOk U) (h1 : 1 ≤ L.length) (n : Int) : thrB U L.length ov n = thr8 X n := by
  unfold thr8
  rw [h.xo]
  cases ov with
  | true => unfold thrB; rw [if_pos rfl, if_pos rfl]
  | false => rw [h.n0 h1, U0_first hU, h.xn rfl, nowL_len]
theorem Rel.rd (h : Rel X U hd F ov L PN) (hU : UOk U) (h1 : 1 ≤ L.length) (n : Int) : rdW U F L ov n = rd8 X n := by
  unfold rdW rd8
  rw [h.thr hU h1]
  by_cases ce : thr8 X n = 0
  · rw [if_neg (fun hn => hn ce), if_neg (fun hn => hn ce)]
    obtain ⟨ho, n0, n1, _⟩ := thr_ok (by rw [h.thr hU h1]; exact ce : thrB U L.length ov n = 0)
    subst ho
    obtain ⟨n, rfl⟩ := Int.eq_ofNat_of_zero_le (show 0 ≤ n by omega)
    rw [Int.toNat_natCast, h.xn rfl, nowL_get (by omega), if_neg (by omega)]
  · rw [if_pos ce, if_pos ce]
theorem range_succ0 (M : Nat) : List.range (M + 1) = 0 :: (List.range M).map Nat.succ := List.range_succ_eq_map
theorem Rel.chs (h : Rel X U hd F false L PN) (hU : UOk U) (hL : L.length = N) (h1 : 1 ≤ N) (fo : FOk N F) : chsD N U hd F L = (ch8 X).map fun (j : Nat) => ((j : Int), X.now.getD j ⟨#[]⟩) := by
  have e0 := h.n0 (by omega)
  have en := h.xn rfl
  have eb := h.xb rfl
  have ech : ch8 X = chL X N := by unfold ch8; rw [if_neg (by rw [h.xo]; intro h; cases h), en, nowL_len, hL]
  rw [ech]
  obtain ⟨M, rfl⟩ : ∃ M, N = M + 1 := ⟨N - 1, by omega⟩
  unfold chsD chL keysF chK
  rw [range_succ0]
  have hF0 : (F ((0 : Nat) : Int)).isSome = false := by
    cases hf : F ((0 : Nat) : Int) with
    | none => rfl
    | some s => exact absurd (fo _ s hf).1 (by decide)
  rw [List.filter_cons_of_neg (by rw [hF0]; decide)]
  have main : ((((List.range M).map Nat.succ).filter fun (i : Nat) => (F (i : Int)).isSome).filter (cK U F L)).map (fun (n : Nat) => ((n : Int), fG F (n : Int))) = (((List.range M).map Nat.succ).filter (chP X)).map fun (j : Nat) => ((j : Int), X.now.getD j ⟨#[]⟩) := by
    have hmem : ∀ n ∈ (List.range M).map Nat.succ, 0 < n ∧ n < L.length := fun n hn => by
      obtain ⟨i, hi, rfl⟩ := List.mem_map.1 hn
      have := List.mem_range.1 hi
      exact ⟨Nat.succ_pos _, by rw [hL]; exact Nat.succ_lt_succ this⟩
    have hP : ∀ n ∈ (List.range M).map Nat.succ, chP X n = (cK U F L n && (F (n : Int)).isSome) := fun n hn => by
      obtain ⟨a0, a1⟩ := hmem n hn
      unfold chP cK fG
      rw [e0, U0_first hU, en, eb, nowL_get a1, if_neg (by omega), decide_eq_false (show ¬ n = 0 by omega), Bool.false_or]
      cases F (n : Int) with
      | none =>
        show (isB U n && decide (L.getD n ⟨#[]⟩ ≠ L.getD n ⟨#[]⟩)) = _
        rw [decide_eq_false (fun hne => hne rfl)]
        simp
      | some s =>
        show (isB U n && decide (s ≠ L.getD n ⟨#[]⟩)) = ((isB U n && decide (L.getD n ⟨#[]⟩ ≠ s)) && true)
        rw [Bool.and_true]
        congr 1
        exact decide_eq_decide.2 ⟨fun h e => h e.symm, fun h e => h e.symm⟩
    refine filt_map hP fun n hn hp => ?_
    obtain ⟨a0, a1⟩ := hmem n hn
    rw [hP n hn] at hp
    unfold fG
    rw [en, nowL_get a1, if_neg (by omega)]
    cases hf : F (n : Int) with
    | none => rw [hf] at hp; simp at hp
    | some s => rfl
  rw [main]
  have hP0 : chP X 0 = decide (L.getD 0 ⟨#[]⟩ ≠ firstW U hd) := by
    unfold chP
    rw [decide_eq_true rfl, Bool.true_or, Bool.true_and, en, eb, nowL_get (by omega), if_pos rfl]
    exact decide_eq_decide.2 ⟨fun h e => h e.symm, fun h e => h e.symm⟩
  unfold ch0
  by_cases hc : L.getD 0 ⟨#[]⟩ = firstW U hd
  · rw [if_neg (fun hn => hn hc)]
    rw [decide_eq_false (fun hn => hn hc)] at hP0
    rw [List.filter_cons_of_neg (by rw [hP0]; decide)]; rfl
  · rw [if_pos hc]
    rw [decide_eq_true hc] at hP0
    rw [List.filter_cons_of_pos hP0, List.map_cons, en, nowL_get (by omega), if_pos rfl]; rfl
theorem Pg8.lt (h : Pg8 B N w t c X G k S) : ∀ j, S j → B ≤ j ∧ j < w.heap.size := by
  obtain ⟨mp, q, mb, p, b, v, u, U, hd, F, vn, PN, ov, C, E, D, h1, h2, h3, h4, h5, h6, h7, h8⟩ := h
  exact fun j hj => h1.lt j ((h8 j).1 hj)
theorem HB.mono {k k' : Int} (h : HB C k) (hk : k ≤ k') : HB C k' := by unfold HB at h ⊢; omega
theorem Pg8.mono (h : Pg8 B N w t c X G k S) {k' : Int} (hk : k ≤ k') : Pg8 B N w t c X G k' S := by
  obtain ⟨mp, q, mb, p, b, v, u, U, hd, F, vn, PN, ov, C, E, D, h1, h2, h3, h4, h5, h6, h7, h8⟩ := h
  exact ⟨mp, q, mb, p, b, v, u, U, hd, F, vn, PN, ov, C, E, D, h1, h2, h3.mono (by omega), h4.mono hk, h5, h6, by omega, h8⟩
theorem Pg8.chg (h : Pg8 B N w t c X G k S) (hc : ChgS T w w') (hT : ∀ j, S j → ¬ T j) : Pg8 B N w' t c X G k S := by
  obtain ⟨mp, q, mb, p, b, v, u, U, hd, F, vn, PN, ov, C, E, D, h1, h2, h3, h4, h5, h6, h7, h8⟩ := h
  exact ⟨mp, q, mb, p, b, v, u, U, hd, F, vn, PN, ov, C, E, D, h1.chg hc fun j hj => hT j ((h8 j).2 hj), h2, h3, h4, h5, h6, h7, h8⟩
theorem Pg8.below (h : Pg8 B N w t c X G k S) (hb : Below w.heap.size w w') : Pg8 B N w' t c X G k S := h.chg (T := fun _ => False) (ChgS.of_below hb) fun _ _ hf => hf
theorem Pg8.read {n : Int} (h : Pg8 B N w t c X G k S) (h1 : 1 ≤ N) (hN : N ≤ 40) (k0 : 0 ≤ k) (k1 : k ≤ 3000)
    (kk : ∀ w' S', Pg8 B N w' t c X G (k + 1) S' → (∀ j, S' j → S j ∨ w.heap.size ≤ j) → ChgS S w w' → Q (.tuple #[.string (rd8 X n).1, .int .i64 (rd8 X n).2]) w') : f65 (pv t) (.int .i64 n) w Q := by
  obtain ⟨mp, q, mb, p, b, v, u, U, hd, F, vn, PN, ov, C, E, D, a1, a2, a3, a4, a5, a6, a7, a8⟩ := h
  have gl := a1.gl
  refine f65_s a1.wk (by omega) a2 a3 (by omega) fun w2 C2 E2 hw hg hb hE hc => ?_
  rw [a6.rd a1.wk.wk.ok (by omega)]
  have hp := a1.step hw a1.hh a1.fo gl hE (hc.mono fun j hj => .inl hj)
  refine kk w2 (fpN t c mp q mb p b v u vn PN E2) ⟨mp, q, mb, p, b, v, u, U, hd, F, vn, PN, ov, C2, E2, D, hp, hg, hb.mono (by omega), a4.mono (by omega), a5, a6, by omega, fun j => Iff.rfl⟩ (fun j hj => ?_) (hc.mono fun j hj => (a8 j).2 (.inl hj))
  rcases hj with hj | hj
  · rcases hE j hj with hj | hj
    · exact .inl ((a8 j).2 (.inl hj))
    · exact .inr hj
  · exact .inl ((a8 j).2 (.inr hj))
theorem Pg8.write {n : Int} {s : ByteArray} (h : Pg8 B N w t c X G k S) (h1 : 1 ≤ N) (hN : N ≤ 40) (k0 : 0 ≤ k) (k1 : k ≤ 3000)
    (kk : ∀ w' S', Pg8 B N w' t c (wrX X n s) G (k + 1) S' → (∀ j, S' j → S j ∨ w.heap.size ≤ j) → ChgS S w w' → Q (.int .i64 (wrE X n s)) w') : f67 (pv t) (.int .i64 n) (.string s) w Q := by
  have hmono := h.mono (show k ≤ k + 1 by omega)
  obtain ⟨mp, q, mb, p, b, v, u, U, hd, F, vn, PN, ov, C, E, D, a1, a2, a3, a4, a5, a6, a7, a8⟩ := h
  have gl := a1.gl
  have ht := a6.thr a1.wk.wk.ok (by omega) n
  refine f67_s a1.wk (by omega) (fun hne w2 b2 => ?_) (fun he hs w2 b2 => ?_) (fun he hs w2 hw hc => ?_)
  · rw [ht] at hne ⊢
    have e1 := wrE_1 (s := s) hne
    rw [← e1]
    rw [wrX_1 (by rw [e1]; exact hne)] at kk
    exact kk w2 S (hmono.below b2) (fun j hj => .inl hj) (ChgS.of_below b2)
  · rw [ht] at he
    have e1 := wrE_2 he hs
    rw [wrX_1 (by rw [e1]; decide), e1] at kk
    exact kk w2 S (hmono.below b2) (fun j hj => .inl hj) (ChgS.of_below b2)
  · obtain ⟨ho, n0, n1, _⟩ := thr_ok he
    rw [ht] at he
    have e1 := wrE_0 he hs
    rw [wrX_0 e1, e1] at kk
    subst ho
    obtain ⟨n, rfl⟩ := Int.eq_ofNat_of_zero_le (show 0 ≤ n by omega)
    rw [Int.toNat_natCast] at kk
    have hp := a1.step hw a1.hh (a1.fo.put n0 (by omega) hs) gl (fun j hj => .inl hj) (hc.mono fun j hj => .inr hj)
    refine kk w2 S ⟨mp, q, mb, p, b, v, u, U, hd, _, vn, PN, false, C, E, D, hp, a2, a3.mono (by omega), a4.mono (by omega), a5, ⟨a6.xo, fun _ => ?_, a6.xb, a6.xt⟩, by omega, a8⟩ (fun j hj => .inl hj) (hc.mono fun j hj => (a8 j).2 (.inr (.inl hj)))
    show X.now.set n s = _
    rw [a6.xn rfl, nowL_put (by omega)]
theorem Pg8.drop {n : Int} (h : Pg8 B N w t c X G k S) (h1 : 1 ≤ N) (hN : N ≤ 40) (k0 : 0 ≤ k) (k1 : k ≤ 3000)
    (kk : ∀ w' S', Pg8 B N w' t c (drX X n) G (k + 1) S' → (∀ j, S' j → S j ∨ w.heap.size ≤ j) → ChgS S w w' → Q (.int .i64 (thr8 X n)) w') : f20 (pv t) (.int .i64 n) w Q := by
  have hmono := h.mono (show k ≤ k + 1 by omega)
  obtain ⟨mp, q, mb, p, b, v, u, U, hd, F, vn, PN, ov, C, E, D, a1, a2, a3, a4, a5, a6, a7, a8⟩ := h
  have gl := a1.gl
  have ht := a6.thr a1.wk.wk.ok (by omega) n
  refine f20_s a1.wk (by omega) (fun hne w2 b2 => ?_) (fun he w2 hw hc => ?_)
  · rw [ht] at hne ⊢
    rw [drX_1 hne] at kk
    exact kk w2 S (hmono.below b2) (fun j hj => .inl hj) (ChgS.of_below b2)
  · obtain ⟨ho, n0, n1, _⟩ := thr_ok he
    rw [ht] at he
    rw [drX_0 he, he] at kk
    subst ho
    have hp := a1.step hw a1.hh a1.fo gl (fun j hj => .inl hj) (hc.mono fun j hj => .inr hj)
    refine kk w2 S ⟨mp, q, mb, p, b, v, u, _, hd, _, vn, PN, false, C, E, D, hp, a2, a3.mono (by omega), a4.mono (by omega), a5, ⟨a6.xo, fun _ => ?_, a6.xb, a6.xt⟩, by omega, a8⟩ (fun j hj => .inl hj) (hc.mono fun j hj => (a8 j).2 (.inr (.inl hj)))
    show X.now.set 0 (trnS (Go.Proofs.YtongpnolikkknaaGreatDoor.n0 X) n.toNat) = _
    rw [a6.n0 (by omega), trnS_first a1.wk.wk.ok, a6.xn rfl]
    exact (nowL_set0 (U := U) (hd := hd)).symm
theorem Pg8.take (h : Pg8 B N w t c X G k S) (h1 : 1 ≤ N) (hN : N ≤ 40) (k0 : 0 ≤ k) (k1 : k ≤ 3000)
    (k13 : X.ov = true → Pg8 B N w t c X G (k + 1) S → Q (.tuple #[.int .i64 0, .int .i64 13]) w)
    (kf : X.ov = false → ∀ n, Fre (U0 (n0 X)) N n → ∀ w' S', Pg8 B N w' t c (tkX X n) G (k + 1) S' → (∀ j, S' j → S j ∨ w.heap.size ≤ j) → ChgS S w w' → Q (.tuple #[.int .i64 ((n : Nat) : Int), .int .i64 0]) w')
    (k8 : X.ov = false → (∀ j, 1 ≤ j → j < N → isB (U0 (n0 X)) j = true) → ∀ w' S', Pg8 B N w' t c X G (k + 1) S' → (∀ j, S' j → S j ∨ w.heap.size ≤ j) → ChgS S w w' → Q (.tuple #[.int .i64 0, .int .i64 8]) w') : f18 (pv t) w Q := by
  have hmono := h.mono (show k ≤ k + 1 by omega)
  obtain ⟨mp, q, mb, p, b, v, u, U, hd, F, vn, PN, ov, C, E, D, a1, a2, a3, a4, a5, a6, a7, a8⟩ := h
  have gl := a1.gl
  refine f18_s a1.wk (by omega) (fun ho => k13 (a6.xo.trans ho) hmono) (fun ho n n1 n2 nf nall w2 hw hc => ?_) (fun ho nall w2 b2 => ?_)
  · subst ho
    have hU : U0 (Go.Proofs.YtongpnolikkknaaGreatDoor.n0 X) = U := by rw [a6.n0 (by omega), U0_first a1.wk.wk.ok]
    have hp := a1.step hw a1.hh (a1.fo.put (by omega) (by omega) (zs_size 256)) gl (fun j hj => .inl hj) (hc.mono fun j hj => .inr hj)
    refine kf a6.xo n ⟨n1, by omega, by rw [hU]; exact nf, by rw [hU]; exact nall⟩ w2 S ⟨mp, q, mb, p, b, v, u, _, hd, _, vn, PN, false, C, E, D, hp, a2, a3.mono (by omega), a4.mono (by omega), a5, ⟨a6.xo, fun _ => ?_, a6.xb, a6.xt⟩, by omega, a8⟩ (fun j hj => .inl hj) (hc.mono fun j hj => (a8 j).2 (.inr (.inl hj)))
    show (X.now.set 0 (trnS (Go.Proofs.YtongpnolikkknaaGreatDoor.n0 X) n)).set n (zs 256) = _
    rw [a6.n0 (by omega), trnS_first a1.wk.wk.ok, a6.xn rfl, nowL_put (by omega)]
    exact congrArg (·.set n (zs 256)) (nowL_set0 (U := U) (hd := hd)).symm
  · subst ho
    have hU : U0 (Go.Proofs.YtongpnolikkknaaGreatDoor.n0 X) = U := by rw [a6.n0 (by omega), U0_first a1.wk.wk.ok]
    exact k8 a6.xo (by rw [hU]; intro j j1 j2; exact nall j j1 (by omega)) w2 S (hmono.below b2) (fun j hj => .inl hj) (ChgS.of_below b2)
theorem Pg8.head (h : Pg8 B N w t c X G k S) (h1 : 1 ≤ N) (kk : Q (.string (hd8 X)) w) : f60 (pv t) w Q := by
  obtain ⟨mp, q, mb, p, b, v, u, U, hd, F, vn, PN, ov, C, E, D, a1, a2, a3, a4, a5, a6, a7, a8⟩ := h
  refine f60_s a1.wk.wk ?_
  have gl := a1.gl
  unfold hd8 at kk
  rw [a6.xo] at kk
  cases ov with
  | true =>
    rw [if_pos rfl] at kk ⊢
    exact kk
  | false =>
    rw [if_neg (by decide), a6.n0 (by omega), ext_first a1.wk.wk.ok] at kk
    rw [if_neg (by decide)]
    exact kk
theorem Pg8.setHead {s : ByteArray} (h : Pg8 B N w t c X G k S) (h1 : 1 ≤ N) (k0 : 0 ≤ k)
    (kk : ∀ w' S', Pg8 B N w' t c (shX X s) G (k + 1) S' → (∀ j, S' j → S j ∨ w.heap.size ≤ j) → ChgS S w w' → Q (.int .i64 (shE X s)) w') : f68 (pv t) (.string s) w Q := by
  have hmono := h.mono (show k ≤ k + 1 by omega)
  obtain ⟨mp, q, mb, p, b, v, u, U, hd, F, vn, PN, ov, C, E, D, a1, a2, a3, a4, a5, a6, a7, a8⟩ := h
  have gl := a1.gl
  refine f68_s a1.wk (fun ho => ?_) (fun ho hs => ?_) (fun ho hs w2 hw hc => ?_)
  · have e1 := shE_13 (s := s) (a6.xo.trans ho)
    rw [shX_1 (by rw [e1]; decide), e1] at kk
    exact kk w S hmono (fun j hj => .inl hj) (ChgS.refl _ _)
  · have e1 := shE_3 (s := s) (a6.xo.trans ho) hs
    rw [shX_1 (by rw [e1]; decide), e1] at kk
    exact kk w S hmono (fun j hj => .inl hj) (ChgS.refl _ _)
  · have e1 := shE_0 (s := s) (a6.xo.trans ho) hs
    rw [shX_0 e1, e1] at kk
    subst ho
    have hp := a1.step hw (by rw [ByteArray.size_append, zs_size]; omega) a1.fo gl (fun j hj => .inl hj) (hc.mono fun j hj => .inr hj)
    refine kk w2 S ⟨mp, q, mb, p, b, v, u, _, _, _, vn, PN, false, C, E, D, hp, a2, a3.mono (by omega), a4.mono (by omega), a5, ⟨a6.xo, fun _ => ?_, a6.xb, a6.xt⟩, by omega, a8⟩ (fun j hj => .inl hj) (hc.mono fun j hj => (a8 j).2 (.inr (.inl hj)))
    show X.now.set 0 ((Go.Proofs.YtongpnolikkknaaGreatDoor.n0 X).extract 0 20 ++ s ++ zs (236 - s.size)) = _
    rw [a6.n0 (by omega), head_first a1.wk.wk.ok, ByteArray.append_assoc, a6.xn rfl]
    exact (nowL_set0 (U := U) (hd := hd)).symm
theorem Pg8.save (h : Pg8 B N w t c X G k S) (h1 : 1 ≤ N) (k0 : 0 ≤ k) (k1 : k ≤ 3000) (hB : B ≤ w.heap.size)
    (kk : ∀ w' S', Pg8 B N w' t c (svX X) G (k + 1) S' → (∀ j, S' j → S j ∨ w.heap.size ≤ j) → ChgS S w w' → Q (.int .i64 (svE X)) w') : f64 (pv t) w Q := by
  have hmono := h.mono (show k ≤ k + 1 by omega)
  obtain ⟨mp, q, mb, p, b, v, u, U, hd, F, vn, PN, ov, C, E, D, a1, a2, a3, a4, a5, a6, a7, a8⟩ := h
  have gl := a1.gl
  refine f64_s a1 hB (by omega) (fun ho => ?_) (fun ho w2 vn2 m2 hp fr zm hc => ?_)
  · have e1 : svE X = 0 := by unfold svE; rw [if_pos (a6.xo.trans ho)]
    have e2 : svX X = X := by unfold svX; rw [if_pos (a6.xo.trans ho)]
    rw [e1, e2] at kk
    exact kk w S hmono (fun j hj => .inl hj) (ChgS.refl _ _)
  · have hov : ¬ X.ov = true := by rw [a6.xo, ho]; intro h; cases h
    have e1 : svE X = (PN.length : Nat) := by
      unfold svE
      rw [if_neg hov, a6.xt ho, List.length_map]
    have e2 : svX X = { X with nts := X.nts ++ [X.now] } := by unfold svX; rw [if_neg hov]
    rw [e1, e2] at kk
    refine kk w2 (fpN t c mp q mb p b v u vn2 (PN ++ [⟨U, hd, m2, F⟩]) E) ⟨mp, q, mb, p, b, v, u, U, hd, F, vn2, _, ov, C, E, D, hp, a2, a3.mono (by omega), a4.mono (by omega), a5, ⟨a6.xo, a6.xn, a6.xb, fun ho => ?_⟩, by rw [List.length_append]; simp only [List.length_cons, List.length_nil]; omega, fun j => Iff.rfl⟩ (fun j hj => ?_) (hc.mono fun j hj => ?_)
    · show X.nts ++ [X.now] = _
      rw [List.map_append, ← a6.xt ho, a6.xn ho]; rfl
    · rcases hj with hj | hj | hj | ⟨x, hx, hj⟩
      · exact .inl ((a8 j).2 (.inl hj))
      · exact .inl ((a8 j).2 (.inr (.inl hj)))
      · rcases fr j hj with hj | hj
        · exact .inl ((a8 j).2 (.inr (.inr (.inl hj))))
        · exact .inr hj
      · rcases List.mem_append.1 hx with hx | hx
        · exact .inl ((a8 j).2 (.inr (.inr (.inr ⟨x, hx, hj⟩))))
        · rw [List.mem_singleton.1 hx] at hj
          have hj : m2 = j := hj
          exact .inr (by omega)
    · rcases hj with hj | hj
      · exact (a8 j).2 (.inr (.inl (.inl hj)))
      · exact (a8 j).2 (.inr (.inr (.inl hj)))
theorem Pg8.back {n : Int} (h : Pg8 B N w t c X G k S) (h1 : 1 ≤ N) (k0 : 0 ≤ k) (k1 : k ≤ 3000) (hB : B ≤ w.heap.size)
    (kk : ∀ w' S', Pg8 B N w' t c (bkX X n) G (k + 1) S' → (∀ j, S' j → S j ∨ w.heap.size ≤ j) → ChgS S w w' → Q (.int .i64 (bkE X n)) w') : f66 (pv t) (.int .i64 n) w Q := by
  have hmono := h.mono (show k ≤ k + 1 by omega)
  obtain ⟨mp, q, mb, p, b, v, u, U, hd, F, vn, PN, ov, C, E, D, a1, a2, a3, a4, a5, a6, a7, a8⟩ := h
  have gl := a1.gl
  refine f66_s a1 hB (by omega) (fun ho => ?_) (fun ho hn => ?_) (fun ho i hi e w2 vn2 m2 hp eb zm hc => ?_)
  · have e1 := bkE_13 (k := n) (a6.xo.trans ho)
    rw [bkX_1 (by rw [e1]; decide), e1] at kk
    exact kk w S hmono (fun j hj => .inl hj) (ChgS.refl _ _)
  · have e1 := bkE_7 (k := n) (a6.xo.trans ho) (by rw [a6.xt ho, List.length_map]; exact hn)
    rw [bkX_1 (by rw [e1]; decide), e1] at kk
    exact kk w S hmono (fun j hj => .inl hj) (ChgS.refl _ _)
  · subst e
    have hnl : X.nts.length = PN.length := by rw [a6.xt ho, List.length_map]
    have e1 := bkE_0 (k := (i : Int)) (a6.xo.trans ho) (by omega) (by omega)
    rw [bkX_0 e1, e1, Int.toNat_natCast] at kk
    refine kk w2 (fpN t c m2 q mb p b v u vn2 (PN.take (i + 1)) E) ⟨m2, q, mb, p, b, v, u, _, _, _, vn2, _, ov, C, E, D, hp, a2, a3.mono (by omega), a4.mono (by omega), a5, ⟨a6.xo, fun ho => ?_, a6.xb, fun ho => ?_⟩, by rw [List.length_take]; omega, fun j => Iff.rfl⟩ (fun j hj => ?_) (hc.mono fun j hj => (a8 j).2 (.inr (.inl (.inl hj))))
    · show X.nts.getD i [] = _
      rw [a6.xt ho, List.getD_eq_getElem?_getD, List.getElem?_map, List.getElem?_eq_getElem hi]; rfl
    · show X.nts.take (i + 1) = _
      rw [a6.xt ho, List.map_take]
    · rcases hj with hj | (hj | hj) | hj | ⟨x, hx, hj⟩
      · exact .inl ((a8 j).2 (.inl hj))
      · exact .inl ((a8 j).2 (.inr (.inl (.inl hj))))
      · have hj : j = m2 := hj
        exact .inr (by omega)
      · exact .inl ((a8 j).2 (.inr (.inr (.inl (by rw [← eb]; exact hj)))))
      · exact .inl ((a8 j).2 (.inr (.inr (.inr ⟨x, List.mem_of_mem_take hx, hj⟩))))
theorem Pg8.used (h : Pg8 B N w t c X G k S) (h1 : 1 ≤ N) (hN : N ≤ 40) (kk : ∀ w', Pg8 B N w' t c X G k S → Below w.heap.size w w' → Q (.int .i64 ((us8 X : Nat) : Int)) w') : f19 (pv t) w Q := by
  have h0 := h
  obtain ⟨mp, q, mb, p, b, v, u, U, hd, F, vn, PN, ov, C, E, D, a1, a2, a3, a4, a5, a6, a7, a8⟩ := h
  have gl := a1.gl
  unfold us8 at kk
  refine f19_s a1.wk (by omega) (fun ho => ?_) (fun ho w2 b2 => ?_)
  · rw [if_pos (a6.xo.trans ho)] at kk
    exact kk w h0 (Below.refl _ _)
  · subst ho
    have hU : U0 (Go.Proofs.YtongpnolikkknaaGreatDoor.n0 X) = U := by rw [a6.n0 (by omega), U0_first a1.wk.wk.ok]
    rw [if_neg (by rw [a6.xo]; decide), hU, a6.xn rfl, nowL_len] at kk
    exact kk w2 (h0.below b2) b2
theorem Pg8.changed (h : Pg8 B N w t c X G k S) (h1 : 1 ≤ N) (hN : N ≤ 40) (k0 : 0 ≤ k) (k1 : k ≤ 3000) (hB : B ≤ w.heap.size)
    (kk : ∀ w' S' v', Pg8 B N w' t c X G (k + 1) S' → (∀ j, S' j → S j ∨ w.heap.size ≤ j) → ChgS S w w' → ownI w.heap.size 3 .i64 w' v' ((ch8 X).map fun (j : Nat) => (j : Int)) → (∀ g, v'.ownBlock = some g → ¬ S' g) → Q v' w') : f62 (pv t) w Q := by
  have hmono := h.mono (show k ≤ k + 1 by omega)
  have hlt := h.lt
  obtain ⟨mp, q, mb, p, b, v, u, U, hd, F, vn, PN, ov, C, E, D, a1, a2, a3, a4, a5, a6, a7, a8⟩ := h
  have gl := a1.gl
  refine f62_s a1.wk gl h1 (by omega) a1.fo (by have := a1.hh; omega) a2 a3 (by omega) hB (fun ho => ?_) (fun ho w2 C2 E2 vl hw hg hb hE hc o2 s2 => ?_)
  · have e1 : ch8 X = [] := by unfold ch8; rw [if_pos (a6.xo.trans ho)]
    rw [e1] at kk
    exact kk w S _ hmono (fun j hj => .inl hj) (ChgS.refl _ _) ownI_nil fun g hg => by cases hg
  · subst ho
    have hp := a1.step hw a1.hh a1.fo gl hE (hc.mono fun j hj => .inl hj)
    have ec := a6.chs a1.wk.wk.ok gl h1 a1.fo
    rw [ec, List.map_map] at o2
    refine kk w2 (fpN t c mp q mb p b v u vn PN E2) vl ⟨mp, q, mb, p, b, v, u, U, hd, F, vn, PN, false, C2, E2, D, hp, hg, hb.mono (by omega), a4.mono (by omega), a5, a6, by omega, fun j => Iff.rfl⟩ (fun j hj => ?_) (hc.mono fun j hj => (a8 j).2 (.inl hj)) o2 fun g hg hn => ?_
    · rcases hj with hj | hj
      · rcases hE j hj with hj | hj
        · exact .inl ((a8 j).2 (.inl hj))
        · exact .inr hj
      · exact .inl ((a8 j).2 (.inr hj))
    · rcases hn with hn | hn
      · exact s2 g hg hn
      · have := (hlt g ((a8 g).2 (.inr hn))).2
        have := (ownI_lt o2 g hg).1
        omega
theorem Pg8.commit (h : Pg8 B N w t c X G k S) (h1 : 1 ≤ N) (hN : N ≤ 40) (k0 : 0 ≤ k) (k1 : k ≤ 3000) (hB : B ≤ w.heap.size)
    (kk : ∀ w' S' G', Pg8 B N w' t c (cmX X) G' (k + 1) S' → G'.L = cmL X G.L → (∀ j, S' j → S j ∨ w.heap.size ≤ j) → ChgS S w w' → Q (.int .i64 (cmE8 X)) w') : f69 (pv t) w Q := by
  have hmono := h.mono (show k ≤ k + 1 by omega)
  obtain ⟨mp, q, mb, p, b, v, u, U, hd, F, vn, PN, ov, C, E, D, a1, a2, a3, a4, a5, a6, a7, a8⟩ := h
  have gl := a1.gl
  have fpS : ∀ E2, (∀ j, fpX c q mb p b v u E2 j → fpX c q mb p b v u E j ∨ w.heap.size ≤ j) → ∀ j, fpN t c mp q mb p b v u vn PN E2 j → S j ∨ w.heap.size ≤ j := fun E2 hE j hj => by
    rcases hj with hj | hj
    · rcases hE j hj with hj | hj
      · exact .inl ((a8 j).2 (.inl hj))
      · exact .inr hj
    · exact .inl ((a8 j).2 (.inr hj))
  have fpC : ∀ {w2}, ChgS (fun j => fpX c q mb p b v u E j ∨ fpW t mp j) w w2 → ChgS S w w2 := fun hc => hc.mono fun j hj => by
    rcases hj with hj | hj
    · exact (a8 j).2 (.inl hj)
    · exact (a8 j).2 (.inr (.inl hj))
  refine f69_s a1 h1 (by omega) a2 a3 (by omega) a4 k1 hB (fun ho => ?_) (fun ho hl w2 C2 E2 hp hg hb hE hc => ?_) (fun ho hl w2 C2 E2 G2 D2 hp eL hg hb hd2 hE hc => ?_)
  · have e1 : cmE8 X = 13 := by unfold cmE8; rw [if_pos (a6.xo.trans ho)]
    have e2 : cmX X = X := by unfold cmX; rw [if_neg (by rw [e1]; decide)]
    have e3 : cmL X G.L = G.L := by unfold cmL; rw [if_neg (by rw [e1]; decide)]
    rw [e1, e2, e3] at kk
    exact kk w S G hmono rfl (fun j hj => .inl hj) (ChgS.refl _ _)
  · subst ho
    rw [a6.chs a1.wk.wk.ok gl h1 a1.fo, List.length_map] at hl
    have hov : ¬ X.ov = true := by rw [a6.xo]; intro h; cases h
    have e1 : cmE8 X = 3 := by unfold cmE8; rw [if_neg hov, if_pos hl]
    have e2 : cmX X = X := by unfold cmX; rw [if_neg (by rw [e1]; decide)]
    have e3 : cmL X G.L = G.L := by unfold cmL; rw [if_neg (by rw [e1]; decide)]
    rw [e1, e2, e3] at kk
    exact kk w2 (fpN t c mp q mb p b v u vn PN E2) G ⟨mp, q, mb, p, b, v, u, U, hd, F, vn, PN, false, C2, E2, D, hp, hg, hb.mono (by omega), a4.mono (by omega), a5, a6, by omega, fun j => Iff.rfl⟩ rfl (fpS E2 hE) (fpC hc)
  · subst ho
    have ech := a6.chs a1.wk.wk.ok gl h1 a1.fo
    have hl' : (ch8 X).length ≤ 31 := by rw [ech, List.length_map] at hl; exact hl
    have hov : ¬ X.ov = true := by rw [a6.xo]; intro h; cases h
    have e1 : cmE8 X = 0 := by unfold cmE8; rw [if_neg hov, if_neg (by omega)]
    have e2 : cmX X = { X with ov := true } := by unfold cmX; rw [if_pos e1]
    have e3 : cmL X G.L = setL G.L (chsD N U hd F G.L) := by unfold cmL; rw [if_pos e1, stD_setL, ech]
    rw [e1, e2, e3] at kk
    have hsz := setL_sz (cs := chsD N U hd F G.L) a5 (chs_ok a1.wk.wk.ok a1.hh a1.fo h1 G.L).2.2
    exact kk w2 (fpN t c mp q mb p b v u vn PN E2) G2 ⟨mp, q, mb, p, b, v, u, U, hd, F, vn, PN, true, C2, E2, D2, hp, hg, hb.mono (by omega), hd2, by rw [eL]; exact hsz, ⟨rfl, (fun h => by cases h), (fun h => by cases h), (fun h => by cases h)⟩, by omega, fun j => Iff.rfl⟩ eL (fpS E2 hE) (fpC hc)
/-- work begun -/
theorem pg8_new (hw : Wk B w t c mp q mb p b v u (U0 (G.L.getD 0 ⟨#[]⟩)) ((G.L.getD 0 ⟨#[]⟩).extract 20 (G.L.getD 0 ⟨#[]⟩).size) (fun _ => none) (.slice none 0 0) false C E G D) (hg : GoodK C.K G.L) (hb : HB C (100 * k)) (hd' : Dg D G k) (hs : ∀ s ∈ G.L, s.size = 256) (gl : G.L.length = N) (h1 : 1 ≤ N) (k0 : 0 ≤ k) :
    ∃ S, Pg8 B N w t c ⟨G.L, G.L, [], false⟩ G k S ∧ ∀ j, S j ↔ (fpX c q mb p b v u E j ∨ fpW t mp j) := by
  have h0 := hs _ (List.mem_of_getElem? (getD_some (L := G.L) (n := 0) (by omega)))
  refine ⟨fpN t c mp q mb p b v u (.slice none 0 0) [] E, ⟨mp, q, mb, p, b, v, u, _, _, _, _, [], false, C, E, D, ⟨hw, ?_, (fun n s h => by cases h), gl, ownE_nil, (fun x hx => by simp at hx), (fun g hg => by cases hg)⟩, hg, hb, hd', hs, ⟨rfl, fun _ => ?_, fun _ => rfl, fun _ => rfl⟩, by simpa using k0, fun j => Iff.rfl⟩, fun j => ⟨fun hj => ?_, fun hj => ?_⟩⟩
  · rw [ByteArray.size_extract]; omega
  · exact (nowL_new (by omega) hs).symm
  · rcases hj with hj | hj | hj | ⟨x, hx, hj⟩
    · exact .inl hj
    · exact .inr hj
    · cases hj
    · simp at hx
  · rcases hj with hj | hj
    · exact .inl hj
    · exact .inr (.inl hj)
theorem Pg8.begin (h : Pg8 B N w t c X G k S) (h1 : 1 ≤ N) (hN : N ≤ 40) (k0 : 0 ≤ k) (k1 : k ≤ 3000)
    (kk : ∀ w' t' S', Pg8 B N w' t' c ⟨G.L, G.L, [], false⟩ G (k + 1) S' → (∀ j, S' j → S j ∨ w.heap.size ≤ j) → ChgS S w w' → Q (.tuple #[pv t', .int .i64 0]) w') : f16 (pv c) w Q := by
  obtain ⟨mp, q, mb, p, b, v, u, U, hd, F, vn, PN, ov, C, E, D, a1, a2, a3, a4, a5, a6, a7, a8⟩ := h
  have gl := a1.gl
  obtain ⟨b1, b2, b3, b4⟩ := a3
  refine begin_s a1.wk.cp a2 a5 (by omega) b1 (by omega) b3 (by omega) fun w2 t2 mp2 E2 hw hg hE hc zt zm => ?_
  obtain ⟨S2, hp, hS⟩ := pg8_new (k := k + 1) hw hg (HB.mono (k := 100 * k + 1) (rdC_bd ⟨b1, b2, b3, b4⟩) (show 100 * k + 1 ≤ 100 * (k + 1) by omega)) (a4.mono (by omega)) a5 gl h1 (by omega)
  refine kk w2 t2 S2 hp (fun j hj => ?_) (hc.mono fun j hj => (a8 j).2 (.inl hj))
  rcases (hS j).1 hj with hj | hj | hj
  · rcases hE j hj with hj | hj
    · exact .inl ((a8 j).2 (.inl hj))
    · exact .inr hj
  · have hj : j = t2 := hj
    exact .inr (by omega)
  · have hj : j = mp2 := hj
    exact .inr (by omega)
theorem Pg8.pages (h : Pg8 B N w t c X G k S) (kk : Q (.int .i64 ((N : Nat) : Int)) w) : f28 (pv c) w Q := by
  obtain ⟨mp, q, mb, p, b, v, u, U, hd, F, vn, PN, ov, C, E, D, a1, a2, a3, a4, a5, a6, a7, a8⟩ := h
  refine a1.wk.pages ?_
  rw [a1.gl]
  exact kk
end
end Go.Proofs.YtongpnolikkknaaGreatDoor

set_option maxRecDepth 20000
set_option maxHeartbeats 4000000
namespace Go.Proofs.YtongpnolikkknaaGreatDoor
open Sh RowKit Go.MapKept
structure Op8 where
  k : Int
  n : Int
  b : Int
def oOp8 : RepT Op8 := fun _ cs x => cs = [.int .i64 x.k, .int .i64 x.n, .int .u8 x.b]
theorem oOp8_st : Stable oOp8 := fun _ _ _ _ _ h => h
theorem buildW8 (p1 : Option Addr) (l1 c1 : Nat) (p2 : Option Addr) (l2 c2 : Nat) (w : World) : (Instr.build 151 #[(0, .slice p1 l1 c1), (1, .slice p2 l2 c2)]).run Tryz.prog w = .ok (.agg #[.slice p1 l1 c1, .slice p2 l2 c2, .slice none 0 0, .bool false]) w := by
  kernel_rfl
structure Nk (X : P8) (N : Nat) (k : Int) : Prop where
  le : (X.nts.length : Int) ≤ k
  nl : ∀ l ∈ X.nts, l.length = N ∧ ∀ s ∈ l, s.size = 256
structure Bt (B N : Nat) (w : World) (x c t rp r : Nat) (up vb vn vo : Value) (vs : List Value) (X : P8) (M : List (List ByteArray)) (G : Pg) (k : Int) (S : Nat → Prop) : Prop where
  xB : B ≤ x
  hx : w.heap[x]? = some (.cells #[pv c, pv t, pv rp, pv r] 96 (0, 0))
  pg : Pg8 B N w t c X G k S
  rf : RfAt B w rp up G.L
  r8 : R8 B w r vb vn vo vs { X with nts := M }
  ok : Ok8 X N
  nk : Nk X N k
  mkk : Nk { X with nts := M } N k
  sx : ∀ j, S j → j ≠ x ∧ ¬ fpR rp up j ∧ ¬ fp8 r vb vn vo vs j
  rx : ∀ j, fpR rp up j → j ≠ x ∧ ¬ fp8 r vb vn vo vs j
  dx : ∀ j, fp8 r vb vn vo vs j → j ≠ x
def BF (x rp r : Nat) (up vb vn vo : Value) (vs : List Value) (S : Nat → Prop) : Nat → Prop := fun j => S j ∨ fpR rp up j ∨ fp8 r vb vn vo vs j ∨ j = x
def StpR (K : Int) (X X' : P8) (G G' : Pg) : Prop := (um K 8 ≠ 7 → X'.ov = X.ov ∧ X'.base = X.base ∧ G' = G) ∧ (um K 8 ≠ 7 → um K 8 ≠ 6 → ∃ l, X'.nts = X.nts ++ l)
theorem wrX_fr {X : P8} {n : Int} {s : ByteArray} : (wrX X n s).ov = X.ov ∧ (wrX X n s).base = X.base ∧ (wrX X n s).nts = X.nts := by unfold wrX; split <;> exact ⟨rfl, rfl, rfl⟩
theorem drX_fr {X : P8} {n : Int} : (drX X n).ov = X.ov ∧ (drX X n).base = X.base ∧ (drX X n).nts = X.nts := by unfold drX; split <;> exact ⟨rfl, rfl, rfl⟩
theorem shX_fr {X : P8} {s : ByteArray} : (shX X s).ov = X.ov ∧ (shX X s).base = X.base ∧ (shX X s).nts = X.nts := by unfold shX; split <;> exact ⟨rfl, rfl, rfl⟩
theorem svX_fr {X : P8} : (svX X).ov = X.ov ∧ (svX X).base = X.base ∧ (svX X).now = X.now ∧ ((svX X).nts = X.nts ∨ (svX X).nts = X.nts ++ [X.now]) := by unfold svX; split <;> exact ⟨rfl, rfl, rfl, by first | exact .inl rfl | exact .inr rfl⟩
theorem bkX_fr {X : P8} {k : Int} : (bkX X k).ov = X.ov ∧ (bkX X k).base = X.base := by unfold bkX; split <;> exact ⟨rfl, rfl⟩
theorem cmX_fr {X : P8} : (cmX X).base = X.base ∧ (cmX X).now = X.now ∧ (cmX X).nts = X.nts := by unfold cmX; split <;> exact ⟨rfl, rfl, rfl⟩
theorem Nk.mono {X X' : P8} {N : Nat} {k : Int} (h : Nk X N k) (e : X'.nts = X.nts) : Nk X' N (k + 1) := ⟨by rw [e]; have := h.le; omega, by rw [e]; exact h.nl⟩
theorem Nk.save {X : P8} {N : Nat} {k : Int} (h : Nk X N k) (ok : Ok8 X N) : Nk (svX X) N (k + 1) := by
  rcases svX_fr (X := X) with ⟨_, _, _, e | e⟩
  · exact h.mono e
  · refine ⟨by rw [e, List.length_append]; have := h.le; simp only [List.length_cons, List.length_nil]; omega, ?_⟩
    rw [e]
    intro l hl
    rcases List.mem_append.1 hl with hl | hl
    · exact h.nl l hl
    · rw [List.mem_singleton.1 hl]
      exact ⟨ok.len, ok.sz⟩
theorem bkE_ok {X : P8} {k : Int} (h : bkE X k = 0) : X.ov = false ∧ 0 ≤ k ∧ k < (X.nts.length : Int) := by
  unfold bkE at h
  split at h
  · cases h
  · rename_i ho
    split at h
    · cases h
    · rename_i hk
      exact ⟨by simpa using ho, by omega, by omega⟩
theorem bkX_ok {X : P8} {N : Nat} {k j : Int} (ok : Ok8 X N) (h : Nk X N k) : Ok8 (bkX X j) N ∧ Nk (bkX X j) N (k + 1) := by
  by_cases e : bkE X j = 0
  · obtain ⟨_, j0, j1⟩ := bkE_ok e
    rw [bkX_0 e]
    obtain ⟨j, rfl⟩ := Int.eq_ofNat_of_zero_le j0
    rw [Int.toNat_natCast]
    have hj : j < X.nts.length := by omega
    have eg : X.nts.getD j [] = X.nts[j] := by rw [List.getD_eq_getElem?_getD, List.getElem?_eq_getElem hj]; rfl
    have hm := h.nl _ (List.getElem_mem hj)
    refine ⟨⟨ok.l1, ok.l2, ?_, ?_, ok.bl⟩, ⟨?_, fun l hl => h.nl l (List.mem_of_mem_take hl)⟩⟩
    · show (X.nts.getD j []).length = N
      rw [eg]; exact hm.1
    · show ∀ s ∈ X.nts.getD j [], s.size = 256
      rw [eg]; exact hm.2
    · show ((X.nts.take (j + 1)).length : Int) ≤ k + 1
      have := h.le
      rw [List.length_take]
      omega
  · rw [bkX_1 e]
    exact ⟨ok, h.mono rfl⟩
theorem svX_ok {X : P8} {N : Nat} (ok : Ok8 X N) : Ok8 (svX X) N := by
  obtain ⟨e1, e2, e3, _⟩ := svX_fr (X := X)
  exact ⟨ok.l1, ok.l2, by rw [e3]; exact ok.len, by rw [e3]; exact ok.sz, by rw [e2]; exact ok.bl⟩
theorem cmX_ok {X : P8} {N : Nat} (ok : Ok8 X N) : Ok8 (cmX X) N := by
  obtain ⟨e1, e2, e3⟩ := cmX_fr (X := X)
  exact ⟨ok.l1, ok.l2, by rw [e2]; exact ok.len, by rw [e2]; exact ok.sz, by rw [e1]; exact ok.bl⟩
section
variable {B N : Nat} {W w w' w1 w2 : World} {x c t rp r : Nat} {up vb vn vo v vn' vo' : Value} {vs vs' : List Value} {Q : Value → World → Prop} {K : Value → Sh.M} {X X' : P8} {M M' : List (List ByteArray)} {G G' : Pg} {k : Int} {S S1 T : Nat → Prop} {L : List ByteArray}
theorem f58_s (hp : RfAt B w rp up L) (hl : L.length ≤ 1000) (kk : ∀ w' r vb vn, R8 w.heap.size w' r vb vn (.slice none 0 0) [] ⟨L, L, [], false⟩ → Below w.heap.size w w' → Q (pv r) w') : f58 (pv rp) w Q := by
  unfold f58
  have c0 : (drw w).cell? ⟨rp, 0, none⟩ = some up := hp.c0
  have c0' : w.cell? ⟨rp, 0, none⟩ = some up := hp.c0
  have hpd : RfAt B (drw w) rp up L := hp.below ⟨rfl, rfl, rfl, Nat.le_refl _, fun _ _ => rfl⟩
  try simp only [↓reduceIte, ↓LL, LM, Value.cells, Nat.reduceAdd, Option.some.injEq, exists_eq_left', decide_true, decide_false, if_true, if_false, reduceCtorEq, cond_true, cond_false, c0, c0']
  refine cpS hpd.hu (by omega) fun v1 w1 o1 b1 => ?_
  refine ⟨by rw [Kld_e]; exact cell_below b1 c0, ?_⟩
  refine cpS (hpd.below b1).hu (by omega) fun v2 w2 o2 b2 => ?_
  have o1' := ownV_below o1 b2
  obtain ⟨p1, c1, e1⟩ := ownV_len o1
  obtain ⟨p2, c2, e2⟩ := ownV_len o2
  have f1 := ownV_lt o1
  have f2 := ownV_lt o2
  subst e1
  subst e2
  rw [smr_run (buildW8 _ _ _ _ _ _ w2)]
  have b3 := b_psh w2 (.cells #[.slice p1 (L.map Value.string).length c1, .slice p2 (L.map Value.string).length c2, .slice none 0 0, .bool false] 151)
  have k3 := blk_psh_new (w := w2) (o := .cells #[.slice p1 (L.map Value.string).length c1, .slice p2 (L.map Value.string).length c2, .slice none 0 0, .bool false] 151)
  try simp only [↓reduceIte, ↓LL, LM, Value.cells, Nat.reduceAdd, Option.some.injEq, exists_eq_left', decide_true, decide_false, if_true, if_false, reduceCtorEq, cond_true, cond_false]
  generalize psh w2 (.cells #[.slice p1 (L.map Value.string).length c1, .slice p2 (L.map Value.string).length c2, .slice none 0 0, .bool false] 151) = w3 at *
  have z1 : w.heap.size ≤ w1.heap.size := b1.size
  have z2 := b2.size
  refine kk w3 w2.heap.size _ _ ⟨by omega, k3, ownV_below o1' b3, ownV_weak (ownV_below o2 b3) z1, ownV_nil, rfl, fun i v l h1 h2 => by simp at h1, fun g hg hn => ?_, fun v hv => by simp at hv⟩ ((of_drw' (bt b1 b2)).trans (b3.mono (by omega)))
  have := (f1 g hg).2.1
  have := (f2 g hn).1
  omega
theorem fill8_loop {n : Nat} {y : Int} (hn : n ≤ 1000) : ∀ (d m i : Nat) (w : World) (v : Value) (l : List Int), i + d = n → d < m → Below W.heap.size W w → ownI W.heap.size 5 .u8 w v l → l.length = n →
    (∀ w' s, s.size = n → Below W.heap.size W w' → Q (.string s) w') →
    itr (fun _ _ _ _ => bot) (f95_b2 f95_j1) m (.int .u8 y) (.int .i64 ((n : Nat) : Int)) v (.int .i64 (i : Int)) w Q := by
  intro d
  induction d with
  | zero =>
    intro m i w v l hi hm hb ho hl kk
    obtain ⟨m, rfl⟩ : ∃ x, m = x + 1 := ⟨m - 1, by omega⟩
    show f95_b2 f95_j1 _ _ _ _ _ w Q
    unfold f95_b2
    have c : ¬ (i : Int) < ((n : Nat) : Int) := by omega
    try simp only [↓reduceIte, ↓LL, LM, Value.cells, Nat.reduceAdd, Option.some.injEq, exists_eq_left', decide_true, decide_false, if_true, if_false, reduceCtorEq, cond_true, cond_false, c]
    unfold f95_j1
    refine cvb sl61 ud5 str9 (rdP_rd (ownI_rdP ho)) ?_
    try simp only [↓reduceIte, ↓LL, LM, Value.cells, Nat.reduceAdd, Option.some.injEq, exists_eq_left', decide_true, decide_false, if_true, if_false, reduceCtorEq, cond_true, cond_false]
    exact kk w _ (by rw [son_size]; exact hl) hb
  | succ d ih =>
    intro m i w v l hi hm hb ho hl kk
    obtain ⟨m, rfl⟩ : ∃ x, m = x + 1 := ⟨m - 1, by omega⟩
    show f95_b2 f95_j1 _ _ _ _ _ w Q
    unfold f95_b2
    have c : (i : Int) < ((n : Nat) : Int) := by omega
    have h3 : IntKind.i64.wrap ((i : Int) + 1) = ((i + 1 : Nat) : Int) := by rw [w64 (by omega) (by omega)]; rfl
    try simp only [↓reduceIte, ↓LL, LM, Value.cells, Nat.reduceAdd, Option.some.injEq, exists_eq_left', decide_true, decide_false, if_true, if_false, reduceCtorEq, cond_true, cond_false, c]
    refine ia_st ho (by omega) fun w' ho' hu => ?_
    obtain ⟨g, hg1, hg2, hg3, hu⟩ := hu
    try simp only [↓reduceIte, ↓LL, LM, Value.cells, Nat.reduceAdd, Option.some.injEq, exists_eq_left', decide_true, decide_false, if_true, if_false, reduceCtorEq, cond_true, cond_false, h3]
    exact ih m (i + 1) w' v _ (by omega) (by omega) (hb.trans (hu.below hg2)) ho' (by rw [List.length_set]; exact hl) kk
theorem f95_s {n : Nat} {y : Int} (hn : n ≤ 1000) (kk : ∀ w' s, s.size = n → Below w.heap.size w w' → Q (.string s) w') : f95 (.int .u8 y) (.int .i64 ((n : Nat) : Int)) w Q := by
  unfold f95
  refine mkI (n := n) (B := w.heap.size) sl61 (by omega) (by omega) (Nat.le_refl _) fun v w1 ho hb => ?_
  try simp only [↓reduceIte, ↓LL, LM, Value.cells, Nat.reduceAdd, Option.some.injEq, exists_eq_left', decide_true, decide_false, if_true, if_false, reduceCtorEq, cond_true, cond_false]
  exact ⟨_, fill8_loop (W := w) hn n (n + 1) 0 w1 v _ (by omega) (by omega) hb ho (by rw [List.length_replicate]) kk⟩
theorem f56_s {a n y : Int} (kk : ∀ w', Below w.heap.size w w' → Q (.int .i64 (um a 8)) w') : f56 (.agg #[.int .i64 a, .int .i64 n, .int .u8 y]) w Q := by
  unfold f56
  have b1 := b_psh w (.cells #[.int .i64 a, .int .i64 n, .int .u8 y] 92)
  have k1 := blk_psh_new (w := w) (o := .cells #[.int .i64 a, .int .i64 n, .int .u8 y] 92)
  try simp only [↓reduceIte, ↓LL, LM, Value.cells, Nat.reduceAdd, Option.some.injEq, exists_eq_left', decide_true, decide_false, if_true, if_false, reduceCtorEq, cond_true, cond_false]
  generalize psh w (.cells #[.int .i64 a, .int .i64 n, .int .u8 y] 92) = w1 at *
  have c0 : w1.cell? ⟨w.heap.size, 0, none⟩ = some (.int .i64 a) := by rw [cell_of_blk k1]; rfl
  have h := um_bd a (show (0 : Int) < 8 by decide)
  have e1 : (IntKind.u64.wrap a).tmod 8 = um a 8 := rfl
  have e2 : IntKind.i64.wrap (um a 8) = um a 8 := w64 (by omega) (by omega)
  have z : ¬ (8 : Int) = 0 := by decide
  try simp only [↓reduceIte, ↓LL, LM, Value.cells, Nat.reduceAdd, Option.some.injEq, exists_eq_left', decide_true, decide_false, if_true, if_false, reduceCtorEq, cond_true, cond_false, ne_eq, z, true_and, c0, e1, e2]
  exact kk w1 b1
theorem Bt.below (h : Bt B N w x c t rp r up vb vn vo vs X M G k S) (hb : Below w.heap.size w w') : Bt B N w' x c t rp r up vb vn vo vs X M G k S := ⟨h.xB, stay hb h.hx, h.pg.below hb, h.rf.below hb, h.r8.below hb, h.ok, h.nk, h.mkk, h.sx, h.rx, h.dx⟩
theorem Bt.drw (h : Bt B N w x c t rp r up vb vn vo vs X M G k S) : Bt B N (Sh.drw w) x c t rp r up vb vn vo vs X M G k S := h.below ⟨rfl, rfl, rfl, Nat.le_refl _, fun _ _ => rfl⟩
theorem Bt.mono (h : Bt B N w x c t rp r up vb vn vo vs X M G k S) {k' : Int} (hk : k ≤ k') : Bt B N w x c t rp r up vb vn vo vs X M G k' S := ⟨h.xB, h.hx, h.pg.mono hk, h.rf, h.r8, h.ok, ⟨by have := h.nk.le; omega, h.nk.nl⟩, ⟨by have := h.mkk.le; omega, h.mkk.nl⟩, h.sx, h.rx, h.dx⟩
theorem Bt.xlt (h : Bt B N w x c t rp r up vb vn vo vs X M G k S) : x < w.heap.size := blk_lt h.hx
theorem Bt.rlt (h : Bt B N w x c t rp r up vb vn vo vs X M G k S) : ∀ j, fpR rp up j → B ≤ j ∧ j < w.heap.size := by
  rintro j (rfl | hj)
  · exact ⟨h.rf.rB, blk_lt h.rf.hr⟩
  · exact ⟨(ownV_lt h.rf.hu j hj).1, (ownV_lt h.rf.hu j hj).2.1⟩
theorem Bt.mid (h : Bt B N w x c t rp r up vb vn vo vs X M G k S) (hc : ChgS S w w1) : w1.heap[x]? = some (.cells #[pv c, pv t, pv rp, pv r] 96 (0, 0)) ∧ RfAt B w1 rp up G.L ∧ R8 B w1 r vb vn vo vs { X with nts := M } :=
  ⟨hc.keep h.hx fun hn => (h.sx x hn).1 rfl, h.rf.chg hc fun j hj hn => (h.sx j hn).2.1 hj, h.r8.chg hc fun j hj hn => (h.sx j hn).2.2 hj⟩
theorem Bt.fin (h : Bt B N w x c t rp r up vb vn vo vs X M G k S) (hc1 : ChgS S w w1) (hp : Pg8 B N w1 t c X' G (k + 1) S1) (hS : ∀ j, S1 j → S j ∨ w.heap.size ≤ j) (hr : R8 B w2 r vb vn' vo' vs' { X' with nts := M' }) (hf : ∀ j, fp8 r vb vn' vo' vs' j → fp8 r vb vn vo vs j ∨ w1.heap.size ≤ j) (hc2 : ChgS (fp8 r vb vn vo vs) w1 w2) (ok' : Ok8 X' N) (nk' : Nk X' N (k + 1)) (mk' : Nk { X' with nts := M' } N (k + 1)) :
    Bt B N w2 x c t rp r up vb vn' vo' vs' X' M' G (k + 1) S1 ∧ ChgS (BF x rp r up vb vn vo vs S) w w2 ∧ ∀ j, BF x rp r up vb vn' vo' vs' S1 j → BF x rp r up vb vn vo vs S j ∨ w.heap.size ≤ j := by
  obtain ⟨m1, m2, m3⟩ := h.mid hc1
  have z1 := hc1.size
  have xl := h.xlt
  have rl := h.rlt
  have dl := h.r8.lt
  have sl := hp.lt
  refine ⟨⟨h.xB, hc2.keep m1 fun hn => h.dx x hn rfl, hp.chg hc2 fun j hj hn => ?_, m2.chg hc2 fun j hj hn => (h.rx j hj).2 hn, hr, ok', nk', mk', fun j hj => ⟨?_, ?_, ?_⟩, fun j hj => ⟨(h.rx j hj).1, fun hn => ?_⟩, fun j hj => ?_⟩, (hc1.mono fun j hj => .inl hj).trans (hc2.mono fun j hj => .inr (.inr (.inl hj))) fun _ _ h => h, fun j hj => ?_⟩
  · rcases hS j hj with hj | hj
    · exact (h.sx j hj).2.2 hn
    · have := (dl j hn).2
      omega
  · rcases hS j hj with hj | hj
    · exact (h.sx j hj).1
    · omega
  · rcases hS j hj with hj | hj
    · exact (h.sx j hj).2.1
    · intro hn
      have := (rl j hn).2
      omega
  · intro hn
    rcases hf j hn with hn | hn
    · rcases hS j hj with hj | hj
      · exact (h.sx j hj).2.2 hn
      · have := (dl j hn).2
        omega
    · have := (sl j hj).2
      omega
  · rcases hf j hn with hn | hn
    · exact (h.rx j hj).2 hn
    · have := (rl j hj).2
      omega
  · rcases hf j hj with hj | hj
    · exact h.dx j hj
    · omega
  · rcases hj with hj | hj | hj | hj
    · rcases hS j hj with hj | hj
      · exact .inl (.inl hj)
      · exact .inr hj
    · exact .inl (.inr (.inl hj))
    · rcases hf j hj with hj | hj
      · exact .inl (.inr (.inr (.inl hj)))
      · exact .inr (by omega)
    · exact .inl (.inr (.inr (.inr hj)))
theorem Bt.bfB (h : Bt B N w x c t rp r up vb vn vo vs X M G k S) : ∀ j, BF x rp r up vb vn vo vs S j → B ≤ j ∧ j < w.heap.size := by
  rintro j (hj | hj | hj | rfl)
  · exact h.pg.lt j hj
  · exact h.rlt j hj
  · exact h.r8.lt j hj
  · exact ⟨h.xB, h.xlt⟩
theorem Ok8.y (h : Ok8 X N) : Ok8 { X with nts := M } N := ⟨h.l1, h.l2, h.len, h.sz, h.bl⟩
theorem wrX_y {n : Int} {s : ByteArray} : wrX { X with nts := M } n s = { wrX X n s with nts := M } := by unfold wrX; rw [show wrE { X with nts := M } n s = wrE X n s from rfl]; split <;> rfl
theorem drX_y {n : Int} : drX { X with nts := M } n = { drX X n with nts := M } := by unfold drX; rw [show thr8 { X with nts := M } n = thr8 X n from rfl]; split <;> rfl
theorem shX_y {s : ByteArray} : shX { X with nts := M } s = { shX X s with nts := M } := by unfold shX; rw [show shE { X with nts := M } s = shE X s from rfl]; split <;> rfl
theorem svX_y : svX { X with nts := M } = { svX X with nts := (svX { X with nts := M }).nts } := by
  unfold svX
  by_cases h : X.ov = true
  · rw [if_pos h, if_pos (show ({ X with nts := M } : P8).ov = true from h)]
  · rw [if_neg h, if_neg (show ¬ ({ X with nts := M } : P8).ov = true from h)]
theorem cmX_y : cmX { X with nts := M } = { cmX X with nts := M } := by unfold cmX; rw [show cmE8 { X with nts := M } = cmE8 X from rfl]; split <;> rfl
theorem Nk.monoM {X' : P8} {k : Int} (h : Nk { X with nts := M } N k) : Nk { X' with nts := M } N (k + 1) := ⟨by have := h.le; show (M.length : Int) ≤ k + 1; have e : (({ X with nts := M } : P8).nts.length : Int) = M.length := rfl; omega, h.nl⟩
theorem f57_s {a n y : Int} (h : Bt B N w x c t rp r up vb vn vo vs X M G k S) (h1 : 1 ≤ N) (hN : N ≤ 40) (k0 : 0 ≤ k) (k1 : k ≤ 3000) (hB : B ≤ w.heap.size) (hM : um a 8 = 6 → M = X.nts)
    (kk : ∀ w' z rp' up' vn' vo' vs' X' M' G' S', Bt B N w' x c t rp' r up' vb vn' vo' vs' X' M' G' (k + 1) S' → (∀ j, BF x rp' r up' vb vn' vo' vs' S' j → BF x rp r up vb vn vo vs S j ∨ w.heap.size ≤ j) → ChgS (BF x rp r up vb vn vo vs S) w w' → StpR a X X' G G' → (M = X.nts → z = true ∧ M' = X'.nts) → Q (.bool z) w') : f57 (pv x) (.agg #[.int .i64 a, .int .i64 n, .int .u8 y]) w Q := by
  unfold f57
  have b1 := b_psh w (.cells #[.int .i64 a, .int .i64 n, .int .u8 y] 92)
  have q1 := blk_psh_new (w := w) (o := .cells #[.int .i64 a, .int .i64 n, .int .u8 y] 92)
  try simp only [↓reduceIte, ↓LL, LM, Value.cells, Nat.reduceAdd, Option.some.injEq, exists_eq_left', decide_true, decide_false, if_true, if_false, reduceCtorEq, cond_true, cond_false]
  generalize psh w (.cells #[.int .i64 a, .int .i64 n, .int .u8 y] 92) = w1 at *
  refine ldn_box q1 rfl ?_
  try simp only [↓reduceIte, ↓LL, LM, Value.cells, Nat.reduceAdd, Option.some.injEq, exists_eq_left', decide_true, decide_false, if_true, if_false, reduceCtorEq, cond_true, cond_false]
  refine f56_s fun w2 b2 => ?_
  have b12 := bt b1 b2
  have q2 := stay b2 q1
  have h2 := h.below b12
  have z2 := b12.size
  have hbd := um_bd a (show (0 : Int) < 8 by decide)
  have sb : ¬ S w.heap.size := fun hn => by have := (h.pg.lt _ hn).2; omega
  have db : ¬ fp8 r vb vn vo vs w.heap.size := fun hn => by have := (h.r8.lt _ hn).2; omega
  have fin : ∀ (w' : World) z rp' up' vn' vo' vs' X' M' G' S', Bt B N w' x c t rp' r up' vb vn' vo' vs' X' M' G' (k + 1) S' → (∀ j, BF x rp' r up' vb vn' vo' vs' S' j → BF x rp r up vb vn vo vs S j ∨ w2.heap.size ≤ j) → ChgS (BF x rp r up vb vn vo vs S) w2 w' → StpR a X X' G G' → (M = X.nts → z = true ∧ M' = X'.nts) → Q (.bool z) w' := fun w' z rp' up' vn' vo' vs' X' M' G' S' hb h3 hw hs hz => kk w' z rp' up' vn' vo' vs' X' M' G' S' hb (fun j hj => (h3 j hj).imp id fun hj => Nat.le_trans z2 hj) ((ChgS.of_below b12).trans hw fun _ _ h => h) hs hz
  clear kk
  have hB2 : B ≤ w2.heap.size := Nat.le_trans hB z2
  have pc : ∀ (w' : World), w'.heap[w.heap.size]? = some (.cells #[.int .i64 a, .int .i64 n, .int .u8 y] 92 (0, 0)) → w'.cell? ⟨w.heap.size, 1, none⟩ = some (.int .i64 n) ∧ w'.cell? ⟨w.heap.size, 2, none⟩ = some (.int .u8 y) := fun w' h => ⟨by rw [cell_of_blk h]; rfl, by rw [cell_of_blk h]; rfl⟩
  have xc : ∀ (w' : World), w'.heap[x]? = some (.cells #[pv c, pv t, pv rp, pv r] 96 (0, 0)) → w'.cell? ⟨x, 1, none⟩ = some (pv t) ∧ w'.cell? ⟨x, 2, none⟩ = some (pv rp) ∧ w'.cell? ⟨x, 3, none⟩ = some (pv r) := fun w' h => ⟨by rw [cell_of_blk h]; rfl, by rw [cell_of_blk h]; rfl, by rw [cell_of_blk h]; rfl⟩
  obtain ⟨p1, p2⟩ := pc w2 q2
  obtain ⟨x1, x2, x3⟩ := xc w2 h2.hx
  have h2d := h2.drw
  have p1d : (drw w2).cell? ⟨w.heap.size, 1, none⟩ = some (.int .i64 n) := p1
  have x1d : (drw w2).cell? ⟨x, 1, none⟩ = some (pv t) := x1
  have x2d : (drw w2).cell? ⟨x, 2, none⟩ = some (pv rp) := x2
  have x3d : (drw w2).cell? ⟨x, 3, none⟩ = some (pv r) := x3
  have bdr : ∀ {w' : World}, Below B (drw w2) w' → Below B w2 w' := fun h => ⟨h.os, h.tape, h.output, h.size, h.block⟩
  have eqs1 : ∀ s : ByteArray, decide (s = s) = true := fun s => decide_eq_true rfl
  have eqi1 : ∀ s : Int, decide (s = s) = true := fun s => decide_eq_true rfl
  have nof : ∀ {vn' : Value}, ∀ j, fp8 r vb vn vo vs j → fp8 r vb vn vo vs j ∨ vn'.ownBlock = some j := fun j hj => .inl hj
  by_cases c0 : um a 8 = 0
  · try simp only [↓reduceIte, ↓LL, LM, Value.cells, Nat.reduceAdd, Option.some.injEq, exists_eq_left', decide_true, decide_false, if_true, if_false, reduceCtorEq, cond_true, cond_false, c0, x1, x1d, p1, p1d]
    refine h2d.pg.read h1 hN k0 k1 fun w3 S3 hp hS hc => ?_
    obtain ⟨m1, m2, m3⟩ := h2d.mid hc
    have q3 := hc.keep (show (drw w2).heap[w.heap.size]? = _ from q2) sb
    obtain ⟨p3, _⟩ := pc _ q3
    obtain ⟨_, _, x33⟩ := xc _ m1
    have p3d : (drw w3).cell? ⟨w.heap.size, 1, none⟩ = some (.int .i64 n) := p3
    have x33d : (drw w3).cell? ⟨x, 3, none⟩ = some (pv r) := x33
    try simp only [↓reduceIte, ↓LL, LM, Value.cells, Nat.reduceAdd, Option.some.injEq, exists_eq_left', decide_true, decide_false, if_true, if_false, reduceCtorEq, cond_true, cond_false, get0, get1, p3, p3d, x33, x33d]
    refine f94_s m3.drw h2.ok.y ?_
    rw [show rd8 { X with nts := M } n = rd8 X n from rfl]
    try simp only [↓reduceIte, ↓LL, LM, Value.cells, Nat.reduceAdd, Option.some.injEq, exists_eq_left', decide_true, decide_false, if_true, if_false, reduceCtorEq, cond_true, cond_false, get0, get1, eqs1, eqi1]
    obtain ⟨f1, f2, f3⟩ := h2d.fin hc hp hS m3.drw (fun j hj => .inl hj) (ChgS.refl _ _).drw h2.ok (h2.nk.mono rfl) h2.mkk.monoM
    exact fin _ true rp up vn vo vs X M G S3 f1 f3 f2.of_drw ⟨fun _ => ⟨rfl, rfl, rfl⟩, fun _ _ => ⟨[], by rw [List.append_nil]⟩⟩ fun e => ⟨rfl, e⟩
  by_cases c1 : um a 8 = 1
  · have wr : ∀ (w3 : World) (s : ByteArray), Below w2.heap.size w2 w3 → f57_j1 (pv x) (.pointer (some ⟨w.heap.size, 0, none⟩)) (.string s) w3 Q := by
      intro w3 s b3
      unfold f57_j1
      have h3 := (h2.below b3).drw
      have q3 := stay b3 q2
      obtain ⟨p3, _⟩ := pc _ q3
      obtain ⟨x13, _, x33⟩ := xc _ (h2.below b3).hx
      have p3d : (drw w3).cell? ⟨w.heap.size, 1, none⟩ = some (.int .i64 n) := p3
      have x13d : (drw w3).cell? ⟨x, 1, none⟩ = some (pv t) := x13
      have x33d : (drw w3).cell? ⟨x, 3, none⟩ = some (pv r) := x33
      have hB3 : B ≤ (drw w3).heap.size := Nat.le_trans hB2 b3.size
      try simp only [↓reduceIte, ↓LL, LM, Value.cells, Nat.reduceAdd, Option.some.injEq, exists_eq_left', decide_true, decide_false, if_true, if_false, reduceCtorEq, cond_true, cond_false, p3, p3d, x13, x13d, x33, x33d]
      refine h3.pg.write h1 hN k0 k1 fun w4 S4 hp hS hc => ?_
      obtain ⟨m1, m2, m3⟩ := h3.mid hc
      have q4 := hc.keep (show (drw w3).heap[w.heap.size]? = _ from q3) sb
      obtain ⟨p4, _⟩ := pc _ q4
      obtain ⟨_, _, x34⟩ := xc _ m1
      refine ⟨by rw [Kld_e]; exact p4, ?_⟩
      refine ⟨by rw [Kld_e]; exact x34, ?_⟩
      refine f96_s m3 h2.ok.y fun w5 hr5 hc5 => ?_
      rw [show wrE { X with nts := M } n s = wrE X n s from rfl]
      rw [wrX_y] at hr5
      try simp only [↓reduceIte, ↓LL, LM, Value.cells, Nat.reduceAdd, Option.some.injEq, exists_eq_left', decide_true, decide_false, if_true, if_false, reduceCtorEq, cond_true, cond_false, eqi1]
      obtain ⟨e1, e2, e3⟩ := wrX_fr (X := X) (n := n) (s := s)
      obtain ⟨f1, f2, f3⟩ := h3.fin hc hp hS hr5 (fun j hj => .inl hj) (hc5.mono fun j hj => .inr (.inr (.inl hj))) (wrX_ok h2.ok) (h2.nk.mono e3) h2.mkk.monoM
      exact fin _ true rp up vn vo vs _ M G S4 f1 (fun j hj => (f3 j hj).imp id fun hj => Nat.le_trans b3.size hj) ((ChgS.of_below b3).trans f2.of_drw fun _ _ h => h) ⟨fun _ => ⟨e1, e2, rfl⟩, fun _ _ => ⟨[], by rw [e3, List.append_nil]⟩⟩ fun e => ⟨rfl, e.trans e3.symm⟩
    try simp only [↓reduceIte, ↓LL, LM, Value.cells, Nat.reduceAdd, Option.some.injEq, exists_eq_left', decide_true, decide_false, if_true, if_false, reduceCtorEq, cond_true, cond_false, c0, c1, p2]
    refine f95_s (n := 256) (by decide) fun w3 s hs b3 => ?_
    have q3 := stay b3 q2
    obtain ⟨_, p3⟩ := pc _ q3
    by_cases cy : y = 1
    · try simp only [↓reduceIte, ↓LL, LM, Value.cells, Nat.reduceAdd, Option.some.injEq, exists_eq_left', decide_true, decide_false, if_true, if_false, reduceCtorEq, cond_true, cond_false, p3, cy]
      rw [cy] at p3
      try simp only [↓reduceIte, ↓LL, LM, Value.cells, Nat.reduceAdd, Option.some.injEq, exists_eq_left', decide_true, decide_false, if_true, if_false, reduceCtorEq, cond_true, cond_false, p3]
      refine f95_s (n := 9) (by decide) fun w4 s2 hs2 b4 => ?_
      try simp only [↓reduceIte, ↓LL, LM, Value.cells, Nat.reduceAdd, Option.some.injEq, exists_eq_left', decide_true, decide_false, if_true, if_false, reduceCtorEq, cond_true, cond_false]
      exact wr w4 s2 (bt b3 b4)
    · try simp only [↓reduceIte, ↓LL, LM, Value.cells, Nat.reduceAdd, Option.some.injEq, exists_eq_left', decide_true, decide_false, if_true, if_false, reduceCtorEq, cond_true, cond_false, p3, cy]
      exact wr w3 s b3
  by_cases c2 : um a 8 = 2
  · try simp only [↓reduceIte, ↓LL, LM, Value.cells, Nat.reduceAdd, Option.some.injEq, exists_eq_left', decide_true, decide_false, if_true, if_false, reduceCtorEq, cond_true, cond_false, c0, c1, c2, x1]
    refine h2.pg.take h1 hN k0 k1 (fun ho hp => ?_) (fun ho m hm w3 S3 hp hS hc => ?_) (fun ho hall w3 S3 hp hS hc => ?_)
    · try simp only [↓reduceIte, ↓LL, LM, Value.cells, Nat.reduceAdd, Option.some.injEq, exists_eq_left', decide_true, decide_false, if_true, if_false, reduceCtorEq, cond_true, cond_false, get0, get1, x3]
      refine f97_s h2.r8 h2.ok.y (fun _ => ?_) (fun ho' => by rw [ho] at ho'; cases ho') (fun ho' => by rw [ho] at ho'; cases ho')
      try simp only [↓reduceIte, ↓LL, LM, Value.cells, Nat.reduceAdd, Option.some.injEq, exists_eq_left', decide_true, decide_false, if_true, if_false, reduceCtorEq, cond_true, cond_false, get0, get1]
      obtain ⟨f1, f2, f3⟩ := h2.fin (ChgS.refl _ _) hp (fun j hj => .inl hj) h2.r8 (fun j hj => .inl hj) (ChgS.refl _ _) h2.ok (h2.nk.mono rfl) h2.mkk.monoM
      exact fin _ true rp up vn vo vs X M G S f1 f3 f2 ⟨fun _ => ⟨rfl, rfl, rfl⟩, fun _ _ => ⟨[], by rw [List.append_nil]⟩⟩ fun e => ⟨rfl, e⟩
    · obtain ⟨m1, m2, m3⟩ := h2.mid hc
      obtain ⟨_, _, x33⟩ := xc _ m1
      try simp only [↓reduceIte, ↓LL, LM, Value.cells, Nat.reduceAdd, Option.some.injEq, exists_eq_left', decide_true, decide_false, if_true, if_false, reduceCtorEq, cond_true, cond_false, get0, get1, x33]
      refine f97_s m3 h2.ok.y (fun ho' => by rw [ho] at ho'; cases ho') (fun _ m' hm' w4 hr4 hc4 => ?_) (fun _ hall => absurd ((hall m hm.1 hm.2.1).symm.trans hm.2.2.1) (by decide))
      have := hm.uniq hm'
      subst this
      try simp only [↓reduceIte, ↓LL, LM, Value.cells, Nat.reduceAdd, Option.some.injEq, exists_eq_left', decide_true, decide_false, if_true, if_false, reduceCtorEq, cond_true, cond_false, get0, get1, eqi1]
      obtain ⟨f1, f2, f3⟩ := h2.fin (M' := M) hc hp hS hr4 (fun j hj => .inl hj) (hc4.mono fun j hj => .inr (.inr (.inl hj))) (tkX_ok h2.ok) (h2.nk.mono rfl) h2.mkk.monoM
      exact fin _ true rp up vn vo vs _ M G S3 f1 f3 f2 ⟨fun _ => ⟨rfl, rfl, rfl⟩, fun _ _ => ⟨[], by rw [List.append_nil]; rfl⟩⟩ fun e => ⟨rfl, e⟩
    · obtain ⟨m1, m2, m3⟩ := h2.mid hc
      obtain ⟨_, _, x33⟩ := xc _ m1
      try simp only [↓reduceIte, ↓LL, LM, Value.cells, Nat.reduceAdd, Option.some.injEq, exists_eq_left', decide_true, decide_false, if_true, if_false, reduceCtorEq, cond_true, cond_false, get0, get1, x33]
      refine f97_s m3 h2.ok.y (fun ho' => by rw [ho] at ho'; cases ho') (fun _ m' hm' w4 hr4 hc4 => absurd ((hall m' hm'.1 hm'.2.1).symm.trans hm'.2.2.1) (by decide)) (fun _ _ => ?_)
      try simp only [↓reduceIte, ↓LL, LM, Value.cells, Nat.reduceAdd, Option.some.injEq, exists_eq_left', decide_true, decide_false, if_true, if_false, reduceCtorEq, cond_true, cond_false, get0, get1]
      obtain ⟨f1, f2, f3⟩ := h2.fin hc hp hS m3 (fun j hj => .inl hj) (ChgS.refl _ _) h2.ok (h2.nk.mono rfl) h2.mkk.monoM
      exact fin _ true rp up vn vo vs X M G S3 f1 f3 f2 ⟨fun _ => ⟨rfl, rfl, rfl⟩, fun _ _ => ⟨[], by rw [List.append_nil]⟩⟩ fun e => ⟨rfl, e⟩
  by_cases c3 : um a 8 = 3
  · try simp only [↓reduceIte, ↓LL, LM, Value.cells, Nat.reduceAdd, Option.some.injEq, exists_eq_left', decide_true, decide_false, if_true, if_false, reduceCtorEq, cond_true, cond_false, c0, c1, c2, c3, x1, x1d, x3, x3d, p1, p1d]
    refine h2d.pg.drop h1 hN k0 k1 fun w3 S3 hp hS hc => ?_
    obtain ⟨m1, m2, m3⟩ := h2d.mid hc
    have q3 := hc.keep (show (drw w2).heap[w.heap.size]? = _ from q2) sb
    obtain ⟨p3, _⟩ := pc _ q3
    obtain ⟨_, _, x33⟩ := xc _ m1
    refine ⟨by rw [Kld_e]; exact p3, ?_⟩
    refine ⟨by rw [Kld_e]; exact x33, ?_⟩
    refine f98_s m3 h2.ok.y fun w4 hr4 hc4 => ?_
    rw [show thr8 { X with nts := M } n = thr8 X n from rfl]
    rw [drX_y] at hr4
    try simp only [↓reduceIte, ↓LL, LM, Value.cells, Nat.reduceAdd, Option.some.injEq, exists_eq_left', decide_true, decide_false, if_true, if_false, reduceCtorEq, cond_true, cond_false, eqi1]
    obtain ⟨e1, e2, e3⟩ := drX_fr (X := X) (n := n)
    obtain ⟨f1, f2, f3⟩ := h2d.fin hc hp hS hr4 (fun j hj => .inl hj) (hc4.mono fun j hj => .inr (.inr (.inl hj))) (drX_ok h2.ok) (h2.nk.mono e3) h2.mkk.monoM
    exact fin _ true rp up vn vo vs _ M G S3 f1 f3 f2.of_drw ⟨fun _ => ⟨e1, e2, rfl⟩, fun _ _ => ⟨[], by rw [e3, List.append_nil]⟩⟩ fun e => ⟨rfl, e.trans e3.symm⟩
  by_cases c4 : um a 8 = 4
  · have e1 : (if (if n < 0 then (0 : Int) else n) > 300 then (300 : Int) else (if n < 0 then (0 : Int) else n)) = ((min n.toNat 300 : Nat) : Int) := by
      by_cases hn : n < 0
      · rw [if_pos hn]; omega
      · rw [if_neg hn]
        split <;> omega
    have e1' : (if (300 : Int) < (if n < 0 then (0 : Int) else n) then (300 : Int) else (if n < 0 then (0 : Int) else n)) = ((min n.toNat 300 : Nat) : Int) := e1
    try simp only [↓reduceIte, ↓LL, LM, Value.cells, Nat.reduceAdd, Option.some.injEq, exists_eq_left', decide_true, decide_false, if_true, if_false, reduceCtorEq, cond_true, cond_false, c0, c1, c2, c3, c4, p1, p2, e1, e1']
    refine f95_s (n := min n.toNat 300) (by omega) fun w3 s hs b3 => ?_
    have h3 := (h2.below b3).drw
    obtain ⟨x13, _, x33⟩ := xc _ (h2.below b3).hx
    have x13d : (drw w3).cell? ⟨x, 1, none⟩ = some (pv t) := x13
    have x33d : (drw w3).cell? ⟨x, 3, none⟩ = some (pv r) := x33
    have hB3 : B ≤ (drw w3).heap.size := Nat.le_trans hB2 b3.size
    try simp only [↓reduceIte, ↓LL, LM, Value.cells, Nat.reduceAdd, Option.some.injEq, exists_eq_left', decide_true, decide_false, if_true, if_false, reduceCtorEq, cond_true, cond_false, x13, x13d, x33, x33d]
    refine h3.pg.setHead h1 k0 fun w4 S4 hp hS hc => ?_
    obtain ⟨m1, m2, m3⟩ := h3.mid hc
    obtain ⟨_, _, x34⟩ := xc _ m1
    refine ⟨by rw [Kld_e]; exact x34, ?_⟩
    refine f99_s m3 h2.ok.y fun w5 hr5 hc5 => ?_
    rw [show shE { X with nts := M } s = shE X s from rfl]
    rw [shX_y] at hr5
    try simp only [↓reduceIte, ↓LL, LM, Value.cells, Nat.reduceAdd, Option.some.injEq, exists_eq_left', decide_true, decide_false, if_true, if_false, reduceCtorEq, cond_true, cond_false, eqi1]
    obtain ⟨e1, e2, e3⟩ := shX_fr (X := X) (s := s)
    obtain ⟨f1, f2, f3⟩ := h3.fin hc hp hS hr5 (fun j hj => .inl hj) (hc5.mono fun j hj => .inr (.inr (.inl hj))) (shX_ok h2.ok) (h2.nk.mono e3) h2.mkk.monoM
    exact fin _ true rp up vn vo vs _ M G S4 f1 (fun j hj => (f3 j hj).imp id fun hj => Nat.le_trans b3.size hj) ((ChgS.of_below b3).trans f2.of_drw fun _ _ h => h) ⟨fun _ => ⟨e1, e2, rfl⟩, fun _ _ => ⟨[], by rw [e3, List.append_nil]⟩⟩ fun e => ⟨rfl, e.trans e3.symm⟩
  by_cases c5 : um a 8 = 5
  · try simp only [↓reduceIte, ↓LL, LM, Value.cells, Nat.reduceAdd, Option.some.injEq, exists_eq_left', decide_true, decide_false, if_true, if_false, reduceCtorEq, cond_true, cond_false, c0, c1, c2, c3, c4, c5, x1, x1d, x3, x3d]
    refine h2d.pg.save h1 k0 k1 hB2 fun w3 S3 hp hS hc => ?_
    obtain ⟨m1, m2, m3⟩ := h2d.mid hc
    obtain ⟨_, _, x33⟩ := xc _ m1
    refine ⟨by rw [Kld_e]; exact x33, ?_⟩
    refine f100_s m3 h2.ok.y (Nat.le_trans hB2 hc.size) (by have := h2.mkk.le; show M.length ≤ 100000; have e : (({ X with nts := M } : P8).nts.length : Int) = M.length := rfl; omega) fun w4 vo4 vs4 hr4 hf4 hc4 => ?_
    have hmk := h2.mkk.save h2.ok.y
    rw [svX_y] at hr4
    rw [svX_y] at hmk
    try simp only [↓reduceIte, ↓LL, LM, Value.cells, Nat.reduceAdd, Option.some.injEq, exists_eq_left', decide_true, decide_false, if_true, if_false, reduceCtorEq, cond_true, cond_false]
    obtain ⟨e1, e2, e3, e4⟩ := svX_fr (X := X)
    obtain ⟨f1, f2, f3⟩ := h2d.fin hc hp hS hr4 hf4 hc4 (svX_ok h2.ok) (h2.nk.save h2.ok) hmk
    refine fin _ _ rp up vn vo4 vs4 _ _ G S3 f1 f3 f2.of_drw ⟨fun _ => ⟨e1, e2, rfl⟩, fun _ _ => ?_⟩ fun e => by subst e; exact ⟨decide_eq_true rfl, rfl⟩
    rcases e4 with e4 | e4
    · exact ⟨[], by rw [e4, List.append_nil]⟩
    · exact ⟨[X.now], e4⟩
  by_cases c6 : um a 8 = 6
  · try simp only [↓reduceIte, ↓LL, LM, Value.cells, Nat.reduceAdd, Option.some.injEq, exists_eq_left', decide_true, decide_false, if_true, if_false, reduceCtorEq, cond_true, cond_false, c0, c1, c2, c3, c4, c5, c6, x1, x1d, x3, x3d, p1, p1d]
    have hM := hM c6
    subst hM
    refine h2d.pg.back h1 k0 k1 hB2 fun w3 S3 hp hS hc => ?_
    obtain ⟨m1, m2, m3⟩ := h2d.mid hc
    have q3 := hc.keep (show (drw w2).heap[w.heap.size]? = _ from q2) sb
    obtain ⟨p3, _⟩ := pc _ q3
    obtain ⟨_, _, x33⟩ := xc _ m1
    refine ⟨by rw [Kld_e]; exact p3, ?_⟩
    refine ⟨by rw [Kld_e]; exact x33, ?_⟩
    refine f101_s m3 (Nat.le_trans hB2 hc.size) (fun l hl => by have := (h2.nk.nl l hl).1; omega) (by have := h2.nk.le; show X.nts.length ≤ 100000; omega) fun w4 vn4 vo4 vs4 hr4 hf4 hc4 => ?_
    try simp only [↓reduceIte, ↓LL, LM, Value.cells, Nat.reduceAdd, Option.some.injEq, exists_eq_left', decide_true, decide_false, if_true, if_false, reduceCtorEq, cond_true, cond_false, eqi1]
    obtain ⟨e1, e2⟩ := bkX_fr (X := X) (k := n)
    obtain ⟨o1, o2⟩ := bkX_ok (j := n) h2.ok h2.nk
    obtain ⟨f1, f2, f3⟩ := h2d.fin (X' := bkX X n) (M' := (bkX X n).nts) hc hp hS hr4 hf4 hc4 o1 o2 o2
    exact fin _ true rp up vn4 vo4 vs4 _ _ G S3 f1 f3 f2.of_drw ⟨fun _ => ⟨e1, e2, rfl⟩, fun _ h6 => absurd c6 h6⟩ fun _ => ⟨rfl, rfl⟩
  · have c7 : um a 8 = 7 := by omega
    try simp only [↓reduceIte, ↓LL, LM, Value.cells, Nat.reduceAdd, Option.some.injEq, exists_eq_left', decide_true, decide_false, if_true, if_false, reduceCtorEq, cond_true, cond_false, c0, c1, c2, c3, c4, c5, c6, x1]
    refine h2.pg.commit h1 hN k0 k1 hB2 fun w3 S3 G3 hp eG hS hc => ?_
    obtain ⟨m1, m2, m3⟩ := h2.mid hc
    obtain ⟨_, x23, x33⟩ := xc _ m1
    have x23d : (drw w3).cell? ⟨x, 2, none⟩ = some (pv rp) := x23
    have x33d : (drw w3).cell? ⟨x, 3, none⟩ = some (pv r) := x33
    have m2d : RfAt B (drw w3) rp up G.L := m2.below ⟨rfl, rfl, rfl, Nat.le_refl _, fun _ _ => rfl⟩
    have gl : G.L.length = N := by
      obtain ⟨_, _, _, _, _, _, _, _, _, _, _, _, _, _, _, _, a1, _⟩ := h.pg
      exact a1.gl
    have z3 := hc.size
    have sl := hp.lt
    have xl := h2.xlt
    have dl := h2.r8.lt
    have rl := h2.rlt
    try simp only [↓reduceIte, ↓LL, LM, Value.cells, Nat.reduceAdd, Option.some.injEq, exists_eq_left', decide_true, decide_false, if_true, if_false, reduceCtorEq, cond_true, cond_false, x23, x23d, x33, x33d]
    refine f102_s m3.drw h2.ok.y m2d gl (Nat.le_trans hB2 z3) fun w4 rp4 up4 hr4 hrf4 hf4 hc4 _ => ?_
    rw [show cmE8 { X with nts := M } = cmE8 X from rfl]
    rw [show cmL { X with nts := M } G.L = cmL X G.L from rfl] at hrf4
    rw [cmX_y] at hr4
    have hc4 : ChgS (fp8 r vb vn vo vs) w3 w4 := hc4.of_drw
    have hf4 : ∀ j, fpR rp4 up4 j → fpR rp up j ∨ w3.heap.size ≤ j := hf4
    have hx4 := hc4.keep m1 fun hn => h2.dx x hn rfl
    try simp only [↓reduceIte, ↓LL, LM, Value.cells, Nat.reduceAdd, Option.some.injEq, exists_eq_left', decide_true, decide_false, if_true, if_false, reduceCtorEq, cond_true, cond_false, get0, get1]
    refine st_box (o := 2) (v := pv rp4) hx4 (by show 2 < 4; decide) rfl fun w5 hx5 u5 => ?_
    have hx5 : w5.heap[x]? = some (.cells #[pv c, pv t, pv rp4, pv r] 96 (0, 0)) := hx5
    have hc5 : ChgS (fun j => j = x) w4 w5 := ChgS.of_upd u5 rfl
    obtain ⟨e1, e2, e3⟩ := cmX_fr (X := X)
    have sd : ∀ j, S3 j → ¬ fp8 r vb vn vo vs j := fun j hj hn => by
      rcases hS j hj with hj | hj
      · exact (h2.sx j hj).2.2 hn
      · have := (dl j hn).2
        omega
    have sx' : ∀ j, S3 j → j ≠ x := fun j hj => by
      rcases hS j hj with hj | hj
      · exact (h2.sx j hj).1
      · omega
    have rx' : ∀ j, fpR rp4 up4 j → j ≠ x ∧ ¬ fp8 r vb vn vo vs j := fun j hj => by
      rcases hf4 j hj with hj | hj
      · exact h2.rx j hj
      · exact ⟨by omega, fun hn => by have := (dl j hn).2; omega⟩
    try simp only [↓reduceIte, ↓LL, LM, Value.cells, Nat.reduceAdd, Option.some.injEq, exists_eq_left', decide_true, decide_false, if_true, if_false, reduceCtorEq, cond_true, cond_false, eqi1]
    refine fin w5 true rp4 up4 vn vo vs (cmX X) M G3 S3 ⟨h.xB, hx5, (hp.chg hc4 sd).chg hc5 sx', ?_, hr4.chg hc5 fun j hj => h2.dx j hj, cmX_ok h2.ok, h2.nk.mono e3, h2.mkk.monoM, fun j hj => ⟨sx' j hj, fun hn => ?_, sd j hj⟩, rx', h2.dx⟩ ?_ ?_ ⟨fun h7 => absurd c7 h7, fun h7 => absurd c7 h7⟩ fun e => ⟨rfl, e.trans e3.symm⟩
    · rw [eG]
      exact hrf4.chg hc5 fun j hj => (rx' j hj).1
    · rcases hf4 j hn with hn | hn
      · rcases hS j hj with hj | hj
        · exact (h2.sx j hj).2.1 hn
        · have := (rl j hn).2
          omega
      · have := (sl j hj).2
        omega
    · intro j hj
      rcases hj with hj | hj | hj | hj
      · exact (hS j hj).imp .inl id
      · rcases hf4 j hj with hj | hj
        · exact .inl (.inr (.inl hj))
        · exact .inr (Nat.le_trans z3 hj)
      · exact .inl (.inr (.inr (.inl hj)))
      · exact .inl (.inr (.inr (.inr hj)))
    · refine ((hc.mono fun j hj => .inl hj).trans (T := BF x rp r up vb vn vo vs S) (hc4.mono fun j hj => .inr (.inr (.inl hj))) fun _ _ h => h).trans (T := BF x rp r up vb vn vo vs S) (hc5.mono fun j hj => .inr (.inr (.inr hj))) fun _ _ h => h
end
end Go.Proofs.YtongpnolikkknaaGreatDoor

set_option maxRecDepth 20000
set_option maxHeartbeats 4000000
namespace Go.Proofs.YtongpnolikkknaaGreatDoor
open Sh RowKit Go.MapKept
theorem buildB8 (c rp : Nat) (w : World) : (Instr.build 96 #[(0, pv c), (2, pv rp)]).run Tryz.prog w = .ok (.agg #[pv c, .pointer none, pv rp, .pointer none]) w := by
  kernel_rfl
section
variable {B N : Nat} {W w w' w1 w2 : World} {x c t rp r : Nat} {up vb vn vo v vn' vo' vs : Value} {vl vl' : List Value} {Q : Value → World → Prop} {K : Value → Sh.M} {X X' : P8} {M M' : List (List ByteArray)} {G G' : Pg} {k : Int} {S S1 T : Nat → Prop} {L : List ByteArray}
theorem f55_s {Wr : World} {α : Type} {R : RepT α} {l : List α} (h : rdS 3 R Wr v l) (kk : ∀ v', rdS 3 R Wr v' (l.take 200) → Q v' w) : f55 v w Q := by
  unfold f55
  have lv := lnl_S h
  have e : (if (200 : Int) < ((l.length : Nat) : Int) then (200 : Int) else ((l.length : Nat) : Int)) = ((min l.length 200 : Nat) : Int) := by split <;> omega
  try simp only [↓reduceIte, ↓LL, LM, Value.cells, Nat.reduceAdd, Option.some.injEq, exists_eq_left', decide_true, decide_false, if_true, if_false, reduceCtorEq, cond_true, cond_false, lv, e]
  have hs := sll_S (w := Wr) (Q := Q) (K := fun v' _ _ => Q v' w) (j := .i64) h (k := min l.length 200) (by omega) fun v' hv' => by
    refine kk v' ?_
    have : l.take (min l.length 200) = l.take 200 := by
      rcases Nat.le_total l.length 200 with c | c
      · rw [Nat.min_eq_left c, List.take_of_length_le (Nat.le_refl _), List.take_of_length_le c]
      · rw [Nat.min_eq_right c]
    rw [← this]
    exact hv'
  exact hs
theorem Bt.cells (h : Bt B N w x c t rp r up vb vn vo vl X M G k S) : w.cell? ⟨x, 0, none⟩ = some (pv c) ∧ w.cell? ⟨x, 1, none⟩ = some (pv t) ∧ w.cell? ⟨x, 2, none⟩ = some (pv rp) ∧ w.cell? ⟨x, 3, none⟩ = some (pv r) := ⟨by rw [cell_of_blk h.hx]; rfl, by rw [cell_of_blk h.hx]; rfl, by rw [cell_of_blk h.hx]; rfl, by rw [cell_of_blk h.hx]; rfl⟩
/-- the program's and the document's work begun on the same pages -/
theorem begun {w5 : World} {r' t' : Nat} {S' : Nat → Prop} (hxB : B ≤ x) (hx : w5.heap[x]? = some (.cells #[pv c, pv t', pv rp, pv r'] 96 (0, 0))) (hp : Pg8 B N w5 t' c ⟨G.L, G.L, [], false⟩ G k S') (hrf : RfAt B w5 rp up G.L) (h8 : R8 B w5 r' vb vn (.slice none 0 0) [] ⟨G.L, G.L, [], false⟩) (h1 : 1 ≤ N) (hN : N ≤ 160) (hs : ∀ s ∈ G.L, s.size = 256) (gl : G.L.length = N) (k0 : 0 ≤ k)
    (sx : ∀ j, S' j → j ≠ x ∧ ¬ fpR rp up j ∧ ¬ fp8 r' vb vn (.slice none 0 0) [] j) (rx : ∀ j, fpR rp up j → j ≠ x ∧ ¬ fp8 r' vb vn (.slice none 0 0) [] j) (dx : ∀ j, fp8 r' vb vn (.slice none 0 0) [] j → j ≠ x) :
    Bt B N w5 x c t' rp r' up vb vn (.slice none 0 0) [] ⟨G.L, G.L, [], false⟩ [] G k S' :=
  ⟨hxB, hx, hp, hrf, h8, ⟨h1, hN, gl, hs, gl⟩, ⟨k0, fun l hl => by simp at hl⟩, ⟨k0, fun l hl => by simp at hl⟩, sx, rx, dx⟩
theorem Pg8.gl (h : Pg8 B N w t c X G k S) : G.L.length = N ∧ ∀ s ∈ G.L, s.size = 256 := by
  obtain ⟨_, _, _, _, _, _, _, _, _, _, _, _, _, _, _, _, a1, _, _, _, a5, _⟩ := h
  exact ⟨a1.gl, a5⟩
theorem f54_s (h1 : 1 ≤ N) (hN : N ≤ 40) (kk : ∀ w' x c t rp r up vb vn G S, Bt w.heap.size N w' x c t rp r up vb vn (.slice none 0 0) [] ⟨G.L, G.L, [], false⟩ [] G 1 S → Below w.heap.size w w' → Q (.tuple #[pv x, .bool true]) w') : f54 (.int .i64 ((N : Nat) : Int)) w Q := by
  unfold f54
  refine f17_s (n := N) h1 (by omega) fun w1 c q mb p b v u hc1 b1 => ?_
  try simp only [↓reduceIte, ↓LL, LM, Value.cells, Nat.reduceAdd, Option.some.injEq, exists_eq_left', decide_true, decide_false, if_true, if_false, reduceCtorEq, cond_true, cond_false]
  refine f41_s (n := N) (by omega) fun w2 rp up b2 hrf => ?_
  have hc2 := hc1.below b2
  have z1 := b1.size
  have z2 := b2.size
  try simp only [↓reduceIte, ↓LL, LM, Value.cells, Nat.reduceAdd, Option.some.injEq, exists_eq_left', decide_true, decide_false, if_true, if_false, reduceCtorEq, cond_true, cond_false]
  rw [smr_run (buildB8 _ _ w2)]
  have b3 := b_psh w2 (.cells #[pv c, .pointer none, pv rp, .pointer none] 96)
  have k3 := blk_psh_new (w := w2) (o := .cells #[pv c, .pointer none, pv rp, .pointer none] 96)
  try simp only [↓reduceIte, ↓LL, LM, Value.cells, Nat.reduceAdd, Option.some.injEq, exists_eq_left', decide_true, decide_false, if_true, if_false, reduceCtorEq, cond_true, cond_false]
  generalize psh w2 (.cells #[pv c, .pointer none, pv rp, .pointer none] 96) = w3 at *
  have z3 := blk_lt k3
  have hc3 := hc2.below b3
  have c0 : w3.cell? ⟨w2.heap.size, 0, none⟩ = some (pv c) := by rw [cell_of_blk k3]; rfl
  try simp only [↓reduceIte, ↓LL, LM, Value.cells, Nat.reduceAdd, Option.some.injEq, exists_eq_left', decide_true, decide_false, if_true, if_false, reduceCtorEq, cond_true, cond_false, c0]
  have lN : (⟨List.replicate N (zs 256), false, 0⟩ : Pg).L.length = N := rep_len N
  have gsz : ∀ s ∈ (⟨List.replicate N (zs 256), false, 0⟩ : Pg).L, s.size = 256 := rep_256 N
  have rdy := rdy_new h1 (show N ≤ 160 by omega) (Nat.le_refl (126 + 4 * N))
  have all := new_all (126 + 4 * N)
  have lt1 := hc1.lt
  have fB := hc1.fpB
  refine begin_s hc3 (fun x hx => by simp at hx) gsz (by rw [lN]; exact h1) (Int.le_refl 0) (by decide) (Int.le_refl 0) (by decide) fun w4 t mp E' hw hg hE hcw zt zm => ?_
  have dg : Dg (newD (126 + 4 * N)) ⟨List.replicate N (zs 256), false, 0⟩ 1 := ⟨rdy, all, rfl, rfl, Int.le_refl 0, by show (0 : Int) ≤ _; decide, Int.le_refl 0, by show (0 : Int) ≤ 1; decide⟩
  obtain ⟨S, hp, hS⟩ := pg8_new (N := N) (k := 1) hw hg (HB.mono (k := 0 + 1) (rdC_bd ⟨Int.le_refl 0, Int.le_refl 0, Int.le_refl 0, Int.le_refl 0⟩) (by decide)) dg gsz lN h1 (by decide)
  generalize hGd : (⟨List.replicate N (zs 256), false, 0⟩ : Pg) = G at *
  have gL : G.L = List.replicate N (zs 256) := by rw [← hGd]
  have hSb : ∀ j, S j → j < w1.heap.size ∨ w3.heap.size ≤ j := fun j hj => by
    rcases (hS j).1 hj with hj | hj | hj
    · rcases hE j hj with hj | hj
      · exact .inl (lt1 j hj)
      · exact .inr hj
    · have hj : j = t := hj
      exact .inr (by omega)
    · have hj : j = mp := hj
      exact .inr (by omega)
  have k4 := hcw.keep k3 fun hn => by have := lt1 _ hn; omega
  have hrl : ∀ j, fpR rp up j → w1.heap.size ≤ j ∧ j < w2.heap.size := by
    rintro j (rfl | hj)
    · exact ⟨hrf.rB, blk_lt hrf.hr⟩
    · exact ⟨(ownV_lt hrf.hu j hj).1, (ownV_lt hrf.hu j hj).2.1⟩
  have rf4 : RfAt w1.heap.size w4 rp up (List.replicate N (zs 256)) := (hrf.below b3).chg hcw fun j hj hn => by
    have := lt1 _ hn
    have := (hrl j hj).1
    omega
  try simp only [↓reduceIte, ↓LL, LM, Value.cells, Nat.reduceAdd, Option.some.injEq, exists_eq_left', decide_true, decide_false, if_true, if_false, reduceCtorEq, cond_true, cond_false, get0, get1]
  refine st_box (o := 1) (v := pv t) k4 (by show 1 < 4; decide) rfl fun w5 k5 u5 => ?_
  have k5 : w5.heap[w2.heap.size]? = some (.cells #[pv c, pv t, pv rp, .pointer none] 96 (0, 0)) := k5
  have hc5 : ChgS (fun j => j = w2.heap.size) w4 w5 := ChgS.of_upd u5 rfl
  have c2 : w5.cell? ⟨w2.heap.size, 2, none⟩ = some (pv rp) := by rw [cell_of_blk k5]; rfl
  have rf5 := rf4.chg hc5 fun j hj hn => by
    have := (hrl j hj).2
    have hn : j = w2.heap.size := hn
    omega
  have hp5 := hp.chg hc5 fun j hj hn => by
    have hn : j = w2.heap.size := hn
    rcases hSb j hj with hj | hj <;> omega
  try simp only [↓reduceIte, ↓LL, LM, Value.cells, Nat.reduceAdd, Option.some.injEq, exists_eq_left', decide_true, decide_false, if_true, if_false, reduceCtorEq, cond_true, cond_false, c2]
  refine f58_s rf5 (by rw [List.length_replicate]; omega) fun w6 r vb vn h86 b6 => ?_
  have k6 := stay b6 k5
  have rf6 := rf5.below b6
  have hp6 := hp5.below b6
  have l86 := h86.lt
  have z34 := hcw.size
  have z45 := hc5.size
  try simp only [↓reduceIte, ↓LL, LM, Value.cells, Nat.reduceAdd, Option.some.injEq, exists_eq_left', decide_true, decide_false, if_true, if_false, reduceCtorEq, cond_true, cond_false]
  refine st_box (o := 3) (v := pv r) k6 (by show 3 < 4; decide) rfl fun w7 k7 u7 => ?_
  have k7 : w7.heap[w2.heap.size]? = some (.cells #[pv c, pv t, pv rp, pv r] 96 (0, 0)) := k7
  have hc7 : ChgS (fun j => j = w2.heap.size) w6 w7 := ChgS.of_upd u7 rfl
  have sl6 := hp5.lt
  have dd : ∀ j, fp8 r vb vn (.slice none 0 0) [] j → w5.heap.size ≤ j := fun j hj => (l86 j hj).1
  try simp only [↓reduceIte, ↓LL, LM, Value.cells, Nat.reduceAdd, Option.some.injEq, exists_eq_left', decide_true, decide_false, if_true, if_false, reduceCtorEq, cond_true, cond_false]
  rw [pn_ne ptW]
  try simp only [↓reduceIte, ↓LL, LM, Value.cells, Nat.reduceAdd, Option.some.injEq, exists_eq_left', decide_true, decide_false, if_true, if_false, reduceCtorEq, cond_true, cond_false, Option.isNone]
  refine kk w7 w2.heap.size c t rp r up vb vn G S (begun (by omega) k7 (hp6.chg hc7 fun j hj hn => ?_) ?_ ?_ h1 (by omega) gsz lN (by decide) (fun j hj => ⟨?_, fun hn => ?_, fun hn => ?_⟩) (fun j hj => ⟨?_, fun hn => ?_⟩) fun j hj => ?_) ?_
  · have hn : j = w2.heap.size := hn
    rcases hSb j hj with hj | hj <;> omega
  · rw [gL]
    exact (rf6.weak z1).chg hc7 fun j hj hn => by
      have := (hrl j hj).2
      have hn : j = w2.heap.size := hn
      omega
  · have h8 : R8 w5.heap.size w7 r vb vn (.slice none 0 0) [] ⟨List.replicate N (zs 256), List.replicate N (zs 256), [], false⟩ := h86.chg hc7 fun j hj hn => by
      have := dd j hj
      have hn : j = w2.heap.size := hn
      omega
    rw [gL]
    exact ⟨by have := h8.rB; omega, h8.hr, ownV_weak h8.hb (by omega), ownV_weak h8.hn (by omega), ownV_nil, rfl, fun i v l h1 h2 => by simp at h1, h8.sb, h8.sv⟩
  · rcases hSb j hj with hj | hj <;> omega
  · have := hrl j hn
    rcases hSb j hj with hj | hj <;> omega
  · have := dd j hn
    have := (sl6 j hj).2
    omega
  · have := (hrl j hj).2
    omega
  · have := dd j hn
    have := (hrl j hj).2
    omega
  · have := dd j hj
    omega
  · have q1 : Below w.heap.size w w3 := (b1.trans (b2.mono z1)).trans (b3.mono (by omega))
    have q2 : Below w.heap.size w3 w4 := hcw.below (fun j hj => fB j hj) (by omega)
    exact (((q1.trans q2).trans (u5.below (by omega))).trans (b6.mono (by omega))).trans (u7.below (by omega))
theorem Bt.bl (h : Bt B N w x c t rp r up vb vn vo vl X M G k S) (hB : B ≤ w.heap.size) (hc : ChgS (BF x rp r up vb vn vo vl S) w w') : Below B w w' := hc.below (fun j hj => (h.bfB j hj).1) hB
end
end Go.Proofs.YtongpnolikkknaaGreatDoor

namespace Go.Proofs.YtongpnolikkknaaGreatDoor
open Sh RowKit Go.MapKept
theorem ulO8 : Tryz.prog.underlying 86 = some (.slice 92) := by kernel_rfl
theorem scO8 : isSc Tryz.prog 86 = true := by kernel_rfl
theorem op_o8 : Opens Tryz.prog 92 Op8 oOp8 (fun _ => 0) := by
  refine Opens.mono (op_struct Tryz.underlying92 (n := 3) (by kernel_rfl) (opf_cons (n := 1) (by kernel_rfl) (op_int ui) (opf_cons (n := 1) (by kernel_rfl) (op_int ui) (opf_cons (n := 1) (by kernel_rfl) (op_int uu8) opf_nil)))) ?_
  rintro w cs ⟨a, t, c, ⟨⟩⟩ ⟨hl, ⟨h0, _⟩, ⟨h1, _⟩, ⟨h2, _⟩, -⟩
  obtain ⟨c0, c1, c2, rfl⟩ := len3 hl
  have e0 := one_cell (x := c0) h0
  have e1 := one_cell (x := c1) h1
  have e2 := one_cell (x := c2) h2
  exact ⟨⟨a, t, c⟩, by show _ = _; rw [e0, e1, e2], Nat.zero_le _⟩
/-- a number and two scripts -/
def RiOO8 : World → List Value → Int × List Op8 × List Op8 → Prop := fun W vs x => ∃ v u, vs = [.int .i64 x.1, v, u] ∧ rdS 3 oOp8 W v x.2.1 ∧ rdS 3 oOp8 W u x.2.2
theorem oaiOO8 : OpensA Tryz.prog [3, 86, 86] (Int × List Op8 × List Op8) RiOO8 (fun _ => 0) := by
  refine OpensA.mono (oa_one (op_int ui) scI (fun w cs a h => ⟨_, h.1⟩) (oa_one (op_slice ulO8 (n := 3) (by kernel_rfl) op_o8) scO8 (fun w cs a h => ⟨_, h.choose_spec.1⟩) (oa_one (op_slice ulO8 (n := 3) (by kernel_rfl) op_o8) scO8 (fun w cs a h => ⟨_, h.choose_spec.1⟩) oa_nil))) ?_
  rintro W vs ⟨n, l, m, ⟨⟩⟩ ⟨v, r, rfl, ⟨h1, _⟩, v2, r2, rfl, ⟨v', hv, hr, hl⟩, v3, r3, rfl, ⟨v'', hv', hr', hl'⟩, rfl⟩
  exact ⟨(n, l, m), ⟨v2, v3, by rw [one_cell h1], by rw [one_cell hv]; exact hr, by rw [one_cell hv']; exact hr'⟩, Nat.zero_le _⟩
end Go.Proofs.YtongpnolikkknaaGreatDoor

set_option maxRecDepth 20000
set_option maxHeartbeats 4000000
namespace Go.Proofs.YtongpnolikkknaaGreatDoor
open Sh RowKit Go.MapKept
theorem buildO8 (w : World) : (Instr.build 92 #[(0, .int .i64 7)]).run Tryz.prog w = .ok (.agg #[.int .i64 7, .int .i64 0, .int .u8 0]) w := by
  kernel_rfl
section
variable {B N : Nat} {W w w' w1 w2 : World} {x c t rp r : Nat} {up vb vn vo v vn' vo' vs va : Value} {vl vl' : List Value} {Q : Value → World → Prop} {K : Value → Sh.M} {X X' : P8} {M M' : List (List ByteArray)} {G G' : Pg} {k : Int} {S S1 T : Nat → Prop} {L : List ByteArray}
theorem two_b {l : List Op8} (hl : rdS 3 oOp8 W vs l) (hl2 : l.length ≤ 200) (h1 : 1 ≤ N) (hN : N ≤ 40) {j3 : Sh.M}
    (kk : ∀ w', Below W.heap.size W w' → j3 w' Q) : ∀ (d m i : Nat) (w : World) c t rp r up vb vn vo vl X G (k : Int) S, i + d = l.length → d < m → Bt W.heap.size N w x c t rp r up vb vn vo vl X X.nts G k S → 0 ≤ k → k ≤ (i : Int) + 1000 → Below W.heap.size W w →
    itr (fun _ _ _ => bot) (f10_b4 j3) m vs (pv x) (.int .i64 ((i : Nat) : Int)) w Q := by
  intro d
  induction d with
  | zero =>
    intro m i w c t rp r up vb vn vo vl X G k S hi hm h k0 k1 hb
    obtain ⟨m, rfl⟩ : ∃ x, m = x + 1 := ⟨m - 1, by omega⟩
    show f10_b4 j3 _ _ _ _ w Q
    unfold f10_b4
    have lv := lnl_S hl
    have cc : ¬ (i : Int) < ((l.length : Nat) : Int) := by omega
    try simp only [↓reduceIte, ↓LL, LM, Value.cells, Nat.reduceAdd, Option.some.injEq, exists_eq_left', decide_true, decide_false, if_true, if_false, reduceCtorEq, cond_true, cond_false, lv, cc]
    exact kk w hb
  | succ d ih =>
    intro m i w c t rp r up vb vn vo vl X G k S hi hm h k0 k1 hb
    obtain ⟨m, rfl⟩ : ∃ x, m = x + 1 := ⟨m - 1, by omega⟩
    show f10_b4 j3 _ _ _ _ w Q
    unfold f10_b4
    have lv := lnl_S hl
    have cc : (i : Int) < ((l.length : Nat) : Int) := by omega
    have hil : i < l.length := by omega
    have h3 : IntKind.i64.wrap ((i : Int) + 1) = ((i + 1 : Nat) : Int) := by rw [w64 (by omega) (by omega)]; rfl
    have hdr := h.drw
    have bd : Below W.heap.size W (drw w) := ⟨hb.os, hb.tape, hb.output, hb.size, hb.block⟩
    obtain ⟨aad, es, he1, he2, he3, hia⟩ := rdS_at (rdS_below oOp8_st bd hl) hil
    have he3 : es = _ := he3
    try simp only [↓reduceIte, ↓LL, LM, Value.cells, Nat.reduceAdd, Option.some.injEq, exists_eq_left', decide_true, decide_false, if_true, if_false, reduceCtorEq, cond_true, cond_false, lv, cc, hia]
    refine ldn_at he2 he1 ?_
    rw [he3]
    generalize l[i] = o at *
    try simp only [↓reduceIte, ↓LL, LM, Value.cells, Nat.reduceAdd, Option.some.injEq, exists_eq_left', decide_true, decide_false, if_true, if_false, reduceCtorEq, cond_true, cond_false]
    refine f57_s hdr h1 hN k0 (by omega) bd.size (fun _ => rfl) fun w2 z rp2 up2 vn2 vo2 vl2 X2 M2 G2 S2 h2 hf2 hc2 hs2 hz => ?_
    obtain ⟨rfl, rfl⟩ := hz rfl
    have hb2 : Below W.heap.size W w2 := bd.trans (hdr.bl bd.size hc2)
    obtain ⟨x0, x1, x2, x3⟩ := h2.cells
    try simp only [↓reduceIte, ↓LL, LM, Value.cells, Nat.reduceAdd, Option.some.injEq, exists_eq_left', decide_true, decide_false, if_true, if_false, reduceCtorEq, cond_true, cond_false, x1, x3]
    refine h2.pg.used h1 hN fun w3 _ b3 => ?_
    have h3' := h2.below b3
    obtain ⟨y0, y1, y2, y3⟩ := h3'.cells
    refine ⟨fun _ => by rw [Kld_e]; exact y3, ?_⟩
    try simp only [↓reduceIte, ↓LL, LM, Value.cells, Nat.reduceAdd, Option.some.injEq, exists_eq_left', decide_true, decide_false, if_true, if_false, reduceCtorEq, cond_true, cond_false]
    refine f59_s h3'.r8 h3'.ok.y ?_
    have hn0 : ∀ s : Int, decide (s ≠ s) = false := fun s => decide_eq_false fun h => h rfl
    rw [show us8 { X2 with nts := X2.nts } = us8 X2 from rfl]
    try simp only [↓reduceIte, ↓LL, LM, Value.cells, Nat.reduceAdd, Option.some.injEq, exists_eq_left', decide_true, decide_false, if_true, if_false, reduceCtorEq, cond_true, cond_false, hn0, h3]
    exact ih m (i + 1) w3 c t rp2 r up2 vb vn2 vo2 vl2 X2 G2 (k + 1) S2 (by omega) (by omega) h3' (by omega) (by omega) (hb2.trans (b3.mono hb2.size))
theorem two_j1 {l : List Op8} (hl : rdS 3 oOp8 W vs l) (hl2 : l.length ≤ 200) (h1 : 1 ≤ N) (hN : N ≤ 40) (h : Bt W.heap.size N w x c t rp r up vb vn vo vl X X.nts G k S) (k0 : 0 ≤ k) (k1 : k ≤ 900) (hb : Below W.heap.size W w)
    (kk : ∀ w', Below W.heap.size W w' → Q (.bool true) w') : f10_j1 vs (pv x) w Q := by
  unfold f10_j1
  rw [smr_run (buildO8 w)]
  try simp only [↓reduceIte, ↓LL, LM, Value.cells, Nat.reduceAdd, Option.some.injEq, exists_eq_left', decide_true, decide_false, if_true, if_false, reduceCtorEq, cond_true, cond_false]
  refine f57_s h h1 hN k0 (by omega) hb.size (fun _ => rfl) fun w2 z rp up vn vo vl X M2 G S h2 hf2 hc2 hs2 hz => ?_
  obtain ⟨rfl, rfl⟩ := hz rfl
  have hb2 : Below W.heap.size W w2 := hb.trans (h.bl hb.size hc2)
  obtain ⟨x0, x1, x2, x3⟩ := h2.cells
  try simp only [↓reduceIte, ↓LL, LM, Value.cells, Nat.reduceAdd, Option.some.injEq, exists_eq_left', decide_true, decide_false, if_true, if_false, reduceCtorEq, cond_true, cond_false, x0]
  refine h2.pg.begin h1 hN (by omega) (by omega) fun w3 t3 S3 hp3 hS3 hc3 => ?_
  obtain ⟨m1, m2, m3⟩ := h2.mid hc3
  obtain ⟨gl, gsz⟩ := h2.pg.gl
  have hrl := h2.rlt
  have xl := h2.xlt
  have sl3 := hp3.lt
  have z3 := hc3.size
  try simp only [↓reduceIte, ↓LL, LM, Value.cells, Nat.reduceAdd, Option.some.injEq, exists_eq_left', decide_true, decide_false, if_true, if_false, reduceCtorEq, cond_true, cond_false, get0, get1, ne_eq]
  refine st_box (o := 1) (v := pv t3) m1 (by show 1 < 4; decide) rfl fun w4 k4 u4 => ?_
  have k4 : w4.heap[x]? = some (.cells #[pv c, pv t3, pv rp, pv r] 96 (0, 0)) := k4
  have hc4 : ChgS (fun j => j = x) w3 w4 := ChgS.of_upd u4 rfl
  have c2 : w4.cell? ⟨x, 2, none⟩ = some (pv rp) := by rw [cell_of_blk k4]; rfl
  have rf4 := m2.chg hc4 fun j hj hn => (h2.rx j hj).1 hn
  have sx3 : ∀ j, S3 j → j ≠ x ∧ ¬ fpR rp up j := fun j hj => by
    rcases hS3 j hj with hj | hj
    · exact ⟨(h2.sx j hj).1, (h2.sx j hj).2.1⟩
    · exact ⟨by omega, fun hn => by have := (hrl j hn).2; omega⟩
  have hp4 := hp3.chg hc4 fun j hj hn => (sx3 j hj).1 hn
  have z4 := hc4.size
  try simp only [↓reduceIte, ↓LL, LM, Value.cells, Nat.reduceAdd, Option.some.injEq, exists_eq_left', decide_true, decide_false, if_true, if_false, reduceCtorEq, cond_true, cond_false, c2]
  refine f58_s rf4 (by omega) fun w5 r5 vb5 vn5 h85 b5 => ?_
  have k5 := stay b5 k4
  have rf5 := rf4.below b5
  have hp5 := hp4.below b5
  have l85 := h85.lt
  have z5 := b5.size
  try simp only [↓reduceIte, ↓LL, LM, Value.cells, Nat.reduceAdd, Option.some.injEq, exists_eq_left', decide_true, decide_false, if_true, if_false, reduceCtorEq, cond_true, cond_false]
  refine st_box (o := 3) (v := pv r5) k5 (by show 3 < 4; decide) rfl fun w6 k6 u6 => ?_
  have k6 : w6.heap[x]? = some (.cells #[pv c, pv t3, pv rp, pv r5] 96 (0, 0)) := k6
  have hc6 : ChgS (fun j => j = x) w5 w6 := ChgS.of_upd u6 rfl
  have dd : ∀ j, fp8 r5 vb5 vn5 (.slice none 0 0) [] j → w4.heap.size ≤ j := fun j hj => (l85 j hj).1
  have hb5 : Below W.heap.size W w5 := by
    have q1 : Below W.heap.size w2 w3 := hc3.below (fun j hj => (h2.pg.lt j hj).1) hb2.size
    exact ((hb2.trans q1).trans (u4.below h2.xB)).trans (b5.mono (by have := hb2.size; omega))
  have h86 := h85.chg hc6 fun j hj hn => by
    have := dd j hj
    have hn : j = x := hn
    omega
  have hbt := begun h2.xB k6 (hp5.chg hc6 fun j hj hn => (sx3 j hj).1 hn) (rf5.chg hc6 fun j hj hn => (h2.rx j hj).1 hn) (⟨by have := h86.rB; have := hb2.size; omega, h86.hr, ownV_weak h86.hb (by have := hb2.size; omega), ownV_weak h86.hn (by have := hb2.size; omega), ownV_nil, rfl, fun i v l h1 h2 => by simp at h1, h86.sb, h86.sv⟩ : R8 W.heap.size w6 r5 vb5 vn5 (.slice none 0 0) [] ⟨G.L, G.L, [], false⟩) h1 (by omega) gsz gl (by omega)
    (fun j hj => ⟨(sx3 j hj).1, (sx3 j hj).2, fun hn => by
      have := dd j hn
      have := (sl3 j hj).2
      omega⟩) (fun j hj => ⟨(h2.rx j hj).1, fun hn => by
      have := dd j hn
      have := (hrl j hj).2
      omega⟩) (fun j hj => by
      have := dd j hj
      omega)
  try simp only [↓reduceIte, ↓LL, LM, Value.cells, Nat.reduceAdd, Option.some.injEq, exists_eq_left', decide_true, decide_false, if_true, if_false, reduceCtorEq, cond_true, cond_false]
  refine ⟨_, two_b (W := W) hl hl2 h1 hN (fun w7 b7 => ?_) l.length (l.length + 1) 0 w6 c t3 rp r5 up vb5 vn5 _ [] _ G _ S3 (by omega) (by omega) hbt (by omega) (by omega) (hb5.trans (u6.below h2.xB))⟩
  unfold f10_j3
  try simp only [↓reduceIte, ↓LL, LM, Value.cells, Nat.reduceAdd, Option.some.injEq, exists_eq_left', decide_true, decide_false, if_true, if_false, reduceCtorEq, cond_true, cond_false]
  exact kk w7 b7
theorem two_a {l : List Op8} (hl : rdS 3 oOp8 W va l) (hl2 : l.length ≤ 200) (h1 : 1 ≤ N) (hN : N ≤ 40) {j1 : Value → Value → Sh.M}
    (kk : ∀ w' c t rp r up vb vn vo vl X G k S, Bt W.heap.size N w' x c t rp r up vb vn vo vl X X.nts G k S → 0 ≤ k → k ≤ 201 → Below W.heap.size W w' → j1 vs (pv x) w' Q) : ∀ (d m i : Nat) (w : World) c t rp r up vb vn vo vl X G (k : Int) S, i + d = l.length → d < m → Bt W.heap.size N w x c t rp r up vb vn vo vl X X.nts G k S → 0 ≤ k → k ≤ (i : Int) + 1 → Below W.heap.size W w →
    itr (fun _ _ _ _ => bot) (f10_b2 j1) m va vs (pv x) (.int .i64 ((i : Nat) : Int)) w Q := by
  intro d
  induction d with
  | zero =>
    intro m i w c t rp r up vb vn vo vl X G k S hi hm h k0 k1 hb
    obtain ⟨m, rfl⟩ : ∃ x, m = x + 1 := ⟨m - 1, by omega⟩
    show f10_b2 j1 _ _ _ _ _ w Q
    unfold f10_b2
    have lv := lnl_S hl
    have cc : ¬ (i : Int) < ((l.length : Nat) : Int) := by omega
    try simp only [↓reduceIte, ↓LL, LM, Value.cells, Nat.reduceAdd, Option.some.injEq, exists_eq_left', decide_true, decide_false, if_true, if_false, reduceCtorEq, cond_true, cond_false, lv, cc]
    exact kk w c t rp r up vb vn vo vl X G k S h k0 (by omega) hb
  | succ d ih =>
    intro m i w c t rp r up vb vn vo vl X G k S hi hm h k0 k1 hb
    obtain ⟨m, rfl⟩ : ∃ x, m = x + 1 := ⟨m - 1, by omega⟩
    show f10_b2 j1 _ _ _ _ _ w Q
    unfold f10_b2
    have lv := lnl_S hl
    have cc : (i : Int) < ((l.length : Nat) : Int) := by omega
    have hil : i < l.length := by omega
    have h3 : IntKind.i64.wrap ((i : Int) + 1) = ((i + 1 : Nat) : Int) := by rw [w64 (by omega) (by omega)]; rfl
    obtain ⟨aad, es, he1, he2, he3, hia⟩ := rdS_at (rdS_below oOp8_st hb hl) hil
    have he3 : es = _ := he3
    subst he3
    generalize l[i] = o at *
    try simp only [↓reduceIte, ↓LL, LM, Value.cells, Nat.reduceAdd, Option.some.injEq, exists_eq_left', decide_true, decide_false, if_true, if_false, reduceCtorEq, cond_true, cond_false, lv, cc, hia]
    refine ldn_at he2 he1 ?_
    try simp only [↓reduceIte, ↓LL, LM, Value.cells, Nat.reduceAdd, Option.some.injEq, exists_eq_left', decide_true, decide_false, if_true, if_false, reduceCtorEq, cond_true, cond_false]
    refine f56_s fun w2 b2 => ?_
    have h2 := h.below b2
    have hb2 := bt hb b2
    have he2' := cellsAt_below b2 he2
    by_cases c7 : um o.k 8 = 7
    · have d7 : decide (um o.k 8 ≠ 7) = false := decide_eq_false fun hn => hn c7
      try simp only [↓reduceIte, ↓LL, LM, Value.cells, Nat.reduceAdd, Option.some.injEq, exists_eq_left', decide_true, decide_false, if_true, if_false, reduceCtorEq, cond_true, cond_false, d7, h3]
      exact ih m (i + 1) w2 c t rp r up vb vn vo vl X G k S (by omega) (by omega) h2 k0 (by omega) hb2
    · have d7 : decide (um o.k 8 ≠ 7) = true := decide_eq_true c7
      try simp only [↓reduceIte, ↓LL, LM, Value.cells, Nat.reduceAdd, Option.some.injEq, exists_eq_left', decide_true, decide_false, if_true, if_false, reduceCtorEq, cond_true, cond_false, d7, hia]
      refine ldn_at he2' he1 ?_
      try simp only [↓reduceIte, ↓LL, LM, Value.cells, Nat.reduceAdd, Option.some.injEq, exists_eq_left', decide_true, decide_false, if_true, if_false, reduceCtorEq, cond_true, cond_false]
      refine f57_s h2 h1 hN k0 (by omega) hb2.size (fun _ => rfl) fun w3 z rp3 up3 vn3 vo3 vl3 X3 M3 G3 S3 h3' hf3 hc3 hs3 hz => ?_
      obtain ⟨rfl, rfl⟩ := hz rfl
      have hb3 : Below W.heap.size W w3 := hb2.trans (h2.bl hb2.size hc3)
      try simp only [↓reduceIte, ↓LL, LM, Value.cells, Nat.reduceAdd, Option.some.injEq, exists_eq_left', decide_true, decide_false, if_true, if_false, reduceCtorEq, cond_true, cond_false, h3]
      exact ih m (i + 1) w3 c t rp3 r up3 vb vn3 vo3 vl3 X3 G3 (k + 1) S3 (by omega) (by omega) h3' (by omega) (by omega) hb3
theorem f10_s {n : Int} {l m : List Op8} (hl : rdS 3 oOp8 w va l) (hm : rdS 3 oOp8 w vs m) (kk : ∀ w', Below w.heap.size w w' → Q (.bool true) w') : f10 (.int .i64 n) va vs w Q := by
  unfold f10
  refine f14_s fun w1 b1 => ?_
  try simp only [↓reduceIte, ↓LL, LM, Value.cells, Nat.reduceAdd, Option.some.injEq, exists_eq_left', decide_true, decide_false, if_true, if_false, reduceCtorEq, cond_true, cond_false]
  refine f15_s ?_
  obtain ⟨p1, p2⟩ := pagesN_bd n
  try simp only [↓reduceIte, ↓LL, LM, Value.cells, Nat.reduceAdd, Option.some.injEq, exists_eq_left', decide_true, decide_false, if_true, if_false, reduceCtorEq, cond_true, cond_false]
  refine f54_s p1 p2 fun w2 x c t rp r up vb vn G S h2 b2 => ?_
  try simp only [↓reduceIte, ↓LL, LM, Value.cells, Nat.reduceAdd, Option.some.injEq, exists_eq_left', decide_true, decide_false, if_true, if_false, reduceCtorEq, cond_true, cond_false, get0, get1]
  refine f55_s (rdS_below oOp8_st b1 hl) fun va' hva => ?_
  try simp only [↓reduceIte, ↓LL, LM, Value.cells, Nat.reduceAdd, Option.some.injEq, exists_eq_left', decide_true, decide_false, if_true, if_false, reduceCtorEq, cond_true, cond_false]
  refine f55_s (rdS_below oOp8_st b1 hm) fun vs' hvs => ?_
  try simp only [↓reduceIte, ↓LL, LM, Value.cells, Nat.reduceAdd, Option.some.injEq, exists_eq_left', decide_true, decide_false, if_true, if_false, reduceCtorEq, cond_true, cond_false]
  refine ⟨_, two_a (W := w1) hva (by rw [List.length_take]; omega) p1 p2 (fun w3 c t rp r up vb vn vo vl X G k S h3 k0 k1 b3 => ?_) (l.take 200).length ((l.take 200).length + 1) 0 w2 c t rp r up vb vn _ [] _ G 1 S (by omega) (by omega) h2 (by decide) (by decide) b2⟩
  exact two_j1 (W := w1) hvs (by rw [List.length_take]; omega) p1 p2 h3 k0 (by omega) b3 fun w4 b4 => kk w4 (bt b1 b4)
end
end Go.Proofs.YtongpnolikkknaaGreatDoor

namespace Go.Proofs.YtongpnolikkknaaGreatDoor
open Go.ChangeShapes Go.WideShapes Go.ChangeAt Go.RowKit
open Sh
def R10 := RiOO8
def b10 : Int × List Op8 × List Op8 → Nat := fun _ => 0
theorem oa10 : OpensA Tryz.prog [3, 86, 86] (Int × List Op8 × List Op8) R10 b10 := oaiOO8
theorem law10 (W : World) (vs : List Value) (a : Int × List Op8 × List Op8) (h : R10 W vs a) : Calls Tryz.prog 10 vs.toArray W (Rt fun v W' => v = .bool true ∧ Below W.heap.size W W') := by
  obtain ⟨v, u, rfl, h1, h2⟩ := h
  exact s10 _ _ _ _ _ (f10_s h1 h2 fun w' hb => ⟨rfl, hb⟩)
set_option maxRecDepth 1000000 in
theorem lifted10 (os : Os) (started : os.Started) (H : Type) (enc : TypeId × Value → H) :
    ReturnsInHanded {} Tryz.checked os 10 .any (fun w args => (Rows.spaceTwoSpec.pre enc Tryz.prog Tryz.f10 Rows.spaceTwoRow.domain false w args ∧ laidMetH Tryz.prog Rows.spaceTwoRow.laid w) ∧ sizedMet enc Tryz.prog Tryz.f10 (OpenSpec.ofChange Rows.spaceTwoSpec) false w args) (Rows.spaceTwoSpec.post enc Tryz.prog Tryz.f10 false true false false) := by
  refine law_from_laid (C := Tryz.checked) (X := (fun w _ => laidMetH Tryz.prog Rows.spaceTwoRow.laid w)) (tb := 4) (R := R10) (b := b10) (fun _ _ _ hh h => h.of_heap hh) own started (by kernel_rfl) Tryz.func10
    (ChangeSpec.witness_at (enc := enc) (C := Tryz.checked) (os := os) (X := (fun w _ => laidMetH Tryz.prog Rows.spaceTwoRow.laid w)) false (laidW Tryz.prog Rows.spaceTwoRow.laid os) #[.int .i64 0, .slice none 0 0, .slice none 0 0] 8 rfl (by kernel_rfl) (by kernel_rfl) (by kernel_rfl) (by kernel_rfl) (by kernel_rfl) (laidW_metH os _))
    rfl (by kernel_rfl) (by kernel_rfl) rfl Tryz.underlying4 (fun ds hd => ?_) ?_ law10
  · match ds, hd with
    | [d0, d1, d2], _ => exact ⟨rfl, rfl, rfl⟩
  · show OpensA Tryz.prog Tryz.f10.params.toList _ R10 b10
    rw [Tryz.params10]; exact oa10
theorem spaceTwo_row : Rows.SpaceTwoSaid :=
  OpenClaim.holds_of_wide 10 Tryz.f10 rfl rfl rfl rfl rfl rfl rfl ⟨rfl, rfl, rfl, rfl, rfl⟩ rfl rfl rfl rfl rfl (by kernel_rfl) Tryz.func10 (by kernel_rfl)
    (of_decide_eq_true (by kernel_rfl)) (by unfold Func.isWrapper; first | (rw [if_pos (by decide +kernel)]; kernel_rfl) | (rw [if_neg (by decide +kernel)]; exact ⟨rfl, rfl⟩))
    (fun os started H enc _ => lifted10 os started H enc)
theorem spaceTwo_holds : Rows.SpaceTwoCardSaid :=
  Claim7.holds_tied_plain_at .later [] Rows.spaceTwoCard.laidKinds true Rows.spaceTwoCard.stood.harness Rows.spaceTwoCard.stood.looks
    spaceTwo_row (fun _ h => by cases h) (by kernel_rfl) (fun _ h => by cases h) spaceTwo_row_tie rfl ⟨rfl, rfl⟩ (by kernel_rfl) (by kernel_rfl)
    (fun f fn hf hfn => by
      obtain rfl : f = 10 := Option.some.inj ((show Tryz.prog.funcNamed Rows.spaceTwoRow.func = some 10 by kernel_rfl).symm.trans hf) |>.symm
      obtain rfl : fn = Tryz.f10 := (Option.some.inj (Tryz.func10.symm.trans hfn)).symm
      exact ⟨by kernel_rfl, no_stand (by kernel_rfl)⟩)
    (by kernel_rfl)
#print axioms spaceTwo_holds
end Go.Proofs.YtongpnolikkknaaGreatDoor
