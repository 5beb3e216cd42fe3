/- The layer space, plain: which pages are used, bit by bit. -/
import Derived.Test.YtongpnolikkknaaGreatDoorZ3
import Derived.Shelf.SlGeneric
import Derived.Shelf.SlIterI.Nil
import Derived.Shelf.SortM.Plain
import Derived.Shelf.SortM.SortNone
import Derived.Ground.GgzProg
import Derived.Ground.SlgmProg
import Derived.Shelf.SlMaps.Clone
import Derived.Ground.SlmcProg
import Derived.Test.YtongpnolikkknaaGreatDoorProg
set_option linter.unusedVariables false
set_option linter.unusedSimpArgs false
set_option linter.unusedSectionVars false
set_option maxRecDepth 20000
namespace Go.Proofs.YtongpnolikkknaaGreatDoor
open Sh RowKit Go.MapKept
def bytN (U : List Nat) (n : Nat) : Nat := U.getD (n / 8) 0
def isB (U : List Nat) (n : Nat) : Bool := (bytN U n).testBit (n % 8)
def trnB (U : List Nat) (n : Nat) : List Nat := U.set (n / 8) (bytN U n ^^^ 2 ^ (n % 8))
structure UOk (U : List Nat) : Prop where
  len : U.length = 20
  bd : ∀ x ∈ U, x < 256
theorem bytN_lt {U : List Nat} (h : UOk U) (n : Nat) : bytN U n < 256 := by
  unfold bytN
  rw [List.getD_eq_getElem?_getD]
  cases hx : U[n / 8]? with
  | none => simp
  | some x => exact h.bd x (List.mem_of_getElem? hx)
theorem pow_lt8 {k : Nat} (h : k < 8) : 2 ^ k < 256 := by
  have : 2 ^ k < 2 ^ 8 := Nat.pow_lt_pow_right (by decide) h
  omega
theorem trnB_ok {U : List Nat} (h : UOk U) (n : Nat) : UOk (trnB U n) := by
  refine ⟨by unfold trnB; rw [List.length_set]; exact h.len, fun x hx => ?_⟩
  rcases List.mem_or_eq_of_mem_set hx with hx | rfl
  · exact h.bd x hx
  · have := Nat.xor_lt_two_pow (n := 8) (show bytN U n < 2 ^ 8 from bytN_lt h n) (show 2 ^ (n % 8) < 2 ^ 8 from pow_lt8 (Nat.mod_lt _ (by decide)))
    exact this
theorem isB_trn {U : List Nat} (h : UOk U) {n : Nat} (hn : n < 160) (m : Nat) : isB (trnB U n) m = if m = n then !isB U m else isB U m := by
  have hl := h.len
  unfold isB
  by_cases hd : n / 8 = m / 8
  · have e : bytN (trnB U n) m = bytN U m ^^^ 2 ^ (n % 8) := by
      unfold bytN trnB
      rw [List.getD_eq_getElem?_getD, ← hd, List.getElem?_set_self (by omega)]
      rfl
    rw [e, Nat.testBit_xor, Nat.testBit_two_pow]
    by_cases hm : m = n
    · subst hm
      rw [if_pos rfl]
      simp
    · rw [if_neg hm]
      have : ¬ n % 8 = m % 8 := by omega
      simp [this]
  · have e : bytN (trnB U n) m = bytN U m := by
      unfold bytN trnB
      rw [List.getD_eq_getElem?_getD, List.getElem?_set_ne (by omega), ← List.getD_eq_getElem?_getD]
    rw [e, if_neg (by rintro rfl; exact hd rfl)]
theorem and_two (a k : Nat) : (a &&& 2 ^ k ≠ 0) ↔ a.testBit k = true := by
  constructor
  · intro h
    apply Classical.byContradiction
    intro hn
    refine h (Nat.eq_of_testBit_eq fun i => ?_)
    rw [Nat.testBit_and, Nat.testBit_two_pow, Nat.zero_testBit]
    by_cases e : k = i
    · subst e
      simp at hn
      simp [hn]
    · simp [e]
  · intro h hz
    have : (a &&& 2 ^ k).testBit k = true := by
      rw [Nat.testBit_and, Nat.testBit_two_pow, h]
      simp
    rw [hz, Nat.zero_testBit] at this
    cases this
section
variable {w : World} {Q : Value → World → Prop} {K : Value → M}
theorem bits_u8 {a b : Nat} (ha : a < 256) (hb : b < 256) : bits .and .u8 (a : Int) (b : Int) = ((a &&& b : Nat) : Int) ∧ bits .xor .u8 (a : Int) (b : Int) = ((a ^^^ b : Nat) : Int) := by
  have h1 : (BitVec.ofInt 8 (a : Int)).toNat = a := by
    rw [BitVec.ofInt_natCast, BitVec.toNat_ofNat]; exact Nat.mod_eq_of_lt (by omega)
  have h2 : (BitVec.ofInt 8 (b : Int)).toNat = b := by
    rw [BitVec.ofInt_natCast, BitVec.toNat_ofNat]; exact Nat.mod_eq_of_lt (by omega)
  constructor
  · have hx : a &&& b < 2 ^ 8 := Nat.and_lt_two_pow _ (by omega)
    show IntKind.u8.wrap ((BitVec.ofInt 8 (a : Int) &&& BitVec.ofInt 8 (b : Int)).toNat : Int) = _
    rw [BitVec.toNat_and, h1, h2, wrap_u8]
    omega
  · have hx : a ^^^ b < 2 ^ 8 := Nat.xor_lt_two_pow (by omega) (by omega)
    show IntKind.u8.wrap ((BitVec.ofInt 8 (a : Int) ^^^ BitVec.ofInt 8 (b : Int)).toNat : Int) = _
    rw [BitVec.toNat_xor, h1, h2, wrap_u8]
    omega
theorem and8 {a b : Nat} (ha : a < 256) (hb : b < 256) : bws .and .u8 (.int .u8 (a : Int)) (.int .u8 (b : Int)) K w Q = K (.int .u8 ((a &&& b : Nat) : Int)) w Q := by
  have e : ∀ (P : Program) (w : World), (Op.intBits .and .u8 (a : Int) (b : Int)).run P w = .ok (.int .u8 ((a &&& b : Nat) : Int)) w := fun P w => by
    rw [Go.intBits_and, (bits_u8 ha hb).1]; rfl
  apply propext
  constructor
  · rintro ⟨a', b', v, h1, h2, h3, h4⟩
    cases h1; cases h2
    have := (h3 default w).symm.trans (e _ w)
    cases this
    exact h4
  · intro h; exact ⟨_, _, _, rfl, rfl, e, h⟩
theorem xor8 {a b : Nat} (ha : a < 256) (hb : b < 256) : bws .xor .u8 (.int .u8 (a : Int)) (.int .u8 (b : Int)) K w Q = K (.int .u8 ((a ^^^ b : Nat) : Int)) w Q := by
  have e : ∀ (P : Program) (w : World), (Op.intBits .xor .u8 (a : Int) (b : Int)).run P w = .ok (.int .u8 ((a ^^^ b : Nat) : Int)) w := fun P w => by
    rw [Go.intBits_xor, (bits_u8 ha hb).2]; rfl
  apply propext
  constructor
  · rintro ⟨a', b', v, h1, h2, h3, h4⟩
    cases h1; cases h2
    have := (h3 default w).symm.trans (e _ w)
    cases this
    exact h4
  · intro h; exact ⟨_, _, _, rfl, rfl, e, h⟩
theorem shl8 {k : Nat} (hk : k < 8) : shl .u8 .i64 (.int .u8 1) (.int .i64 (k : Int)) K w Q = K (.int .u8 ((2 ^ k : Nat) : Int)) w Q := by
  rw [shl_e]
  have e : IntKind.u8.wrap (1 * 2 ^ (min ((k : Int).toNat) IntKind.u8.bits)) = ((2 ^ k : Nat) : Int) := by
    rcases (by omega : k = 0 ∨ k = 1 ∨ k = 2 ∨ k = 3 ∨ k = 4 ∨ k = 5 ∨ k = 6 ∨ k = 7) with rfl | rfl | rfl | rfl | rfl | rfl | rfl | rfl <;> rfl
  rw [e]
  apply propext
  exact ⟨fun h => h.2, fun h => ⟨by omega, h⟩⟩
theorem div8 {n : Nat} (h : n < 1000000) : IntKind.i64.wrap ((n : Int).tdiv 8) = ((n / 8 : Nat) : Int) := by
  have e : (n : Int).tdiv 8 = ((n / 8 : Nat) : Int) := (Int.ofNat_tdiv n 8).symm
  rw [e, w64 (by omega) (by omega)]
theorem mod8 (n : Nat) : (n : Int).tmod 8 = ((n % 8 : Nat) : Int) := (Int.ofNat_tmod n 8).symm
end
section
variable {P : Program} {w : World} {Q : Value → World → Prop} {K : Value → M}
theorem run_copy_cut {dT sT ty elem : TypeId} {g o dLen dCap : Nat} {s : ByteArray} {cur : Array Value} {t : TypeId} (hu : P.underlying dT = some (.slice elem)) (hs : (P.info? elem).map (·.size) = some 1)
    (hg : w.heap[g]? = some (.cells cur t (0, 0))) (hle : dLen ≤ s.size) (hfit : o + dLen ≤ cur.size) :
    (Builtin.copy_ #[dT, sT] ty #[.slice (some ⟨g, o, none⟩) dLen dCap, .string s]).run P w = .ok (.int .i64 dLen) (w.setRow g (ovl cur.toList o (((byL s).take dLen).map (.int .u8))).toArray) := by
  have hb : byL (s.extract 0 dLen) = (byL s).take dLen := by rw [byL_take]; simp
  have hc : (Builtin.firstCells 1 dLen (.string s)).run P w = .ok (((byL s).take dLen).map (Value.int .u8)).toArray w := by
    rw [← hb]
    simp only [Builtin.firstCells, Sem.run_pure, byL]
    congr 1
    apply Array.ext'
    simp [Function.comp_def]
  have hl : (((byL s).take dLen).map (Value.int .u8)).length = dLen := by rw [List.length_map, List.length_take, byL_len]; omega
  have hst := run_storeCells_at P g o t (((byL s).take dLen).map (Value.int .u8)) 0 cur w hg (by rw [hl]; simpa using hfit) (by intro v hv; obtain ⟨a, _, rfl⟩ := List.mem_map.1 hv; rfl)
  have hmin : Nat.min s.size dLen = dLen := Nat.min_eq_right hle
  generalize ((byL s).take dLen).map (Value.int .u8) = bts at *
  cases hq : P.info? elem with
  | none => simp [hq] at hs
  | some i =>
    have hi : i.size = 1 := by simpa [hq] using hs
    simp only [Nat.add_zero] at hst
    simp [Builtin.copy_, run_underlying hu, Builtin.lenOf, sizeOf, typeInfo, hq, hi, hmin, hc, hst, goInt, ovl, Result.andThen]
theorem iaaU {t k : Nat} (hk : k < 20) : iaa 20 1 (.pointer (some ⟨t, 1, none⟩)) (.int .i64 (k : Int)) K w Q = K (.pointer (some ⟨t, 1 + k, none⟩)) w Q := by
  rw [iaa_e, Int.toNat_natCast, Nat.mul_one, add_lit]
  apply propext
  exact ⟨fun h => h.2.2, fun h => ⟨by omega, by omega, h⟩⟩
theorem sla_at {n : Nat} {a : Addr} (h0 : n ≠ 0) (k : K (.slice (some a) n n) w Q) : sla n 1 (.pointer (some a)) none none K w Q := by
  refine ⟨a, 0, n, rfl, rfl, rfl, ?_⟩
  rw [if_neg h0]
  exact k
end
/-- a piece of work in memory -/
def wCell (c : Nat) (U : List Nat) (hd : ByteArray) (mp : Nat) (vn : Value) (ov : Bool) : Array Value := (pv c :: ((U.map fun (x : Nat) => Value.int .u8 (x : Int)) ++ [.string hd, .map (some mp), vn, .bool ov])).toArray
section
variable {c mp : Nat} {U : List Nat} {hd : ByteArray} {vn : Value} {ov : Bool}
theorem wc_u (h : U.length = 20) {k : Nat} (hk : k < 20) : (wCell c U hd mp vn ov)[1 + k]? = some (.int .u8 ((U.getD k 0 : Nat) : Int)) := by
  unfold wCell
  rw [List.getElem?_toArray, Nat.add_comm, List.getElem?_cons_succ, List.getElem?_append_left (by rw [List.length_map]; omega), List.getElem?_map, List.getElem?_eq_getElem (by omega), List.getD_eq_getElem?_getD, List.getElem?_eq_getElem (by omega)]
  rfl
theorem wc_r (h : U.length = 20) (k : Nat) : (wCell c U hd mp vn ov)[21 + k]? = ([.string hd, .map (some mp), vn, .bool ov] : List Value)[k]? := by
  unfold wCell
  rw [List.getElem?_toArray, show 21 + k = (20 + k) + 1 by omega, List.getElem?_cons_succ, List.getElem?_append_right (by rw [List.length_map]; omega), List.length_map, h, Nat.add_sub_cancel_left]
theorem wc_size (h : U.length = 20) : (wCell c U hd mp vn ov).size = 25 := by
  unfold wCell
  simp [h]
theorem wc_setu (h : U.length = 20) {k x : Nat} (hk : k < 20) : (wCell c U hd mp vn ov).setIfInBounds (1 + k) (.int .u8 (x : Int)) = wCell c (U.set k x) hd mp vn ov := by
  unfold wCell
  apply Array.toList_inj.1
  rw [Array.toList_setIfInBounds]
  simp only
  rw [Nat.add_comm, List.set_cons_succ, List.set_append_left _ _ (by rw [List.length_map]; omega), List.map_set]
theorem wc_setr (h : U.length = 20) {k : Nat} {v : Value} : (wCell c U hd mp vn ov).setIfInBounds (21 + k) v = (pv c :: ((U.map fun (x : Nat) => Value.int .u8 (x : Int)) ++ ([.string hd, .map (some mp), vn, .bool ov] : List Value).set k v)).toArray := by
  unfold wCell
  apply Array.toList_inj.1
  rw [Array.toList_setIfInBounds]
  simp only
  rw [show 21 + k = (20 + k) + 1 by omega, List.set_cons_succ, List.set_append_right _ _ (by rw [List.length_map]; omega), List.length_map, h, Nat.add_sub_cancel_left]
end
end Go.Proofs.YtongpnolikkknaaGreatDoor

set_option maxRecDepth 20000
set_option maxHeartbeats 4000000
namespace Go.Proofs.YtongpnolikkknaaGreatDoor
open Sh RowKit Go.MapKept
def setE (E : List (Nat × Ch)) (x : Ch) : List (Nat × Ch) := E.map fun e => if e.2.1 = x.1 then (e.1, x) else e
def cmE (E : List (Nat × Ch)) (cs : List Ch) : List (Nat × Ch) := cs.foldl setE E
def cmC (C : Ca) (K : List Ch) : Ca := { C with K := K }
theorem setE_fst (E : List (Nat × Ch)) (x : Ch) : (setE E x).map (·.1) = E.map (·.1) := by
  unfold setE
  rw [List.map_map]
  refine List.map_congr_left fun e _ => ?_
  show (if e.2.1 = x.1 then (e.1, x) else e).1 = e.1
  split <;> rfl
theorem setE_num (E : List (Nat × Ch)) (x : Ch) : (setE E x).map (·.2.1) = E.map (·.2.1) := by
  unfold setE
  rw [List.map_map]
  refine List.map_congr_left fun e _ => ?_
  show (if e.2.1 = x.1 then (e.1, x) else e).2.1 = e.2.1
  split
  · rename_i h; exact h.symm
  · rfl
theorem setE_len (E : List (Nat × Ch)) (x : Ch) : (setE E x).length = E.length := by unfold setE; rw [List.length_map]
theorem setE_fnd (E : List (Nat × Ch)) (x : Ch) (n : Int) : (fnd (setE E x) n).map (fun e => pv e.1) = (fnd E n).map fun e => pv e.1 := by
  induction E with
  | nil => rfl
  | cons e E ih =>
    show (fnd ((if e.2.1 = x.1 then (e.1, x) else e) :: setE E x) n).map _ = _
    rw [fnd_cons, fnd_cons]
    by_cases h : e.2.1 = x.1
    · rw [if_pos h]
      show (if x.1 = n then _ else _ : Option (Nat × Ch)).map _ = _
      by_cases hn : e.2.1 = n
      · rw [if_pos hn, if_pos (h.symm.trans hn)]; rfl
      · rw [if_neg hn, if_neg (fun h' => hn (h.trans h')), ih]
    · rw [if_neg h]
      by_cases hn : e.2.1 = n
      · rw [if_pos hn, if_pos hn]
      · rw [if_neg hn, if_neg hn, ih]
theorem setE_none {E : List (Nat × Ch)} {x : Ch} (h : fnd E x.1 = none) : setE E x = E := by
  unfold setE
  refine (List.map_congr_left fun e he => ?_).trans (List.map_id E)
  rw [if_neg]; rfl
  intro hx
  have := List.find?_eq_none.1 h e he
  simp only [decide_eq_true_eq] at this
  exact this hx
theorem cmE_fst (cs : List Ch) : ∀ E : List (Nat × Ch), (cmE E cs).map (·.1) = E.map (·.1) := by
  induction cs with
  | nil => intro E; rfl
  | cons c cs ih => intro E; show (cmE (setE E c) cs).map _ = _; rw [ih, setE_fst]
theorem cmE_snoc (E : List (Nat × Ch)) (cs : List Ch) (x : Ch) : cmE E (cs ++ [x]) = setE (cmE E cs) x := by unfold cmE; rw [List.foldl_append]; rfl
theorem fpA_fst {c mb : Nat} {E E' : List (Nat × Ch)} (h : E'.map (·.1) = E.map (·.1)) : ∀ k, fpA c mb E' k ↔ fpA c mb E k := by
  have aux : ∀ {E E' : List (Nat × Ch)}, E'.map (·.1) = E.map (·.1) → ∀ k, fpA c mb E' k → fpA c mb E k := by
    intro E E' h k hk
    rcases hk with (hk | ⟨e, he, hk⟩) | hk
    · exact .inl (.inl hk)
    · have : e.1 ∈ E.map (·.1) := by rw [← h]; exact List.mem_map.2 ⟨e, he, rfl⟩
      obtain ⟨a, ha, hx⟩ := List.mem_map.1 this
      exact .inl (.inr ⟨a, ha, by rw [hk, hx]⟩)
    · exact .inr hk
  exact fun k => ⟨aux h k, aux h.symm k⟩
section
variable {B : Nat} {W w w' : World} {c q mb p b : Nat} {v u lv : Value} {C : Ca} {E : List (Nat × Ch)} {G : Pg} {D : Dv} {Q : Value → World → Prop} {Bc : Nat}
/-- a kept page's bytes stored -/
theorem CaAt.sD {e : Nat × Ch} {x : Ch} {K0 : M} (hc : CaAt B w c q mb C E) (he : e ∈ E) (hx : e.2.1 = x.1) (kk : ∀ w', CaAt B w' c q mb (cmC C ((setE E x).map (·.2))) (setE E x) → ChgS (fpA c mb E) w w' → K0 w' Q) : st (.pointer (some ⟨e.1, 3, none⟩)) (.string x.2) K0 w Q := by
  obtain ⟨f, hm, hr⟩ := hc.rg
  obtain ⟨ML, hmp, hlk⟩ := hc.mp
  have hnn : (E.map (·.2.1)).Nodup := by have := hc.nk; rwa [hc.K, nums_map] at this
  refine st_box (o := 3) (v := .string x.2) (hm.lk e he) (by show 3 < 4; decide) rfl fun w1 h1 u1 => kk w1 ?_ (ChgS.of_upd u1 (.inl (.inr ⟨e, he, rfl⟩)))
  refine ⟨rfl, ⟨f, ⟨hm.cB, fun a ha => ?_, ?_, fun a ha => ?_, by rw [setE_fst]; exact hm.nd⟩, ?_⟩, hc.mB, ⟨ML, hmp.stay (u1.block mb (hm.mne hmp e.1 (.inr ⟨e, he, rfl⟩)).symm), fun n => by rw [setE_fnd]; exact hlk n⟩, ?_, by rw [setE_len]; exact hc.le, hc.l64⟩
  · obtain ⟨a0, ha0, rfl⟩ := List.mem_map.1 ha
    split
    · exact hm.eB a0 ha0
    · exact hm.eB a0 ha0
  · rw [u1.block c (hm.ne e he).symm, setE_len]; exact hm.cb
  · obtain ⟨a0, ha0, rfl⟩ := List.mem_map.1 ha
    by_cases hn : a0.2.1 = x.1
    · rw [if_pos hn]
      have : a0 = e := by
        have h1 : a0.2.1 = e.2.1 := hn.trans hx.symm
        obtain ⟨i, hi, rfl⟩ := List.mem_iff_getElem.1 ha0
        obtain ⟨j, hj, rfl⟩ := List.mem_iff_getElem.1 he
        have := (List.getElem?_inj (l := E.map (·.2.1)) (i := i) (j := j) (by simpa using hi) hnn).1 (by simp [List.getElem?_eq_getElem, hi, hj, h1])
        simp [this]
      subst this
      rw [h1]
      unfold lCell
      rw [← hx]
      rfl
    · rw [if_neg hn]
      have : a0.1 ≠ e.1 := fun h => hn (by rw [nd_inj hm.nd ha0 he h]; exact hx)
      rw [u1.block a0.1 this]
      exact hm.lk a0 ha0
  · have : (nds (setE E x) : List Nd) = nds E := by
      have e1 : (nds (setE E x) : List Nd) = ((setE E x).map (·.1)).map some := by unfold nds; rw [List.map_map]; rfl
      have e2 : (nds E : List Nd) = (E.map (·.1)).map some := by unfold nds; rw [List.map_map]; rfl
      rw [e1, e2, setE_fst]
    rw [this]; exact hr
  · show (nums ((setE E x).map (·.2))).Nodup
    rw [nums_map, setE_num]; exact hnn
theorem commit7_loop {cs : List Ch} {Bc : Nat} (hl : cs.length ≤ 1000) (hsep : ∀ g, lv.ownBlock = some g → ¬ fpA c mb E g) (hE : CaAt B W c q mb C E) (hcs : ownE Bc 48 2 encC W lv cs) :
    ∀ (d m i : Nat) (w : World), i + d = cs.length → d < m → ChgS (fpA c mb E) W w → CaAt B w c q mb (cmC C ((cmE E (cs.take i)).map (·.2))) (cmE E (cs.take i)) →
    (∀ w', ChgS (fpA c mb E) W w' → CaAt B w' c q mb (cmC C ((cmE E cs).map (·.2))) (cmE E cs) → Q (.int .i64 0) w') →
    itr (fun _ _ _ _ => bot) (f25_b2 f25_j1) m (pv c) lv (.int .i64 ((cs.length : Nat) : Int)) (.int .i64 ((i : Nat) : Int)) w Q := by
  intro d
  induction d with
  | zero =>
    intro m i w hi hm hg hc kk
    obtain ⟨m, rfl⟩ : ∃ x, m = x + 1 := ⟨m - 1, by omega⟩
    show f25_b2 f25_j1 _ _ _ _ _ w Q
    unfold f25_b2
    have cc : ¬ (i : Int) < (cs.length : Nat) := by omega
    try simp only [↓reduceIte, ↓LL, LM, Value.cells, Nat.reduceAdd, Option.some.injEq, exists_eq_left', decide_true, decide_false, if_true, if_false, reduceCtorEq, cond_true, cond_false, cc]
    unfold f25_j1
    rw [List.take_of_length_le (by omega)] at hc
    try simp only [↓reduceIte, ↓LL, LM, Value.cells, Nat.reduceAdd, Option.some.injEq, exists_eq_left', decide_true, decide_false, if_true, if_false, reduceCtorEq, cond_true, cond_false]
    exact kk w hg hc
  | succ d ih =>
    intro m i w hi hm hg hc kk
    obtain ⟨m, rfl⟩ : ∃ x, m = x + 1 := ⟨m - 1, by omega⟩
    show f25_b2 f25_j1 _ _ _ _ _ w Q
    unfold f25_b2
    have cc : (i : Int) < (cs.length : Nat) := by omega
    have hil : i < cs.length := by omega
    have h3 : IntKind.i64.wrap ((i : Int) + 1) = ((i + 1 : Nat) : Int) := by rw [w64 (by omega) (by omega)]; rfl
    have hcsw : ownE Bc 48 2 encC w lv cs := ownE_chg hcs hg fun g hg' => hsep g hg'
    obtain ⟨aad, es, he1, he2, he3, hia⟩ := rdS_at (ownE_rd encC_len (by decide) hcsw) hil
    have hts : cs.take (i + 1) = cs.take i ++ [cs[i]] := List.take_succ_eq_append_getElem hil
    try simp only [↓reduceIte, ↓LL, LM, Value.cells, Nat.reduceAdd, Option.some.injEq, exists_eq_left', decide_true, decide_false, if_true, if_false, reduceCtorEq, cond_true, cond_false, cc, hia]
    refine ldn_at he2 he1 ?_
    have he3 : es = encC cs[i] := he3
    rw [he3]
    generalize cs[i] = x at *
    have b1 := b_psh w (.cells #[.int .i64 0, .string ⟨#[]⟩] 48)
    have k1 := blk_psh_new (w := w) (o := .cells #[.int .i64 0, .string ⟨#[]⟩] 48)
    try simp only [↓reduceIte, ↓LL, LM, Value.cells, Nat.reduceAdd, Option.some.injEq, exists_eq_left', decide_true, decide_false, if_true, if_false, reduceCtorEq, cond_true, cond_false]
    refine stn_box k1 (by simp) (by simp [encC]) (by intro y hy; exact encC_one x y (by simpa using hy)) fun w2 k2 u2 => ?_
    have b2 : Below w.heap.size w w2 := b1.trans (u2.below (Nat.le_refl _))
    have hc2 := hc.below b2
    have hg2 : ChgS (fpA c mb E) W w2 := hg.trans (ChgS.of_below b2) fun _ _ h => h
    have d0 : (drw w2).cell? ⟨w.heap.size, 0, none⟩ = some (.int .i64 x.1) := by show w2.cell? _ = _; rw [cell_of_blk k2]; rfl
    have d1 : (drw w2).cell? ⟨w.heap.size, 1, none⟩ = some (.string x.2) := by show w2.cell? _ = _; rw [cell_of_blk k2]; rfl
    have d0' : w2.cell? ⟨w.heap.size, 0, none⟩ = some (.int .i64 x.1) := d0
    have d1' : w2.cell? ⟨w.heap.size, 1, none⟩ = some (.string x.2) := d1
    obtain ⟨f, hm2, hr2⟩ := hc2.rg
    obtain ⟨ML, hmp2, hlk2⟩ := hc2.mp
    have c7 : (drw w2).cell? ⟨c, 7, none⟩ = some (.map (some mb)) := by show w2.cell? _ = _; rw [cell_of_blk hm2.cb]; rfl
    have c7' : w2.cell? ⟨c, 7, none⟩ = some (.map (some mb)) := c7
    have hlook : ∀ (K : Value → M), smr Tryz.prog (Instr.lookup 115 (.map (some mb)) (.int .i64 x.1) true) K (drw w2) Q = K (.tuple #[((fnd (cmE E (cs.take i)) x.1).map fun e => pv e.1).getD (.pointer none), .bool ((fnd (cmE E (cs.take i)) x.1).map fun e => pv e.1).isSome]) (drw w2) Q := fun K => by
      rw [show (Value.int .i64 x.1) = kI x.1 from rfl, look_ok (kv := kI) KKc (show MapAt kI (drw w2) mb ML from hmp2) zC x.1, hlk2 x.1]
    have eE : setE (cmE E (cs.take i)) x = cmE E (cs.take (i + 1)) := by rw [hts, cmE_snoc]
    have hc2d : CaAt B (drw w2) c q mb (cmC C ((cmE E (cs.take i)).map (·.2))) (cmE E (cs.take i)) := hc2.below ⟨rfl, rfl, rfl, Nat.le_refl _, fun _ _ => rfl⟩
    cases hf : fnd (cmE E (cs.take i)) x.1 with
    | none =>
      rw [hf] at hlook
      have g1 : ((none : Option (Nat × Ch)).map fun e => pv e.1).isSome = false := rfl
      try simp only [↓reduceIte, ↓LL, LM, Value.cells, Nat.reduceAdd, Option.some.injEq, exists_eq_left', decide_true, decide_false, if_true, if_false, reduceCtorEq, cond_true, cond_false, c7, c7', d0, d0', hlook, g1, get0, get1]
      unfold f25_j3
      try simp only [↓reduceIte, ↓LL, LM, Value.cells, Nat.reduceAdd, Option.some.injEq, exists_eq_left', decide_true, decide_false, if_true, if_false, reduceCtorEq, cond_true, cond_false, h3]
      refine ih m (i + 1) (drw w2) (by omega) (by omega) hg2.drw ?_ kk
      rw [← eE, setE_none hf]
      exact hc2d
    | some e =>
      rw [hf] at hlook
      obtain ⟨hemem, hen⟩ := fnd_mem hf
      have g0 : (((some e).map fun e : Nat × Ch => pv e.1).getD (.pointer none)) = pv e.1 := rfl
      have g1 : ((some e).map fun e : Nat × Ch => pv e.1).isSome = true := rfl
      try simp only [↓reduceIte, ↓LL, LM, Value.cells, Nat.reduceAdd, Option.some.injEq, exists_eq_left', decide_true, decide_false, if_true, if_false, reduceCtorEq, cond_true, cond_false, c7, c7', d0, d0', d1, d1', hlook, g0, g1, get0, get1]
      refine hc2d.sD hemem hen fun w3 hc3 hg3 => ?_
      unfold f25_j3
      try simp only [↓reduceIte, ↓LL, LM, Value.cells, Nat.reduceAdd, Option.some.injEq, exists_eq_left', decide_true, decide_false, if_true, if_false, reduceCtorEq, cond_true, cond_false, h3]
      rw [eE] at hc3
      refine ih m (i + 1) w3 (by omega) (by omega) (hg2.trans (T := fpA c mb E) ((hg3.mono fun k hk => (fpA_fst (cmE_fst _ _) k).1 hk).of_drw) fun _ _ h => h) hc3 kk
/-- a commit by way of the cache -/
theorem CP.commit {cs : List Ch} (h : CP B w c q mb p b v u C E G D) (hcs : ownE Bc 48 2 encC w lv cs) (hsep : ∀ g, lv.ownBlock = some g → ¬ fpX c q mb p b v u E g) (hcl : cs.length ≤ 1000)
    (h0 : 0 ≤ D.c) (h1 : D.c + 300 ≤ 1000000) (hG0 : 0 ≤ G.c) (hG1 : G.c ≤ 1000000) (hL : G.L.length ≤ 1000)
    (k1 : ∀ w', (commitB G D cs).1 ≠ 0 → CP B w' c q mb p b v u C E (commitB G D cs).2.2 (commitB G D cs).2.1 → ChgS (fpX c q mb p b v u E) w w' → Q (.int .i64 (commitB G D cs).1) w')
    (k0 : ∀ w', (commitB G D cs).1 = 0 → CP B w' c q mb p b v u (cmC C ((cmE E cs).map (·.2))) (cmE E cs) (commitB G D cs).2.2 (commitB G D cs).2.1 → ChgS (fpX c q mb p b v u E) w w' → Q (.int .i64 0) w') : f25 (pv c) lv w Q := by
  unfold f25
  rw [pn_eq ptK]
  obtain ⟨f, hb⟩ := h.ca.cb
  have c0 : w.cell? ⟨c, 0, none⟩ = some (pv q) := by rw [cell_of_blk hb]; rfl
  have ll := lnl_S (ownE_rd encC_len (by decide) hcs)
  try simp only [↓reduceIte, ↓LL, LM, Value.cells, Nat.reduceAdd, Option.some.injEq, exists_eq_left', decide_true, decide_false, if_true, if_false, reduceCtorEq, cond_true, cond_false, Option.isNone, c0]
  refine commit_at h.pg hcs h0 h1 hG0 hG1 hL fun w2 hp2 hg2 => ?_
  have hc2 : CaAt B w2 c q mb C E := h.ca.chg hg2 fun k hk hn => h.ap k hk hn
  have hcs2 : ownE Bc 48 2 encC w2 lv cs := ownE_chg hcs hg2 fun g hg hn => hsep g hg (.inr hn)
  have hgX : ChgS (fpX c q mb p b v u E) w w2 := hg2.mono fun k hk => .inr hk
  by_cases ce : (commitB G D cs).1 = 0
  · try simp only [↓reduceIte, ↓LL, LM, Value.cells, Nat.reduceAdd, Option.some.injEq, exists_eq_left', decide_true, decide_false, if_true, if_false, reduceCtorEq, cond_true, cond_false, ne_eq, ce, ll]
    refine ⟨_, commit7_loop (W := w2) (C := C) (E := E) hcl (fun g hg hn => hsep g hg (.inl hn)) hc2 hcs2 cs.length (cs.length + 1) 0 w2 (by omega) (by omega) (ChgS.refl _ _) ?_ fun w3 hg3 hc3 => ?_⟩
    · have : cmC C ((cmE E (cs.take 0)).map (·.2)) = C := by
        show cmC C (E.map (·.2)) = C
        rw [← hc2.K]; rfl
      rw [this]; exact hc2
    · refine k0 w3 ce ⟨hc3, hp2.chg hg3 fun k hk hn => h.ap k hn hk, fun k hk => h.ap k ((fpA_fst (cmE_fst _ _) k).1 hk)⟩ (hgX.trans (hg3.mono fun k hk => .inl hk) fun _ _ h => h)
  · try simp only [↓reduceIte, ↓LL, LM, Value.cells, Nat.reduceAdd, Option.some.injEq, exists_eq_left', decide_true, decide_false, if_true, if_false, reduceCtorEq, cond_true, cond_false, ne_eq, ce]
    exact k1 w2 ce ⟨hc2, hp2, h.ap⟩ hgX
end
end Go.Proofs.YtongpnolikkknaaGreatDoor

set_option maxRecDepth 20000
set_option maxHeartbeats 4000000
namespace Go.Proofs.YtongpnolikkknaaGreatDoor
open Sh RowKit Go.MapKept
structure RfAt (B : Nat) (w : World) (r : Nat) (u : Value) (L : List ByteArray) : Prop where
  rB : B ≤ r
  hr : w.heap[r]? = some (.cells #[u] 102 (0, 0))
  hu : ownV B 9 w u (L.map .string)
def fpR (r : Nat) (u : Value) : Nat → Prop := fun k => k = r ∨ u.ownBlock = some k
def encT (s : ByteArray) : List Value := [.string s]
theorem encT_len (s : ByteArray) : (encT s).length = 1 := rfl
theorem encT_one (s : ByteArray) : ∀ x ∈ encT s, x.oneCell' = true := fun x hx => by rw [List.mem_singleton.1 hx]; rfl
theorem flat_T (l : List ByteArray) : l.flatMap encT = l.map .string := by
  induction l with
  | nil => rfl
  | cons a l ih => rw [List.flatMap_cons, ih]; rfl
theorem ownV_T {B : Nat} {e : TypeId} {w : World} {v : Value} {l : List ByteArray} (h : ownV B e w v (l.map .string)) : ownE B e 1 encT w v l := by
  unfold ownV at h
  unfold ownE
  rw [flat_T]
  rw [List.length_map] at h
  exact h
theorem ownT_V {B : Nat} {e : TypeId} {w : World} {v : Value} {l : List ByteArray} (h : ownE B e 1 encT w v l) : ownV B e w v (l.map .string) := by
  unfold ownV
  unfold ownE at h
  rw [flat_T] at h
  rw [List.length_map]
  exact h
theorem buildR0 (w : World) : (Instr.build 102 #[]).run Tryz.prog w = .ok (.agg #[.slice none 0 0]) w := by
  kernel_rfl
section
variable {B : Nat} {W w w' : World} {r : Nat} {u v : Value} {L : List ByteArray} {Q : Value → World → Prop}
theorem RfAt.below (h : RfAt B w r u L) (hb : Below w.heap.size w w') : RfAt B w' r u L := ⟨h.rB, stay hb h.hr, ownV_below h.hu hb⟩
theorem RfAt.chg {S : Nat → Prop} (h : RfAt B w r u L) (hc : ChgS S w w') (hS : ∀ k, fpR r u k → ¬ S k) : RfAt B w' r u L := ⟨h.rB, hc.keep h.hr (hS r (.inl rfl)), ownV_chg h.hu hc fun g hg => hS g (.inr hg)⟩
theorem RfAt.weak {B' : Nat} (h : RfAt B w r u L) (hB : B' ≤ B) : RfAt B' w r u L := ⟨Nat.le_trans hB h.rB, h.hr, ownV_weak h.hu hB⟩
theorem RfAt.c0 (h : RfAt B w r u L) : w.cell? ⟨r, 0, none⟩ = some u := by rw [cell_of_blk h.hr]; rfl
theorem RfAt.lnl (h : RfAt B w r u L) : ∀ (K : Value → M) (w1 : World) (Q : Value → World → Prop), lnl u K w1 Q = K (.int .i64 ((L.length : Nat) : Int)) w1 Q := by
  have := lnl_own h.hu
  rwa [List.length_map] at this
theorem f88_s (kk : ∀ w', Below w.heap.size w w' → Q (.string (zs 256)) w') : f88 w Q := by
  unfold f88
  refine mkI (n := 256) (B := w.heap.size) sl61 (by omega) (by omega) (Nat.le_refl _) fun v w1 ho hb => ?_
  try simp only [↓reduceIte, ↓LL, LM, Value.cells, Nat.reduceAdd, Option.some.injEq, exists_eq_left', decide_true, decide_false, if_true, if_false, reduceCtorEq, cond_true, cond_false]
  refine cvb sl61 ud5 str9 (rdP_rd (ownI_rdP ho)) ?_
  try simp only [↓reduceIte, ↓LL, LM, Value.cells, Nat.reduceAdd, Option.some.injEq, exists_eq_left', decide_true, decide_false, if_true, if_false, reduceCtorEq, cond_true, cond_false]
  exact kk w1 hb
theorem new6_loop {n : Nat} {j1 : Value → M} (hn : n ≤ 1000) (hrW : W.heap.size ≤ r) : ∀ (d m i : Nat) (w : World) (u : Value), i + d = n → d < m → Below W.heap.size W w → w.heap[r]? = some (.cells #[u] 102 (0, 0)) → ownV W.heap.size 9 w u ((List.replicate i (zs 256)).map .string) →
    (∀ w' u', Below W.heap.size W w' → w'.heap[r]? = some (.cells #[u'] 102 (0, 0)) → ownV W.heap.size 9 w' u' ((List.replicate n (zs 256)).map .string) → j1 (pv r) w' Q) →
    itr (fun _ _ _ => bot) (f41_b2 j1) m (.int .i64 ((n : Nat) : Int)) (pv r) (.int .i64 ((i : Nat) : Int)) w Q := by
  intro d
  induction d with
  | zero =>
    intro m i w u hi hm hb hr ho kk
    obtain ⟨m, rfl⟩ : ∃ x, m = x + 1 := ⟨m - 1, by omega⟩
    show f41_b2 j1 _ _ _ _ w Q
    unfold f41_b2
    have c : ¬ (i : Int) < (n : Nat) := by omega
    try simp only [↓reduceIte, ↓LL, LM, Value.cells, Nat.reduceAdd, Option.some.injEq, exists_eq_left', decide_true, decide_false, if_true, if_false, reduceCtorEq, cond_true, cond_false, c]
    have : i = n := by omega
    rw [this] at ho
    exact kk w u hb hr ho
  | succ d ih =>
    intro m i w u hi hm hb hr ho kk
    obtain ⟨m, rfl⟩ : ∃ x, m = x + 1 := ⟨m - 1, by omega⟩
    show f41_b2 j1 _ _ _ _ w Q
    unfold f41_b2
    have c : (i : Int) < (n : Nat) := by omega
    have h3 : IntKind.i64.wrap ((i : Int) + 1) = ((i + 1 : Nat) : Int) := by rw [w64 (by omega) (by omega)]; rfl
    have c0 : w.cell? ⟨r, 0, none⟩ = some u := by rw [cell_of_blk hr]; rfl
    try simp only [↓reduceIte, ↓LL, LM, Value.cells, Nat.reduceAdd, Option.some.injEq, exists_eq_left', decide_true, decide_false, if_true, if_false, reduceCtorEq, cond_true, cond_false, c, c0]
    refine f88_s fun w2 b2 => ?_
    have b2 := of_drw' b2
    have hr2 := stay b2 hr
    have hb2 := bt hb b2
    have ho2 := ownV_below ho b2
    have c2 : w2.cell? ⟨r, 0, none⟩ = some u := by rw [cell_of_blk hr2]; rfl
    try simp only [↓reduceIte, ↓LL, LM, Value.cells, Nat.reduceAdd, Option.some.injEq, exists_eq_left', decide_true, decide_false, if_true, if_false, reduceCtorEq, cond_true, cond_false]
    refine ⟨by rw [Kld_e]; exact c2, ?_⟩
    have b4 := b_psh w2 (.cells #[.string (zs 256)] 9)
    refine ap_Tk (by rw [Kld_e]; exact cell_below b4 c2) ho2 (by rw [List.length_replicate]; omega) hb2.size fun w5 u5 o5 hc5 fr5 => ?_
    have uT : ∀ g, u.ownBlock = some g → W.heap.size ≤ g ∧ g ≠ r := fun g hg => by
      obtain ⟨h1, _, cur, hcur⟩ := ownV_lt ho g hg
      exact ⟨h1, fun e => by rw [e, hr] at hcur; cases hcur⟩
    have hr5 := hc5.keep hr2 fun h => (uT r h).2 rfl
    have hb5 : Below W.heap.size W w5 := hb2.trans (hc5.below (fun k hk => (uT k hk).1) hb2.size)
    try simp only [↓reduceIte, ↓LL, LM, Value.cells, Nat.reduceAdd, Option.some.injEq, exists_eq_left', decide_true, decide_false, if_true, if_false, reduceCtorEq, cond_true, cond_false]
    refine st_box (o := 0) (v := u5) hr5 (show 0 < 1 by decide) (by obtain ⟨x, y, rfl⟩ := ownV_len o5; rfl) fun w6 hr6 u6 => ?_
    have hr6 : w6.heap[r]? = some (.cells #[u5] 102 (0, 0)) := hr6
    try simp only [↓reduceIte, ↓LL, LM, Value.cells, Nat.reduceAdd, Option.some.injEq, exists_eq_left', decide_true, decide_false, if_true, if_false, reduceCtorEq, cond_true, cond_false, h3]
    refine ih m (i + 1) w6 u5 (by omega) (by omega) (hb5.trans (u6.below hrW)) hr6 ?_ kk
    have e : List.replicate (i + 1) (zs 256) = List.replicate i (zs 256) ++ [zs 256] := List.replicate_succ'
    rw [e]
    exact ownV_stay o5 fun g hg => u6.block g fun e => by
      obtain ⟨_, _, cur, hcur⟩ := ownV_lt o5 g hg
      rw [e, hr5] at hcur; cases hcur
theorem f41_s {n : Nat} (hn : n ≤ 1000) (kk : ∀ w' r u, Below w.heap.size w w' → RfAt w.heap.size w' r u (List.replicate n (zs 256)) → Q (pv r) w') : f41 (.int .i64 ((n : Nat) : Int)) w Q := by
  unfold f41
  rw [smr_run (buildR0 w)]
  have b1 := b_psh w (.cells #[.slice none 0 0] 102)
  have r1 := blk_psh_new (w := w) (o := .cells #[.slice none 0 0] 102)
  try simp only [↓reduceIte, ↓LL, LM, Value.cells, Nat.reduceAdd, Option.some.injEq, exists_eq_left', decide_true, decide_false, if_true, if_false, reduceCtorEq, cond_true, cond_false]
  generalize psh w (.cells #[.slice none 0 0] 102) = w1 at *
  refine ⟨_, new6_loop (W := w) hn (Nat.le_refl _) n (n + 1) 0 w1 _ (by omega) (by omega) b1 r1 ownV_nil fun w2 u2 b2 r2 o2 => ?_⟩
  unfold f41_j1
  try simp only [↓reduceIte, ↓LL, LM, Value.cells, Nat.reduceAdd, Option.some.injEq, exists_eq_left', decide_true, decide_false, if_true, if_false, reduceCtorEq, cond_true, cond_false]
  exact kk w2 _ u2 b2 ⟨Nat.le_refl _, r2, o2⟩
end
end Go.Proofs.YtongpnolikkknaaGreatDoor

set_option maxRecDepth 20000
set_option maxHeartbeats 4000000
namespace Go.Proofs.YtongpnolikkknaaGreatDoor
open Sh RowKit Go.MapKept
def callsN (n : Nat) : Int := if n = 0 then 0 else 8 * (n : Int) + 7
def pagesN (n : Int) : Nat := 1 + (um n 40).toNat
theorem pagesN_bd (n : Int) : 1 ≤ pagesN n ∧ pagesN n ≤ 40 := by
  have := um_bd n (show (0 : Int) < 40 by decide)
  unfold pagesN
  omega
section
variable {B Bc : Nat} {W w w' : World} {q p b r : Nat} {v u vp : Value} {L : List ByteArray} {G : Pg} {D : Dv} {Q : Value → World → Prop}
end
end Go.Proofs.YtongpnolikkknaaGreatDoor

set_option maxRecDepth 20000
set_option maxHeartbeats 4000000
namespace Go.Proofs.YtongpnolikkknaaGreatDoor
open Sh RowKit Go.MapKept
def anyG (m : Nat) (l : List Int) (f0 : Int) : Int := if l.any (fun x => decide ((m : Int) ≤ x)) = true then 10 else f0
section
variable {B : Nat} {W w w' : World} {q p b : Nat} {v u : Value} {D : Dv} {Q : Value → World → Prop}
end
end Go.Proofs.YtongpnolikkknaaGreatDoor

/-
  DERIVED: THE SHELF's CONTRACTS AT THIS DUMP, IN PLAIN WORDS (tools/lay-plain.mjs out of 'TryzKeptZ.lean', which tools/lay-shelf.mjs wrote): THE SAME DECLARATIONS UNDER THE SAME NAMES: 'import', 'namespace', 'open', 'def', 'theorem' AND NOTHING ELSE: no command of the shelf's: FOR A HAND-IN. Each laying: the table of numbers ('.._ren') and one theorem, a field a fact of the dump's own or the kernel's comparison; each contract: ONE APPLICATION.
-/
namespace Go.Proofs
open Go.Shelf
def YtongpnolikkknaaGreatDoor.keysB_ren : Go.Shelf.Ren := ⟨fun | 7 => 126 | 10 => 154 | n => n, fun | 23 => 107 | 26 => 3 | 3 => 9 | 28 => 142 | 0 => 0 | 27 => 141 | 33 => 60 | 4 => 4 | n => n, fun | n => n⟩
theorem YtongpnolikkknaaGreatDoor.keysB : Go.Proofs.SlLaysZI.n7 Tryz.prog YtongpnolikkknaaGreatDoor.keysB_ren := {
  mixed := by kernel_rfl
  f7 := ⟨Tryz.f126.name, by decide, Tryz.func126.trans (congrArg some (by kernel_rfl))⟩
  f10 := ⟨Tryz.f154.name, by decide, Tryz.func154.trans (congrArg some (by kernel_rfl))⟩
  t0 := Tryz.underlying0
  a0 := Tryz.isAgg0
  z0 := Tryz.sizeOf0
  v0 := Tryz.zeroValue0
  t4 := Tryz.underlying4
  a4 := Tryz.isAgg4
  z4 := Tryz.sizeOf4
  v4 := Tryz.zeroValue4
  t23 := Tryz.underlying107
  a23 := Tryz.isAgg107
  z23 := Tryz.sizeOf107
  v23 := Tryz.zeroValue107
  t26 := Tryz.underlying3
  a26 := Tryz.isAgg3
  z26 := Tryz.sizeOf3
  v26 := Tryz.zeroValue3
  t27 := Tryz.underlying141
  a27 := Tryz.isAgg141
  z27 := Tryz.sizeOf141
  v27 := Tryz.zeroValue141
  t28 := Tryz.underlying142
  a28 := Tryz.isAgg142
  z28 := Tryz.sizeOf142
  v28 := Tryz.zeroValue142
  t33 := Tryz.underlying60
  a33 := Tryz.isAgg60
  z33 := Tryz.sizeOf60
  v33 := Tryz.zeroValue60 }
def YtongpnolikkknaaGreatDoor.sortedA_ren : Go.Shelf.Ren := ⟨fun | 6 => 92 | 8 => 120 | 9 => 121 | 11 => 151 | 13 => 153 | 12 => 152 | 23 => 181 | 24 => 182 | 14 => 172 | 15 => 173 | 16 => 174 | 17 => 175 | 18 => 176 | 19 => 177 | 20 => 178 | 21 => 179 | 22 => 180 | 25 => 189 | 26 => 190 | 27 => 191 | 28 => 192 | 29 => 193 | 30 => 194 | 31 => 198 | n => n, fun | 26 => 3 | 28 => 142 | 24 => 22 | 0 => 0 | 3 => 3 | 37 => 37 | 48 => 198 | 50 => 185 | 4 => 4 | 40 => 218 | 39 => 217 | 45 => 223 | 5 => 5 | 9 => 9 | 51 => 234 | 55 => 238 | 57 => 241 | 58 => 242 | 33 => 60 | n => n, fun | n => n⟩
theorem YtongpnolikkknaaGreatDoor.sortedA : Go.Proofs.SlLaysZI.n6 Tryz.prog YtongpnolikkknaaGreatDoor.sortedA_ren := {
  mixed := by kernel_rfl
  f6 := ⟨Tryz.f92.name, by decide, Tryz.func92.trans (congrArg some (by kernel_rfl))⟩
  f8 := ⟨Tryz.f120.name, by decide, Tryz.func120.trans (congrArg some (by kernel_rfl))⟩
  f11 := ⟨Tryz.f151.name, by decide, Tryz.func151.trans (congrArg some (by kernel_rfl))⟩
  t0 := Tryz.underlying0
  a0 := Tryz.isAgg0
  z0 := Tryz.sizeOf0
  v0 := Tryz.zeroValue0
  t24 := Tryz.underlying22
  a24 := Tryz.isAgg22
  z24 := Tryz.sizeOf22
  v24 := Tryz.zeroValue22
  t26 := Tryz.underlying3
  a26 := Tryz.isAgg3
  z26 := Tryz.sizeOf3
  v26 := Tryz.zeroValue3
  t28 := Tryz.underlying142
  a28 := Tryz.isAgg142
  z28 := Tryz.sizeOf142
  v28 := Tryz.zeroValue142
  i26 := by kernel_rfl }
def YtongpnolikkknaaGreatDoor.sortA_ren : Go.Shelf.Ren := ⟨fun | 5 => 121 | 8 => 153 | 7 => 152 | 19 => 181 | 20 => 182 | 10 => 172 | 11 => 173 | 12 => 174 | 13 => 175 | 14 => 176 | 15 => 177 | 16 => 178 | 17 => 179 | 18 => 180 | 30 => 189 | 31 => 190 | 32 => 191 | 33 => 192 | 34 => 193 | 35 => 194 | 40 => 198 | n => n, fun | 23 => 22 | 25 => 3 | 3 => 3 | 32 => 37 | 22 => 22 | 0 => 0 | 44 => 198 | 46 => 185 | 4 => 4 | 36 => 218 | 35 => 217 | 41 => 223 | 5 => 5 | 9 => 9 | 53 => 234 | 57 => 238 | 63 => 241 | 64 => 242 | n => n, fun | n => n⟩
theorem YtongpnolikkknaaGreatDoor.sortA : Go.Proofs.SlLaysM.n5 Tryz.prog YtongpnolikkknaaGreatDoor.sortA_ren := {
  mixed := by kernel_rfl
  f5 := ⟨Tryz.f121.name, by decide, Tryz.func121.trans (congrArg some (by kernel_rfl))⟩
  f7 := ⟨Tryz.f152.name, by decide, Tryz.func152.trans (congrArg some (by kernel_rfl))⟩
  f8 := Tryz.func153.trans (congrArg some (by kernel_rfl))
  f10 := ⟨Tryz.f172.name, by decide, Tryz.func172.trans (congrArg some (by kernel_rfl))⟩
  f11 := ⟨Tryz.f173.name, by decide, Tryz.func173.trans (congrArg some (by kernel_rfl))⟩
  f12 := ⟨Tryz.f174.name, by decide, Tryz.func174.trans (congrArg some (by kernel_rfl))⟩
  f13 := ⟨Tryz.f175.name, by decide, Tryz.func175.trans (congrArg some (by kernel_rfl))⟩
  f14 := ⟨Tryz.f176.name, by decide, Tryz.func176.trans (congrArg some (by kernel_rfl))⟩
  f15 := ⟨Tryz.f177.name, by decide, Tryz.func177.trans (congrArg some (by kernel_rfl))⟩
  f16 := ⟨Tryz.f178.name, by decide, Tryz.func178.trans (congrArg some (by kernel_rfl))⟩
  f17 := ⟨Tryz.f179.name, by decide, Tryz.func179.trans (congrArg some (by kernel_rfl))⟩
  f18 := ⟨Tryz.f180.name, by decide, Tryz.func180.trans (congrArg some (by kernel_rfl))⟩
  f19 := Tryz.func181.trans (congrArg some (by kernel_rfl))
  f20 := Tryz.func182.trans (congrArg some (by kernel_rfl))
  f30 := ⟨Tryz.f189.name, by decide, Tryz.func189.trans (congrArg some (by kernel_rfl))⟩
  f31 := Tryz.func190.trans (congrArg some (by kernel_rfl))
  f32 := Tryz.func191.trans (congrArg some (by kernel_rfl))
  f33 := ⟨Tryz.f192.name, by decide, Tryz.func192.trans (congrArg some (by kernel_rfl))⟩
  f34 := ⟨Tryz.f193.name, by decide, Tryz.func193.trans (congrArg some (by kernel_rfl))⟩
  f35 := ⟨Tryz.f194.name, by decide, Tryz.func194.trans (congrArg some (by kernel_rfl))⟩
  f40 := ⟨Tryz.f198.name, by decide, Tryz.func198.trans (congrArg some (by kernel_rfl))⟩
  t0 := Tryz.underlying0
  a0 := Tryz.isAgg0
  z0 := Tryz.sizeOf0
  v0 := Tryz.zeroValue0
  t3 := Tryz.underlying3
  a3 := Tryz.isAgg3
  z3 := Tryz.sizeOf3
  v3 := Tryz.zeroValue3
  t4 := Tryz.underlying4
  a4 := Tryz.isAgg4
  z4 := Tryz.sizeOf4
  v4 := Tryz.zeroValue4
  t5 := Tryz.underlying5
  a5 := Tryz.isAgg5
  z5 := Tryz.sizeOf5
  v5 := Tryz.zeroValue5
  t9 := Tryz.underlying9
  a9 := Tryz.isAgg9
  z9 := Tryz.sizeOf9
  v9 := Tryz.zeroValue9
  t22 := Tryz.underlying22
  a22 := Tryz.isAgg22
  z22 := Tryz.sizeOf22
  v22 := Tryz.zeroValue22
  t23 := Tryz.underlying22
  a23 := Tryz.isAgg22
  z23 := Tryz.sizeOf22
  v23 := Tryz.zeroValue22
  t25 := Tryz.underlying3
  a25 := Tryz.isAgg3
  z25 := Tryz.sizeOf3
  v25 := Tryz.zeroValue3
  t32 := Tryz.underlying37
  a32 := Tryz.isAgg37
  z32 := Tryz.sizeOf37
  v32 := Tryz.zeroValue37
  t35 := Tryz.underlying217
  a35 := Tryz.isAgg217
  z35 := Tryz.sizeOf217
  v35 := Tryz.zeroValue217
  t36 := Tryz.underlying218
  a36 := Tryz.isAgg218
  z36 := Tryz.sizeOf218
  v36 := Tryz.zeroValue218
  t41 := Tryz.underlying223
  a41 := Tryz.isAgg223
  z41 := Tryz.sizeOf223
  v41 := Tryz.zeroValue223
  t44 := Tryz.underlying198
  a44 := Tryz.isAgg198
  z44 := Tryz.sizeOf198
  v44 := Tryz.zeroValue198
  t46 := Tryz.underlying185
  a46 := Tryz.isAgg185
  z46 := Tryz.sizeOf185
  v46 := Tryz.zeroValue185
  t53 := Tryz.underlying234
  a53 := Tryz.isAgg234
  z53 := Tryz.sizeOf234
  v53 := Tryz.zeroValue234
  t57 := Tryz.underlying238
  a57 := Tryz.isAgg238
  z57 := Tryz.sizeOf238
  v57 := Tryz.zeroValue238
  t63 := Tryz.underlying241
  a63 := Tryz.isAgg241
  z63 := Tryz.sizeOf241
  v63 := Tryz.zeroValue241
  t64 := Tryz.underlying242
  a64 := Tryz.isAgg242
  z64 := Tryz.sizeOf242
  v64 := Tryz.zeroValue242 }
def YtongpnolikkknaaGreatDoor.cloneA_ren : Go.Shelf.Ren := ⟨fun | 5 => 127 | 7 => 155 | n => n, fun | 23 => 107 | 25 => 3 | 3 => 9 | 4 => 4 | 20 => 20 | n => n, fun | n => n⟩
theorem YtongpnolikkknaaGreatDoor.cloneA : Go.Proofs.SlLaysW.n5 Tryz.prog YtongpnolikkknaaGreatDoor.cloneA_ren := {
  mixed := by kernel_rfl
  f5 := ⟨Tryz.f127.name, by decide, Tryz.func127.trans (congrArg some (by kernel_rfl))⟩
  f7 := Tryz.func155.trans (congrArg some (by kernel_rfl))
  t4 := Tryz.underlying4
  a4 := Tryz.isAgg4
  z4 := Tryz.sizeOf4
  v4 := Tryz.zeroValue4
  t20 := Tryz.underlying20
  a20 := Tryz.isAgg20
  z20 := Tryz.sizeOf20
  v20 := Tryz.zeroValue20
  t23 := Tryz.underlying107
  a23 := Tryz.isAgg107
  z23 := Tryz.sizeOf107
  v23 := Tryz.zeroValue107 }
end Go.Proofs

namespace Go.Proofs.YtongpnolikkknaaGreatDoor
open Go.Shelf
open Sh RowKit Go.Maps Go.Sort
theorem sortsA (m : Nat) : AnyZI.SortsIn Tryz.prog sortedA_ren Fence.wide m :=
  ⟨fun blk off cap ss W hH hblk hsz => callsIn_wide.2 (AnyM.slices_Sort_int sortA blk off cap ss W hH hblk hsz),
   fun p cap W => callsIn_wide.2 (AnyM.slices_Sort_int_none sortA p cap W)⟩
abbrev R0 : Value → Option (DataW Unit × List MemPlace) := fun _ => some (.map [], [])
open Go.WideElems in
theorem ownsMap_of {w : World} {b : Nat} {L : List (Int × Value)} (h : MapAt kI w b L) (hk : ∀ p ∈ L, 0 ≤ p.1 ∧ p.1 < 4096) (hL : L.length ≤ 4096) :
    ∃ D0 : DataW Unit, w.ownsMap Tryz.prog 3 R0 b L.length D0 ∧ (intKeys D0).Perm (L.map (·.1)) ∧ Maps.size D0 = L.length := by
  obtain ⟨es, clock, h1, h2, h3⟩ := h
  have hlen : es.size = L.length := by have := congrArg List.length h3; simpa using this
  have hrd : ∀ x ∈ es.toList, ∃ i : Int, (∃ v, (i, v) ∈ L) ∧ x.key = .int .i64 i ∧ WideElems.rd (H := Unit) Tryz.prog 3 R0 x = some (.int .i64 i, .map []) := by
    intro x hx
    have : (x.key, x.val) ∈ L.map (fun p => (kI p.1, p.2)) := h3 ▸ List.mem_map.2 ⟨x, hx, rfl⟩
    obtain ⟨p, hp, e⟩ := List.mem_map.1 this
    have e1 : x.key = kI p.1 := (Prod.mk.inj e).1.symm
    have hr := hk p hp
    have hw : (Lit.int .i64 p.1).wf = true := by
      unfold Lit.wf; simp [IntKind.min, IntKind.max, IntKind.signed, IntKind.bits]; omega
    refine ⟨p.1, ⟨p.2, hp⟩, e1, ?_⟩
    unfold WideElems.rd
    rw [e1, show kI p.1 = .int .i64 p.1 from rfl, Go.Maps.keyOf_int_mk Tryz.underlying3 hw]
    rfl
  refine ⟨.map ((es.toList.map (rg Tryz.prog 3 R0)).foldr DataW.insert []), ⟨es, clock, h1, ⟨by rw [hlen]; unfold maxLen; omega, h2, fun x hx => ?_⟩, by omega, rfl⟩, ?_, ?_⟩
  · obtain ⟨i, _, _, e⟩ := hrd x hx
    exact ⟨_, e⟩
  · show List.Perm (((es.toList.map (rg Tryz.prog 3 R0)).foldr DataW.insert []).map fun p => Go.intOf p.1) _
    refine ((WideShapes.sorted_perm _).map _).trans ?_
    have : (es.toList.map (rg (H := Unit) Tryz.prog 3 R0)).map (fun p => Go.intOf p.1) = L.map (·.1) := by
      rw [List.map_map]
      have e2 : L.map (·.1) = (L.map (fun p => (kI p.1, p.2))).map (fun q => match q.1 with | .int _ a => a | _ => 0) := by
        rw [List.map_map]; rfl
      rw [e2, ← h3, List.map_map]
      refine List.map_congr_left fun x hx => ?_
      obtain ⟨i, _, e, e'⟩ := hrd x hx
      simp [rg, e', e, Go.intOf]
    rw [this]
  · show ((es.toList.map (rg Tryz.prog 3 R0)).foldr DataW.insert []).length = _
    rw [(WideShapes.sorted_perm _).length_eq, List.length_map, Array.length_toList, hlen]
end Go.Proofs.YtongpnolikkknaaGreatDoor

set_option maxRecDepth 20000
namespace Go.Proofs.YtongpnolikkknaaGreatDoor
open Sh RowKit Go.MapKept
section
variable {B : Nat} {w : World} {p b : Nat} {v : Value} {D : Dv} {Q : Value → World → Prop}
end
end Go.Proofs.YtongpnolikkknaaGreatDoor

set_option maxRecDepth 20000
set_option maxHeartbeats 4000000
namespace Go.Proofs.YtongpnolikkknaaGreatDoor
open Sh RowKit Go.MapKept
theorem commit_ok {G : Pg} {D : Dv} {cs : List Ch} (h : Rdy D G.L) (ha : AllS D.A) (hv : mayB G.st G.L.length cs = 0) (hh : D.c + 300 ≤ D.h) :
    ∃ D', commitB G D cs = (0, D', ⟨setL G.L cs, G.st, G.c + (if cs.length = 0 then 0 else 1)⟩) ∧ Rdy D' (setL G.L cs) ∧ D'.h = D.h ∧ D'.c = D.c + callsN cs.length ∧ AllS D'.A := by
  by_cases c : cs = []
  · subst c
    refine ⟨D, ?_, h, rfl, ?_, ha⟩
    · rw [commit_no (.inr rfl), hv]
      show ((0 : Int), D, G) = (0, D, ⟨G.L, G.st, G.c + 0⟩)
      rw [Int.add_zero]
    · show D.c = D.c + 0; omega
  · obtain ⟨D', h1, h2, h3, h4, h5, _⟩ := commit_rdy h hv c hh
    have hl : ¬ cs.length = 0 := fun e => c (List.length_eq_zero_iff.1 e)
    refine ⟨D', ?_, h2, h3, ?_, h5⟩
    · rw [h1, if_neg hl]
    · rw [h4]; unfold callsN; rw [if_neg hl]; omega
theorem new_all (n : Nat) : AllS (newD n).A := fun x hx => by
  rw [List.eq_of_mem_replicate (show x ∈ List.replicate n _ from hx)]
structure St (W w : World) (q p b r : Nat) (v u ur : Value) (G : Pg) (D : Dv) : Prop where
  pg : PgAt W.heap.size w q p b v u G D
  rf : RfAt W.heap.size w r ur G.L
  ap : ∀ k, fpP q p b v u k → ¬ fpR r ur k
  bw : Below W.heap.size W w
  rdy : Rdy D G.L
  st : G.st = false
  al : AllS D.A
  hh : D.h = 4611686018427387904
theorem RfAt.fpB {B : Nat} {w : World} {r : Nat} {u : Value} {L : List ByteArray} (h : RfAt B w r u L) : ∀ k, fpR r u k → B ≤ k := by
  rintro k (rfl | hk)
  · exact h.rB
  · exact (ownV_lt h.hu k hk).1
theorem RfAt.lt {B : Nat} {w : World} {r : Nat} {u : Value} {L : List ByteArray} (h : RfAt B w r u L) : ∀ k, fpR r u k → k < w.heap.size := by
  rintro k (rfl | hk)
  · exact blk_lt h.hr
  · exact (ownV_lt h.hu k hk).2.1
section
variable {W w w' : World} {q p b r : Nat} {v u ur vs : Value} {G : Pg} {D : Dv} {Q : Value → World → Prop}
end
end Go.Proofs.YtongpnolikkknaaGreatDoor

set_option maxRecDepth 20000
set_option maxHeartbeats 4000000
namespace Go.Proofs.YtongpnolikkknaaGreatDoor
open Sh RowKit Go.MapKept
def GoodK (K : List Ch) (L : List ByteArray) : Prop := ∀ x ∈ K, 0 ≤ x.1 ∧ L[x.1.toNat]? = some x.2
theorem GoodK.set {E : List (Nat × Ch)} {L : List ByteArray} {x : Ch} (h : GoodK (E.map (·.2)) L) (h0 : 0 ≤ x.1) (h1 : x.1 < (L.length : Int)) : GoodK ((setE E x).map (·.2)) (L.set x.1.toNat x.2) := by
  intro y hy
  obtain ⟨e, he, rfl⟩ := List.mem_map.1 hy
  obtain ⟨e0, he0, rfl⟩ := List.mem_map.1 he
  obtain ⟨q0, q1⟩ := h e0.2 (List.mem_map.2 ⟨e0, he0, rfl⟩)
  by_cases hn : e0.2.1 = x.1
  · rw [if_pos hn]
    exact ⟨h0, by show (L.set x.1.toNat x.2)[x.1.toNat]? = some x.2; rw [List.getElem?_set_self (by omega)]⟩
  · rw [if_neg hn]
    exact ⟨q0, by rw [List.getElem?_set_ne (by omega)]; exact q1⟩
theorem GoodK.commit : ∀ (cs : List Ch) (E : List (Nat × Ch)) (L : List ByteArray), GoodK (E.map (·.2)) L → (∀ x ∈ cs, 0 ≤ x.1 ∧ x.1 < (L.length : Int)) → GoodK ((cmE E cs).map (·.2)) (setL L cs)
  | [], E, L, h, _ => h
  | c :: cs, E, L, h, hb => by
    have hc := hb c (List.mem_cons_self ..)
    exact GoodK.commit cs (setE E c) (L.set c.1.toNat c.2) (h.set hc.1 hc.2) fun x hx => by rw [List.length_set]; exact hb x (List.mem_cons_of_mem _ hx)
theorem rdC_bd {C : Ca} {L : List ByteArray} {n k : Int} (h : 0 ≤ C.h ∧ C.h ≤ k ∧ 0 ≤ C.m ∧ C.m ≤ k) : 0 ≤ (rdC C L n).2.h ∧ (rdC C L n).2.h ≤ k + 1 ∧ 0 ≤ (rdC C L n).2.m ∧ (rdC C L n).2.m ≤ k + 1 := by
  unfold rdC
  split
  · show 0 ≤ C.h + 1 ∧ C.h + 1 ≤ k + 1 ∧ 0 ≤ C.m ∧ C.m ≤ k + 1; omega
  · split
    · show 0 ≤ C.h ∧ C.h ≤ k + 1 ∧ 0 ≤ C.m + 1 ∧ C.m + 1 ≤ k + 1; omega
    · show 0 ≤ C.h ∧ C.h ≤ k + 1 ∧ 0 ≤ C.m ∧ C.m ≤ k + 1; omega
section
variable {B : Nat} {W w w' : World} {c q mb p b : Nat} {v u vs vP : Value} {C : Ca} {E : List (Nat × Ch)} {G : Pg} {D : Dv} {Q : Value → World → Prop}
theorem fpX_fst {E' : List (Nat × Ch)} (h : E'.map (·.1) = E.map (·.1)) : ∀ k, fpX c q mb p b v u E' k ↔ fpX c q mb p b v u E k := by
  intro k
  constructor
  · rintro (hk | hk)
    · exact .inl ((fpA_fst h k).1 hk)
    · exact .inr hk
  · rintro (hk | hk)
    · exact .inl ((fpA_fst h k).2 hk)
    · exact .inr hk
end
end Go.Proofs.YtongpnolikkknaaGreatDoor

set_option maxRecDepth 20000
set_option maxHeartbeats 4000000
namespace Go.Proofs.YtongpnolikkknaaGreatDoor
open Sh RowKit Go.MapKept
theorem ptW : Tryz.prog.underlying 25 = some (.pointer (Tryz.prog.pointee 25)) := by kernel_rfl
theorem KKs : KeyK Tryz.prog 107 3 9 (.int .i64) kI := ⟨by kernel_rfl, by kernel_rfl, fun a => by simp [kI, IsKey], fun a b h => by simpa [kI] using h⟩
theorem zS : zeroIs Tryz.prog 9 (.string ⟨#[]⟩) := by unfold zeroIs; kernel_rfl
structure WkAt (B : Nat) (w : World) (t c mp : Nat) (U : List Nat) (hd : ByteArray) (F : Int → Option ByteArray) (vn : Value) (ov : Bool) : Prop where
  tB : B ≤ t
  mB : B ≤ mp
  hw : w.heap[t]? = some (.cells (wCell c U hd mp vn ov) 113 (0, 0))
  ok : UOk U
  mp : ∃ ML, MapAt kI w mp ML ∧ ∀ n, lk ML n = (F n).map .string
def fpW (t mp : Nat) : Nat → Prop := fun k => k = t ∨ k = mp
section
variable {B : Nat} {w w' : World} {t c mp q mb p b : Nat} {U : List Nat} {hd : ByteArray} {F : Int → Option ByteArray} {vn v u : Value} {ov : Bool} {C : Ca} {E : List (Nat × Ch)} {G : Pg} {D : Dv} {Q : Value → World → Prop}
theorem WkAt.c0 (h : WkAt B w t c mp U hd F vn ov) : w.cell? ⟨t, 0, none⟩ = some (pv c) := by rw [cell_of_blk h.hw]; rfl
theorem WkAt.cu (h : WkAt B w t c mp U hd F vn ov) {n : Nat} (hn : n < 160) : w.cell? ⟨t, 1 + n / 8, none⟩ = some (.int .u8 ((bytN U n : Nat) : Int)) := by rw [cell_of_blk h.hw, wc_u h.ok.len (by omega)]; rfl
theorem WkAt.c21 (h : WkAt B w t c mp U hd F vn ov) : w.cell? ⟨t, 21, none⟩ = some (.string hd) := by rw [cell_of_blk h.hw]; exact wc_r h.ok.len 0
theorem WkAt.c22 (h : WkAt B w t c mp U hd F vn ov) : w.cell? ⟨t, 22, none⟩ = some (.map (some mp)) := by rw [cell_of_blk h.hw]; exact wc_r h.ok.len 1
theorem WkAt.c23 (h : WkAt B w t c mp U hd F vn ov) : w.cell? ⟨t, 23, none⟩ = some vn := by rw [cell_of_blk h.hw]; exact wc_r h.ok.len 2
theorem WkAt.c24 (h : WkAt B w t c mp U hd F vn ov) : w.cell? ⟨t, 24, none⟩ = some (.bool ov) := by rw [cell_of_blk h.hw]; exact wc_r h.ok.len 3
theorem WkAt.below (h : WkAt B w t c mp U hd F vn ov) (hb : Below w.heap.size w w') : WkAt B w' t c mp U hd F vn ov := by
  obtain ⟨ML, h1, h2⟩ := h.mp
  exact ⟨h.tB, h.mB, stay hb h.hw, h.ok, ML, h1.below hb, h2⟩
theorem WkAt.chg {S : Nat → Prop} (h : WkAt B w t c mp U hd F vn ov) (hc : ChgS S w w') (hS : ∀ k, fpW t mp k → ¬ S k) : WkAt B w' t c mp U hd F vn ov := by
  obtain ⟨ML, h1, h2⟩ := h.mp
  exact ⟨h.tB, h.mB, hc.keep h.hw (hS t (.inl rfl)), h.ok, ML, h1.stay (hc.block mp h1.lt (hS mp (.inr rfl))), h2⟩
theorem WkAt.tm (h : WkAt B w t c mp U hd F vn ov) : t ≠ mp := by
  obtain ⟨ML, h1, h2⟩ := h.mp
  exact map_ne h1 h.hw
theorem WkAt.lt (h : WkAt B w t c mp U hd F vn ov) : ∀ k, fpW t mp k → k < w.heap.size := by
  obtain ⟨ML, h1, h2⟩ := h.mp
  rintro k (rfl | rfl)
  · exact blk_lt h.hw
  · exact h1.lt
theorem WkAt.fpB (h : WkAt B w t c mp U hd F vn ov) : ∀ k, fpW t mp k → B ≤ k := by
  rintro k (rfl | rfl)
  · exact h.tB
  · exact h.mB
theorem f71_s {n : Nat} (h : WkAt B w t c mp U hd F vn ov) (hn : n < 160) (kk : ∀ w', Below w.heap.size w w' → Q (.bool (isB U n)) w') : f71 (.pointer (some ⟨t, 1, none⟩)) (.int .i64 (n : Int)) w Q := by
  unfold f71
  have d1 := div8 (n := n) (by omega)
  have d2 := mod8 n
  have z8 : ¬ (8 : Int) = 0 := by decide
  have hk : n / 8 < 20 := by omega
  have cu : (drw w).cell? ⟨t, 1 + n / 8, none⟩ = _ := h.cu hn
  have cu' := h.cu hn
  have ia : ∀ (K : Value → M) (w : World) (Q : Value → World → Prop), iaa 20 1 (.pointer (some ⟨t, 1, none⟩)) (.int .i64 ((n / 8 : Nat) : Int)) K w Q = K (.pointer (some ⟨t, 1 + n / 8, none⟩)) w Q := fun K w Q => iaaU hk
  have s8 : ∀ (K : Value → M) (w : World) (Q : Value → World → Prop), shl .u8 .i64 (.int .u8 1) (.int .i64 ((n % 8 : Nat) : Int)) K w Q = K (.int .u8 ((2 ^ (n % 8) : Nat) : Int)) w Q := fun K w Q => shl8 (Nat.mod_lt _ (by decide))
  have a8 : ∀ (K : Value → M) (w : World) (Q : Value → World → Prop), bws .and .u8 (.int .u8 ((bytN U n : Nat) : Int)) (.int .u8 ((2 ^ (n % 8) : Nat) : Int)) K w Q = K (.int .u8 ((bytN U n &&& 2 ^ (n % 8) : Nat) : Int)) w Q := fun K w Q => and8 (bytN_lt h.ok n) (pow_lt8 (Nat.mod_lt _ (by decide)))
  have fin := kk (drw w) ⟨rfl, rfl, rfl, Nat.le_refl _, fun _ _ => rfl⟩
  have ht := and_two (bytN U n) (n % 8)
  cases hb : isB U n with
  | true =>
    rw [hb] at fin
    have hx : ¬ ((bytN U n &&& 2 ^ (n % 8) : Nat) : Int) = 0 := by
      have := ht.2 hb
      omega
    try simp only [↓reduceIte, ↓LL, LM, Value.cells, Nat.reduceAdd, Option.some.injEq, exists_eq_left', decide_true, decide_false, if_true, if_false, reduceCtorEq, cond_true, cond_false, ne_eq, z8, true_and, d1, ia, cu, cu', d2, s8, a8, hx]
    exact fin
  | false =>
    rw [hb] at fin
    have hx : ((bytN U n &&& 2 ^ (n % 8) : Nat) : Int) = 0 := by
      apply Classical.byContradiction
      intro hne
      have : isB U n = true := ht.1 (by omega)
      rw [hb] at this
      cases this
    try simp only [↓reduceIte, ↓LL, LM, Value.cells, Nat.reduceAdd, Option.some.injEq, exists_eq_left', decide_true, decide_false, if_true, if_false, reduceCtorEq, cond_true, cond_false, ne_eq, z8, true_and, d1, ia, cu, cu', d2, s8, a8, hx]
    exact fin
theorem f72_s {n : Nat} (h : WkAt B w t c mp U hd F vn ov) (hn : n < 160) (kk : ∀ w', WkAt B w' t c mp (trnB U n) hd F vn ov → ChgS (fun k => k = t) w w' → Q (.tuple #[]) w') : f72 (.pointer (some ⟨t, 1, none⟩)) (.int .i64 (n : Int)) w Q := by
  unfold f72
  have d1 := div8 (n := n) (by omega)
  have d2 := mod8 n
  have z8 : ¬ (8 : Int) = 0 := by decide
  have hk : n / 8 < 20 := by omega
  have cu : (drw w).cell? ⟨t, 1 + n / 8, none⟩ = _ := h.cu hn
  have cu' := h.cu hn
  have ia : ∀ (K : Value → M) (w : World) (Q : Value → World → Prop), iaa 20 1 (.pointer (some ⟨t, 1, none⟩)) (.int .i64 ((n / 8 : Nat) : Int)) K w Q = K (.pointer (some ⟨t, 1 + n / 8, none⟩)) w Q := fun K w Q => iaaU hk
  have s8 : ∀ (K : Value → M) (w : World) (Q : Value → World → Prop), shl .u8 .i64 (.int .u8 1) (.int .i64 ((n % 8 : Nat) : Int)) K w Q = K (.int .u8 ((2 ^ (n % 8) : Nat) : Int)) w Q := fun K w Q => shl8 (Nat.mod_lt _ (by decide))
  have x8 : ∀ (K : Value → M) (w : World) (Q : Value → World → Prop), bws .xor .u8 (.int .u8 ((bytN U n : Nat) : Int)) (.int .u8 ((2 ^ (n % 8) : Nat) : Int)) K w Q = K (.int .u8 ((bytN U n ^^^ 2 ^ (n % 8) : Nat) : Int)) w Q := fun K w Q => xor8 (bytN_lt h.ok n) (pow_lt8 (Nat.mod_lt _ (by decide)))
  try simp only [↓reduceIte, ↓LL, LM, Value.cells, Nat.reduceAdd, Option.some.injEq, exists_eq_left', decide_true, decide_false, if_true, if_false, reduceCtorEq, cond_true, cond_false, ne_eq, z8, true_and, d1, ia, cu, cu', d2, s8, x8]
  refine st_box (w := drw w) (o := 1 + n / 8) (v := .int .u8 ((bytN U n ^^^ 2 ^ (n % 8) : Nat) : Int)) (show (drw w).heap[t]? = _ from h.hw) (by rw [wc_size h.ok.len]; omega) rfl fun w1 h1 u1 => ?_
  rw [wc_setu h.ok.len hk] at h1
  obtain ⟨ML, m1, m2⟩ := h.mp
  try simp only [↓reduceIte, ↓LL, LM, Value.cells, Nat.reduceAdd, Option.some.injEq, exists_eq_left', decide_true, decide_false, if_true, if_false, reduceCtorEq, cond_true, cond_false]
  exact kk w1 ⟨h.tB, h.mB, h1, trnB_ok h.ok n, ML, m1.stay (u1.block mp h.tm.symm), m2⟩ ((ChgS.of_upd u1 (S := fun k => k = t) rfl).of_drw)
theorem f70_s (h : WkAt B w t c mp U hd F vn ov) (kk : Q (.int .i64 (if ov = true then 13 else 0)) w) : f70 (pv t) w Q := by
  unfold f70
  rw [pn_eq ptW]
  have c24 := h.c24
  cases ov with
  | true =>
    try simp only [↓reduceIte, ↓LL, LM, Value.cells, Nat.reduceAdd, Option.some.injEq, exists_eq_left', decide_true, decide_false, if_true, if_false, reduceCtorEq, cond_true, cond_false, Option.isNone, c24]
    exact kk
  | false =>
    try simp only [↓reduceIte, ↓LL, LM, Value.cells, Nat.reduceAdd, Option.some.injEq, exists_eq_left', decide_true, decide_false, if_true, if_false, reduceCtorEq, cond_true, cond_false, Option.isNone, c24]
    exact kk
/-- a piece of work, its cache, its pager -/
structure Wk (B : Nat) (w : World) (t c mp q mb p b : Nat) (v u : Value) (U : List Nat) (hd : ByteArray) (F : Int → Option ByteArray) (vn : Value) (ov : Bool) (C : Ca) (E : List (Nat × Ch)) (G : Pg) (D : Dv) : Prop where
  wk : WkAt B w t c mp U hd F vn ov
  cp : CP B w c q mb p b v u C E G D
  sep : ∀ k, fpX c q mb p b v u E k → ¬ fpW t mp k
theorem Wk.below (h : Wk B w t c mp q mb p b v u U hd F vn ov C E G D) (hb : Below w.heap.size w w') : Wk B w' t c mp q mb p b v u U hd F vn ov C E G D := ⟨h.wk.below hb, h.cp.below hb, h.sep⟩
theorem Wk.pages (h : Wk B w t c mp q mb p b v u U hd F vn ov C E G D) (kk : Q (.int .i64 (G.L.length : Nat)) w) : f28 (pv c) w Q := f28_s h.cp.ca h.cp.pg.hq h.cp.pg.hu kk
def thrB (U : List Nat) (N : Nat) (ov : Bool) (n : Int) : Int := if ov = true then 13 else if 0 < n ∧ n < (N : Int) ∧ isB U n.toNat = true then 0 else 7
theorem f74_s {n : Int} (h : Wk B w t c mp q mb p b v u U hd F vn ov C E G D) (hN : G.L.length ≤ 160) (kk : ∀ w', Below w.heap.size w w' → Q (.int .i64 (thrB U G.L.length ov n)) w') : f74 (pv t) (.int .i64 n) w Q := by
  unfold f74
  try simp only [↓reduceIte, ↓LL, LM, Value.cells, Nat.reduceAdd, Option.some.injEq, exists_eq_left', decide_true, decide_false, if_true, if_false, reduceCtorEq, cond_true, cond_false]
  refine f70_s h.wk ?_
  unfold thrB at kk
  cases ov with
  | true =>
    have z : ¬ (13 : Int) = 0 := by decide
    rw [if_pos rfl] at kk
    try simp only [↓reduceIte, ↓LL, LM, Value.cells, Nat.reduceAdd, Option.some.injEq, exists_eq_left', decide_true, decide_false, if_true, if_false, reduceCtorEq, cond_true, cond_false, ne_eq, z]
    exact kk w (Below.refl _ _)
  | false =>
    rw [if_neg (by decide)] at kk
    have c0 := h.wk.c0
    by_cases c1 : n ≤ 0
    · rw [if_neg (by omega)] at kk
      try simp only [↓reduceIte, ↓LL, LM, Value.cells, Nat.reduceAdd, Option.some.injEq, exists_eq_left', decide_true, decide_false, if_true, if_false, reduceCtorEq, cond_true, cond_false, ne_eq, c1]
      exact kk w (Below.refl _ _)
    · try simp only [↓reduceIte, ↓LL, LM, Value.cells, Nat.reduceAdd, Option.some.injEq, exists_eq_left', decide_true, decide_false, if_true, if_false, reduceCtorEq, cond_true, cond_false, ne_eq, c1, c0]
      refine h.pages ?_
      by_cases c2 : n < (G.L.length : Int)
      · have c2' : ¬ n ≥ ((G.L.length : Nat) : Int) := by omega
        have c2'' : ¬ ((G.L.length : Nat) : Int) ≤ n := by omega
        obtain ⟨n, rfl⟩ := Int.eq_ofNat_of_zero_le (show 0 ≤ n by omega)
        rw [Int.toNat_natCast] at kk
        try simp only [↓reduceIte, ↓LL, LM, Value.cells, Nat.reduceAdd, Option.some.injEq, exists_eq_left', decide_true, decide_false, if_true, if_false, reduceCtorEq, cond_true, cond_false, ne_eq, c2', c2'']
        refine f71_s h.wk (by omega) fun w2 b2 => ?_
        cases hb : isB U n with
        | true =>
          rw [hb, if_pos ⟨by omega, c2, rfl⟩] at kk
          try simp only [↓reduceIte, ↓LL, LM, Value.cells, Nat.reduceAdd, Option.some.injEq, exists_eq_left', decide_true, decide_false, if_true, if_false, reduceCtorEq, cond_true, cond_false]
          exact kk w2 b2
        | false =>
          rw [hb, if_neg (by rintro ⟨_, _, h⟩; cases h)] at kk
          try simp only [↓reduceIte, ↓LL, LM, Value.cells, Nat.reduceAdd, Option.some.injEq, exists_eq_left', decide_true, decide_false, if_true, if_false, reduceCtorEq, cond_true, cond_false]
          exact kk w2 b2
      · have c2' : n ≥ ((G.L.length : Nat) : Int) := by omega
        have c2'' : ((G.L.length : Nat) : Int) ≤ n := by omega
        rw [if_neg (by rintro ⟨_, h, _⟩; exact c2 h)] at kk
        try simp only [↓reduceIte, ↓LL, LM, Value.cells, Nat.reduceAdd, Option.some.injEq, exists_eq_left', decide_true, decide_false, if_true, if_false, reduceCtorEq, cond_true, cond_false, ne_eq, c2', c2'']
        exact kk w (Below.refl _ _)
theorem f73_s {n : Nat} (hn : n ≤ 1000) (kk : ∀ w', Below w.heap.size w w' → Q (.string (zs n)) w') : f73 (.int .i64 (n : Int)) w Q := by
  unfold f73
  refine rep_s hn fun w' hb => ?_
  try simp only [↓reduceIte, ↓LL, LM, Value.cells, Nat.reduceAdd, Option.some.injEq, exists_eq_left', decide_true, decide_false, if_true, if_false, reduceCtorEq, cond_true, cond_false]
  exact kk w' hb
def putF (F : Int → Option ByteArray) (n : Int) (s : ByteArray) : Int → Option ByteArray := fun m => if m = n then some s else F m
theorem WkAt.put {n : Int} {s : ByteArray} {K0 : M} (h : WkAt B w t c mp U hd F vn ov) (kk : ∀ w', WkAt B w' t c mp U hd (putF F n s) vn ov → ChgS (fun k => k = mp) w w' → K0 w' Q) : smu Tryz.prog (Instr.mapUpdate 107 (.map (some mp)) (.int .i64 n) (.string s)) K0 w Q := by
  obtain ⟨ML, h1, h2⟩ := h.mp
  refine upd_map (kv := kI) KKs h1 n (.string s) fun w1 hm1 u1 => kk w1 ⟨h.tB, h.mB, by rw [u1.block t h.tm]; exact h.hw, h.ok, _, hm1, fun m => ?_⟩ (ChgS.of_upd u1 rfl)
  rw [lk_put]
  unfold putF
  by_cases hm : m = n
  · rw [if_pos hm, if_pos hm]; rfl
  · rw [if_neg hm, if_neg hm]; exact h2 m
/-- the lowest page that isn't used -/
theorem take_loop (h : Wk B w t c mp q mb p b v u U hd F vn ov C E G D) (hN : G.L.length ≤ 160)
    (k0 : ∀ n : Nat, 1 ≤ n → n < G.L.length → isB U n = false → (∀ j, 1 ≤ j → j < n → isB U j = true) → ∀ w', Wk B w' t c mp q mb p b v u (trnB U n) hd (putF F ((n : Nat) : Int) (zs 256)) vn ov C E G D → ChgS (fpW t mp) w w' → Q (.tuple #[.int .i64 ((n : Nat) : Int), .int .i64 0]) w')
    (k8 : (∀ j, 1 ≤ j → j < G.L.length → isB U j = true) → ∀ w', Below w.heap.size w w' → Q (.tuple #[.int .i64 0, .int .i64 8]) w') :
    ∀ (d m i : Nat) (w1 : World), i + d = max G.L.length 1 → d < m → 1 ≤ i → Below w.heap.size w w1 → (∀ j, 1 ≤ j → j < i → isB U j = true) → itr (fun _ _ => bot) (f18_b2 f18_j1) m (pv t) (.int .i64 ((i : Nat) : Int)) w1 Q := by
  intro d
  induction d with
  | zero =>
    intro m i w1 hi hm h1 hb hall
    obtain ⟨m, rfl⟩ : ∃ x, m = x + 1 := ⟨m - 1, by omega⟩
    show f18_b2 f18_j1 _ _ _ w1 Q
    unfold f18_b2
    have hw := h.below hb
    have c0 := hw.wk.c0
    try simp only [↓reduceIte, ↓LL, LM, Value.cells, Nat.reduceAdd, Option.some.injEq, exists_eq_left', decide_true, decide_false, if_true, if_false, reduceCtorEq, cond_true, cond_false, c0]
    refine hw.pages ?_
    have cc : ¬ (i : Int) < ((G.L.length : Nat) : Int) := by omega
    try simp only [↓reduceIte, ↓LL, LM, Value.cells, Nat.reduceAdd, Option.some.injEq, exists_eq_left', decide_true, decide_false, if_true, if_false, reduceCtorEq, cond_true, cond_false, cc]
    unfold f18_j1
    try simp only [↓reduceIte, ↓LL, LM, Value.cells, Nat.reduceAdd, Option.some.injEq, exists_eq_left', decide_true, decide_false, if_true, if_false, reduceCtorEq, cond_true, cond_false]
    exact k8 (fun j hj hl => hall j hj (by omega)) w1 hb
  | succ d ih =>
    intro m i w1 hi hm h1 hb hall
    obtain ⟨m, rfl⟩ : ∃ x, m = x + 1 := ⟨m - 1, by omega⟩
    show f18_b2 f18_j1 _ _ _ w1 Q
    unfold f18_b2
    have hw := h.below hb
    have c0 := hw.wk.c0
    have hil : i < G.L.length := by omega
    have cc : (i : Int) < ((G.L.length : Nat) : Int) := by omega
    have h3 : IntKind.i64.wrap ((i : Int) + 1) = ((i + 1 : Nat) : Int) := by rw [w64 (by omega) (by omega)]; rfl
    try simp only [↓reduceIte, ↓LL, LM, Value.cells, Nat.reduceAdd, Option.some.injEq, exists_eq_left', decide_true, decide_false, if_true, if_false, reduceCtorEq, cond_true, cond_false, c0]
    refine hw.pages ?_
    try simp only [↓reduceIte, ↓LL, LM, Value.cells, Nat.reduceAdd, Option.some.injEq, exists_eq_left', decide_true, decide_false, if_true, if_false, reduceCtorEq, cond_true, cond_false, cc]
    refine f71_s hw.wk (by omega) fun w2 b2 => ?_
    have hw2 := hw.below b2
    have hb2 := bt hb b2
    cases hu : isB U i with
    | true =>
      try simp only [↓reduceIte, ↓LL, LM, Value.cells, Nat.reduceAdd, Option.some.injEq, exists_eq_left', decide_true, decide_false, if_true, if_false, reduceCtorEq, cond_true, cond_false, h3]
      exact ih m (i + 1) w2 (by omega) (by omega) (by omega) hb2 fun j hj hl => by
        rcases Nat.lt_or_ge j i with hlt | hge
        · exact hall j hj hlt
        · have : j = i := by omega
          rw [this]; exact hu
    | false =>
      try simp only [↓reduceIte, ↓LL, LM, Value.cells, Nat.reduceAdd, Option.some.injEq, exists_eq_left', decide_true, decide_false, if_true, if_false, reduceCtorEq, cond_true, cond_false]
      refine f72_s hw2.wk (by omega) fun w3 hk3 hg3 => ?_
      have c22 : (drw w3).cell? ⟨t, 22, none⟩ = some (.map (some mp)) := hk3.c22
      have c22' : w3.cell? ⟨t, 22, none⟩ = some (.map (some mp)) := c22
      have hg3W : ChgS (fpW t mp) w w3 := (ChgS.of_below hb2).trans (hg3.mono fun k hk => .inl hk) fun _ _ h => h
      try simp only [↓reduceIte, ↓LL, LM, Value.cells, Nat.reduceAdd, Option.some.injEq, exists_eq_left', decide_true, decide_false, if_true, if_false, reduceCtorEq, cond_true, cond_false, c22, c22']
      refine f73_s (n := 256) (by decide) fun w4 b4 => ?_
      have b4 := of_drw' b4
      have hk4 := hk3.below b4
      try simp only [↓reduceIte, ↓LL, LM, Value.cells, Nat.reduceAdd, Option.some.injEq, exists_eq_left', decide_true, decide_false, if_true, if_false, reduceCtorEq, cond_true, cond_false]
      refine ⟨by rw [Kld_e]; exact hk4.c22, ?_⟩
      refine hk4.put fun w5 hk5 hg5 => ?_
      try simp only [↓reduceIte, ↓LL, LM, Value.cells, Nat.reduceAdd, Option.some.injEq, exists_eq_left', decide_true, decide_false, if_true, if_false, reduceCtorEq, cond_true, cond_false]
      have hgA : ChgS (fpW t mp) w w5 := (hg3W.trans (ChgS.of_below b4) fun _ _ h => h).trans (hg5.mono fun k hk => .inr hk) fun _ _ h => h
      exact k0 i h1 hil hu hall w5 ⟨hk5, h.cp.chg hgA fun k hk hn => h.sep k hk hn, h.sep⟩ hgA
theorem f18_s (h : Wk B w t c mp q mb p b v u U hd F vn ov C E G D) (hN : G.L.length ≤ 160)
    (k13 : ov = true → Q (.tuple #[.int .i64 0, .int .i64 13]) w)
    (k0 : ov = false → ∀ n : Nat, 1 ≤ n → n < G.L.length → isB U n = false → (∀ j, 1 ≤ j → j < n → isB U j = true) → ∀ w', Wk B w' t c mp q mb p b v u (trnB U n) hd (putF F ((n : Nat) : Int) (zs 256)) vn ov C E G D → ChgS (fpW t mp) w w' → Q (.tuple #[.int .i64 ((n : Nat) : Int), .int .i64 0]) w')
    (k8 : ov = false → (∀ j, 1 ≤ j → j < G.L.length → isB U j = true) → ∀ w', Below w.heap.size w w' → Q (.tuple #[.int .i64 0, .int .i64 8]) w') : f18 (pv t) w Q := by
  unfold f18
  try simp only [↓reduceIte, ↓LL, LM, Value.cells, Nat.reduceAdd, Option.some.injEq, exists_eq_left', decide_true, decide_false, if_true, if_false, reduceCtorEq, cond_true, cond_false]
  refine f70_s h.wk ?_
  cases ov with
  | true =>
    have z : ¬ (13 : Int) = 0 := by decide
    try simp only [↓reduceIte, ↓LL, LM, Value.cells, Nat.reduceAdd, Option.some.injEq, exists_eq_left', decide_true, decide_false, if_true, if_false, reduceCtorEq, cond_true, cond_false, ne_eq, z]
    exact k13 rfl
  | false =>
    try simp only [↓reduceIte, ↓LL, LM, Value.cells, Nat.reduceAdd, Option.some.injEq, exists_eq_left', decide_true, decide_false, if_true, if_false, reduceCtorEq, cond_true, cond_false, ne_eq]
    exact ⟨_, take_loop h hN (k0 rfl) (k8 rfl) (max G.L.length 1 - 1) (max G.L.length 1) 1 w (by omega) (by omega) (Nat.le_refl _) (Below.refl _ _) fun j hj hl => by omega⟩
theorem f20_s {n : Int} (h : Wk B w t c mp q mb p b v u U hd F vn ov C E G D) (hN : G.L.length ≤ 160)
    (k1 : thrB U G.L.length ov n ≠ 0 → ∀ w', Below w.heap.size w w' → Q (.int .i64 (thrB U G.L.length ov n)) w')
    (k0 : thrB U G.L.length ov n = 0 → ∀ w', Wk B w' t c mp q mb p b v u (trnB U n.toNat) hd F vn ov C E G D → ChgS (fpW t mp) w w' → Q (.int .i64 0) w') : f20 (pv t) (.int .i64 n) w Q := by
  unfold f20
  try simp only [↓reduceIte, ↓LL, LM, Value.cells, Nat.reduceAdd, Option.some.injEq, exists_eq_left', decide_true, decide_false, if_true, if_false, reduceCtorEq, cond_true, cond_false]
  refine f74_s h hN fun w1 b1 => ?_
  by_cases ce : thrB U G.L.length ov n = 0
  · have hth : 0 < n ∧ n < (G.L.length : Int) ∧ isB U n.toNat = true := by
      unfold thrB at ce
      split at ce
      · cases ce
      · split at ce
        · rename_i h; exact h
        · cases ce
    have h1 := h.below b1
    obtain ⟨n, rfl⟩ := Int.eq_ofNat_of_zero_le (show 0 ≤ n by omega)
    rw [Int.toNat_natCast] at k0
    have k0' := k0 ce
    rw [ce]
    try simp only [↓reduceIte, ↓LL, LM, Value.cells, Nat.reduceAdd, Option.some.injEq, exists_eq_left', decide_true, decide_false, if_true, if_false, reduceCtorEq, cond_true, cond_false]
    refine f72_s h1.wk (by omega) fun w2 hk2 hg2 => ?_
    unfold f20_j1
    try simp only [↓reduceIte, ↓LL, LM, Value.cells, Nat.reduceAdd, Option.some.injEq, exists_eq_left', decide_true, decide_false, if_true, if_false, reduceCtorEq, cond_true, cond_false]
    have hg : ChgS (fpW t mp) w w2 := (ChgS.of_below b1).trans (hg2.mono fun k hk => .inl hk) fun _ _ h => h
    exact k0' w2 ⟨hk2, h.cp.chg hg fun k hk hn => h.sep k hk hn, h.sep⟩ hg
  · try simp only [↓reduceIte, ↓LL, LM, Value.cells, Nat.reduceAdd, Option.some.injEq, exists_eq_left', decide_true, decide_false, if_true, if_false, reduceCtorEq, cond_true, cond_false, ce]
    unfold f20_j1
    try simp only [↓reduceIte, ↓LL, LM, Value.cells, Nat.reduceAdd, Option.some.injEq, exists_eq_left', decide_true, decide_false, if_true, if_false, reduceCtorEq, cond_true, cond_false]
    exact k1 ce w1 b1
/-- how many pages from 1 to i - 1 are used -/
def cntB (U : List Nat) : Nat → Nat
  | 0 => 0
  | 1 => 0
  | i + 2 => cntB U (i + 1) + if isB U (i + 1) = true then 1 else 0
theorem cntB_succ (U : List Nat) {i : Nat} (h : 1 ≤ i) : cntB U (i + 1) = cntB U i + if isB U i = true then 1 else 0 := by
  obtain ⟨i, rfl⟩ : ∃ k, i = k + 1 := ⟨i - 1, by omega⟩
  rfl
theorem cntB_le (U : List Nat) : ∀ i, cntB U i ≤ i
  | 0 => Nat.le_refl _
  | 1 => by show 0 ≤ 1; omega
  | i + 2 => by
    have := cntB_le U (i + 1)
    show cntB U (i + 1) + (if isB U (i + 1) = true then 1 else 0) ≤ i + 2
    split <;> omega
theorem used_loop (h : Wk B w t c mp q mb p b v u U hd F vn ov C E G D) (hN : G.L.length ≤ 160) (kk : ∀ w', Below w.heap.size w w' → Q (.int .i64 ((1 + cntB U G.L.length : Nat) : Int)) w') :
    ∀ (d m i : Nat) (w1 : World), i + d = max G.L.length 1 → d < m → 1 ≤ i → Below w.heap.size w w1 → itr (fun _ _ _ => bot) (f19_b2 f19_j1) m (pv t) (.int .i64 ((1 + cntB U i : Nat) : Int)) (.int .i64 ((i : Nat) : Int)) w1 Q := by
  intro d
  induction d with
  | zero =>
    intro m i w1 hi hm h1 hb
    obtain ⟨m, rfl⟩ : ∃ x, m = x + 1 := ⟨m - 1, by omega⟩
    show f19_b2 f19_j1 _ _ _ _ w1 Q
    unfold f19_b2
    have hw := h.below hb
    have c0 := hw.wk.c0
    try simp only [↓reduceIte, ↓LL, LM, Value.cells, Nat.reduceAdd, Option.some.injEq, exists_eq_left', decide_true, decide_false, if_true, if_false, reduceCtorEq, cond_true, cond_false, c0]
    refine hw.pages ?_
    have cc : ¬ (i : Int) < ((G.L.length : Nat) : Int) := by omega
    try simp only [↓reduceIte, ↓LL, LM, Value.cells, Nat.reduceAdd, Option.some.injEq, exists_eq_left', decide_true, decide_false, if_true, if_false, reduceCtorEq, cond_true, cond_false, cc]
    unfold f19_j1
    try simp only [↓reduceIte, ↓LL, LM, Value.cells, Nat.reduceAdd, Option.some.injEq, exists_eq_left', decide_true, decide_false, if_true, if_false, reduceCtorEq, cond_true, cond_false]
    have e : cntB U i = cntB U G.L.length := by
      rcases Nat.lt_or_ge 1 G.L.length with hlt | hge
      · have : i = G.L.length := by omega
        rw [this]
      · have : i = 1 := by omega
        rw [this]
        rcases (by omega : G.L.length = 0 ∨ G.L.length = 1) with e | e <;> rw [e] <;> rfl
    rw [e]
    exact kk w1 hb
  | succ d ih =>
    intro m i w1 hi hm h1 hb
    obtain ⟨m, rfl⟩ : ∃ x, m = x + 1 := ⟨m - 1, by omega⟩
    show f19_b2 f19_j1 _ _ _ _ w1 Q
    unfold f19_b2
    have hw := h.below hb
    have c0 := hw.wk.c0
    have cc : (i : Int) < ((G.L.length : Nat) : Int) := by omega
    have h3 : IntKind.i64.wrap ((i : Int) + 1) = ((i + 1 : Nat) : Int) := by rw [w64 (by omega) (by omega)]; rfl
    have hcl := cntB_le U i
    have hcs := cntB_succ U h1
    have h4 : IntKind.i64.wrap (((1 + cntB U i : Nat) : Int) + 1) = ((1 + cntB U i + 1 : Nat) : Int) := by rw [w64 (by omega) (by omega)]; rfl
    try simp only [↓reduceIte, ↓LL, LM, Value.cells, Nat.reduceAdd, Option.some.injEq, exists_eq_left', decide_true, decide_false, if_true, if_false, reduceCtorEq, cond_true, cond_false, c0]
    refine hw.pages ?_
    try simp only [↓reduceIte, ↓LL, LM, Value.cells, Nat.reduceAdd, Option.some.injEq, exists_eq_left', decide_true, decide_false, if_true, if_false, reduceCtorEq, cond_true, cond_false, cc]
    refine f71_s hw.wk (by omega) fun w2 b2 => ?_
    have hb2 := bt hb b2
    have nx := ih m (i + 1) w2 (by omega) (by omega) (by omega) hb2
    rw [hcs] at nx
    cases hu : isB U i with
    | true =>
      rw [hu, if_pos rfl] at nx
      try simp only [↓reduceIte, ↓LL, LM, Value.cells, Nat.reduceAdd, Option.some.injEq, exists_eq_left', decide_true, decide_false, if_true, if_false, reduceCtorEq, cond_true, cond_false, h4]
      unfold f19_j3
      try simp only [↓reduceIte, ↓LL, LM, Value.cells, Nat.reduceAdd, Option.some.injEq, exists_eq_left', decide_true, decide_false, if_true, if_false, reduceCtorEq, cond_true, cond_false, h3]
      exact nx
    | false =>
      rw [hu, if_neg (by decide)] at nx
      try simp only [↓reduceIte, ↓LL, LM, Value.cells, Nat.reduceAdd, Option.some.injEq, exists_eq_left', decide_true, decide_false, if_true, if_false, reduceCtorEq, cond_true, cond_false]
      unfold f19_j3
      try simp only [↓reduceIte, ↓LL, LM, Value.cells, Nat.reduceAdd, Option.some.injEq, exists_eq_left', decide_true, decide_false, if_true, if_false, reduceCtorEq, cond_true, cond_false, h3]
      exact nx
theorem f19_s (h : Wk B w t c mp q mb p b v u U hd F vn ov C E G D) (hN : G.L.length ≤ 160) (k13 : ov = true → Q (.int .i64 0) w) (kk : ov = false → ∀ w', Below w.heap.size w w' → Q (.int .i64 ((1 + cntB U G.L.length : Nat) : Int)) w') : f19 (pv t) w Q := by
  unfold f19
  try simp only [↓reduceIte, ↓LL, LM, Value.cells, Nat.reduceAdd, Option.some.injEq, exists_eq_left', decide_true, decide_false, if_true, if_false, reduceCtorEq, cond_true, cond_false]
  refine f70_s h.wk ?_
  cases ov with
  | true =>
    have z : ¬ (13 : Int) = 0 := by decide
    try simp only [↓reduceIte, ↓LL, LM, Value.cells, Nat.reduceAdd, Option.some.injEq, exists_eq_left', decide_true, decide_false, if_true, if_false, reduceCtorEq, cond_true, cond_false, ne_eq, z]
    exact k13 rfl
  | false =>
    try simp only [↓reduceIte, ↓LL, LM, Value.cells, Nat.reduceAdd, Option.some.injEq, exists_eq_left', decide_true, decide_false, if_true, if_false, reduceCtorEq, cond_true, cond_false, ne_eq]
    exact ⟨_, used_loop h hN (kk rfl) (max G.L.length 1 - 1) (max G.L.length 1) 1 w (by omega) (by omega) (Nat.le_refl _) (Below.refl _ _)⟩
end
end Go.Proofs.YtongpnolikkknaaGreatDoor

set_option maxRecDepth 20000
set_option maxHeartbeats 4000000
namespace Go.Proofs.YtongpnolikkknaaGreatDoor
open Sh RowKit Go.MapKept
theorem buildSt (s : ByteArray) (m : Nat) (w : World) : (Instr.build 110 #[(1, .string s), (2, .map (some m))]).run Tryz.prog w = .ok (.agg #[.int .u8 0, .int .u8 0, .int .u8 0, .int .u8 0, .int .u8 0, .int .u8 0, .int .u8 0, .int .u8 0, .int .u8 0, .int .u8 0, .int .u8 0, .int .u8 0, .int .u8 0, .int .u8 0, .int .u8 0, .int .u8 0, .int .u8 0, .int .u8 0, .int .u8 0, .int .u8 0, .string s, .map (some m)]) w := by
  kernel_rfl
theorem buildWk (c : Nat) (s : ByteArray) (m : Nat) (w : World) : (Instr.build 113 #[(0, pv c), (1, .agg #[.int .u8 0, .int .u8 0, .int .u8 0, .int .u8 0, .int .u8 0, .int .u8 0, .int .u8 0, .int .u8 0, .int .u8 0, .int .u8 0, .int .u8 0, .int .u8 0, .int .u8 0, .int .u8 0, .int .u8 0, .int .u8 0, .int .u8 0, .int .u8 0, .int .u8 0, .int .u8 0, .string s, .map (some m)])]).run Tryz.prog w = .ok (.agg (wCell c (List.replicate 20 0) s m (.slice none 0 0) false)) w := by
  kernel_rfl
def U0 (s : ByteArray) : List Nat := ((byL s).take 20).map Int.toNat
theorem U0_ok {s : ByteArray} (h : s.size = 256) : UOk (U0 s) := by
  refine ⟨by unfold U0; rw [List.length_map, List.length_take, byL_len]; omega, fun x hx => ?_⟩
  obtain ⟨y, hy, rfl⟩ := List.mem_map.1 hx
  have := byL_nn (List.mem_of_mem_take hy)
  omega
theorem U0_map {s : ByteArray} : ((U0 s).map fun (x : Nat) => Value.int .u8 (x : Int)) = ((byL s).take 20).map (.int .u8) := by
  unfold U0
  rw [List.map_map]
  refine List.map_congr_left fun x hx => ?_
  have := byL_nn (List.mem_of_mem_take hx)
  show Value.int .u8 ((x.toNat : Nat) : Int) = _
  rw [Int.toNat_of_nonneg this.1]
theorem wc_copy {c mp : Nat} {s hd : ByteArray} (h : s.size = 256) : (ovl (wCell c (List.replicate 20 0) hd mp (.slice none 0 0) false).toList 1 (((byL s).take 20).map (.int .u8))).toArray = wCell c (U0 s) hd mp (.slice none 0 0) false := by
  have hl : (((byL s).take 20).map (Value.int .u8)).length = 20 := by rw [List.length_map, List.length_take, byL_len]; omega
  unfold ovl
  rw [hl]
  unfold wCell
  rw [U0_map]
  rfl
section
variable {B : Nat} {W w w' : World} {t c mp q mb p b : Nat} {U : List Nat} {hd : ByteArray} {F : Int → Option ByteArray} {vn v u vd : Value} {ov : Bool} {C : Ca} {E : List (Nat × Ch)} {G : Pg} {D : Dv} {Q : Value → World → Prop}
theorem begin_s (h : CP B w c q mb p b v u C E G D) (hg : GoodK C.K G.L) (hz : ∀ s ∈ G.L, s.size = 256) (hL : 1 ≤ G.L.length) (h0 : 0 ≤ C.h) (h1 : C.h ≤ 1000000) (m0 : 0 ≤ C.m) (m1 : C.m ≤ 1000000)
    (kk : ∀ w' t mp E', Wk B w' t c mp q mb p b v u (U0 (G.L.getD 0 ⟨#[]⟩)) ((G.L.getD 0 ⟨#[]⟩).extract 20 (G.L.getD 0 ⟨#[]⟩).size) (fun _ => none) (.slice none 0 0) false (rdC C G.L 0).2 E' G D → GoodK (rdC C G.L 0).2.K G.L → (∀ k, fpX c q mb p b v u E' k → fpX c q mb p b v u E k ∨ w.heap.size ≤ k) → ChgS (fpX c q mb p b v u E) w w' → w.heap.size ≤ t → w.heap.size ≤ mp → Q (.tuple #[pv t, .int .i64 0]) w') : f16 (pv c) w Q := by
  unfold f16
  rw [pn_eq ptK]
  try simp only [↓reduceIte, ↓LL, LM, Value.cells, Nat.reduceAdd, Option.some.injEq, exists_eq_left', decide_true, decide_false, if_true, if_false, reduceCtorEq, cond_true, cond_false, Option.isNone]
  refine h.read h0 h1 m0 m1 fun w2 E2 h2 hg2 hk2 => ?_
  obtain ⟨e1, g1⟩ := Good.rd (C := C) (n := 0) hg
  rw [e1]
  have hlt : 0 < G.L.length := by omega
  have ep : pgR G.L 0 = (G.L.getD 0 ⟨#[]⟩, 0) := by
    unfold pgR
    rw [if_pos ⟨Int.le_refl 0, by omega⟩]; rfl
  have hs : (G.L.getD 0 ⟨#[]⟩).size = 256 := hz _ (List.mem_of_getElem? (getD_some hlt))
  rw [ep]
  generalize G.L.getD 0 ⟨#[]⟩ = s at *
  have z2 : w.heap.size ≤ w2.heap.size := hg2.size
  try simp only [↓reduceIte, ↓LL, LM, Value.cells, Nat.reduceAdd, Option.some.injEq, exists_eq_left', decide_true, decide_false, if_true, if_false, reduceCtorEq, cond_true, cond_false, get0, get1, ne_eq]
  refine sls_from (k := 20) (by omega) ?_
  try simp only [↓reduceIte, ↓LL, LM, Value.cells, Nat.reduceAdd, Option.some.injEq, exists_eq_left', decide_true, decide_false, if_true, if_false, reduceCtorEq, cond_true, cond_false]
  refine mm_map (kv := kI) fun w3 hm3 b3 => ?_
  try simp only [↓reduceIte, ↓LL, LM, Value.cells, Nat.reduceAdd, Option.some.injEq, exists_eq_left', decide_true, decide_false, if_true, if_false, reduceCtorEq, cond_true, cond_false]
  rw [smr_run (buildSt _ _ w3)]
  try simp only [↓reduceIte, ↓LL, LM, Value.cells, Nat.reduceAdd, Option.some.injEq, exists_eq_left', decide_true, decide_false, if_true, if_false, reduceCtorEq, cond_true, cond_false]
  rw [smr_run (buildWk c _ _ w3)]
  have b4 := b_psh w3 (.cells (wCell c (List.replicate 20 0) (s.extract 20 s.size) w2.heap.size (.slice none 0 0) false) 113)
  have k4 := blk_psh_new (w := w3) (o := .cells (wCell c (List.replicate 20 0) (s.extract 20 s.size) w2.heap.size (.slice none 0 0) false) 113)
  try simp only [↓reduceIte, ↓LL, LM, Value.cells, Nat.reduceAdd, Option.some.injEq, exists_eq_left', decide_true, decide_false, if_true, if_false, reduceCtorEq, cond_true, cond_false]
  generalize psh w3 (.cells (wCell c (List.replicate 20 0) (s.extract 20 s.size) w2.heap.size (.slice none 0 0) false) 113) = w4 at *
  have hm4 : MapAt kI w4 w2.heap.size ([] : List (Int × Value)) := hm3.below b4
  have z3 : w2.heap.size < w3.heap.size := hm3.lt
  refine sla_at (by decide) ?_
  have hr := run_copy_cut (P := Tryz.prog) (dT := 42) (sT := 9) (ty := 3) (o := 1) (dLen := 20) (dCap := 20) (s := s) Tryz.underlying42 (by kernel_rfl) k4 (by omega) (by rw [wc_size (by simp)]; omega)
  refine ⟨_, _, hr, ?_⟩
  obtain ⟨u5, k5⟩ := Upd_setRow (cs := (ovl (wCell c (List.replicate 20 0) (s.extract 20 s.size) w2.heap.size (.slice none 0 0) false).toList 1 (((byL s).take 20).map (.int .u8))).toArray) k4
  rw [wc_copy hs] at u5 k5 ⊢
  generalize w4.setRow w3.heap.size (wCell c (U0 s) (s.extract 20 s.size) w2.heap.size (.slice none 0 0) false) = w5 at *
  have b5 : Below w2.heap.size w2 w5 := (bt b3 b4).trans (u5.below (by omega))
  try simp only [↓reduceIte, ↓LL, LM, Value.cells, Nat.reduceAdd, Option.some.injEq, exists_eq_left', decide_true, decide_false, if_true, if_false, reduceCtorEq, cond_true, cond_false]
  have hB : B ≤ w2.heap.size := by
    have := h2.fpB c (.inl (.inl (.inl rfl)))
    have := h2.lt c (.inl (.inl (.inl rfl)))
    omega
  refine kk w5 w3.heap.size w2.heap.size E2 ⟨⟨by omega, hB, k5, U0_ok hs, [], hm4.stay (u5.block _ (by omega)), fun n => rfl⟩, h2.below b5, fun k hk hn => ?_⟩ g1 hk2 (hg2.trans (ChgS.of_below b5) fun _ _ h => h) (by omega) z2
  have := h2.lt k hk
  rcases hn with rfl | rfl <;> omega
theorem f17_s {n : Nat} (h1 : 1 ≤ n) (h2 : n ≤ 160) (kk : ∀ w' c q mb p b v u, CP w.heap.size w' c q mb p b v u ⟨szN 4, [], 0, 0⟩ [] ⟨List.replicate n (zs 256), false, 0⟩ (newD (126 + 4 * n)) → Below w.heap.size w w' → Q (pv c) w') : f17 (.int .i64 ((n : Nat) : Int)) w Q := by
  unfold f17
  refine f39_s ⟨by omega, by omega⟩ ?_
  try simp only [↓reduceIte, ↓LL, LM, Value.cells, Nat.reduceAdd, Option.some.injEq, exists_eq_left', decide_true, decide_false, if_true, if_false, reduceCtorEq, cond_true, cond_false]
  refine f38_s (B := w.heap.size) (126 + 4 * ((n : Nat) : Int)) (k := 126 + 4 * n) (by omega) (Nat.le_refl _) fun w2 p v b pw bw hd hf b2 => ?_
  try simp only [↓reduceIte, ↓LL, LM, Value.cells, Nat.reduceAdd, Option.some.injEq, exists_eq_left', decide_true, decide_false, if_true, if_false, reduceCtorEq, cond_true, cond_false]
  refine open_at (B0 := w.heap.size) hd (Int.le_refl 0) (by show (0 + 200 : Int) ≤ 1000000; decide) (Nat.le_refl _) b2.size (open_new (m := n) (N := 126 + 4 * n) (by omega) (by omega) (by omega)) fun w3 q u q3 h3 _ _ hc3 => ?_
  have b3 := bs b2 (fpD_B hd) b2.size hc3
  try simp only [↓reduceIte, ↓LL, LM, Value.cells, Nat.reduceAdd, Option.some.injEq, exists_eq_left', decide_true, decide_false, if_true, if_false, reduceCtorEq, cond_true, cond_false, get0, get1, ne_eq]
  refine cp_new (n := 4) h3 b3.size fun w4 c mb h4 _ b4 => ?_
  try simp only [↓reduceIte, ↓LL, LM, Value.cells, Nat.reduceAdd, Option.some.injEq, exists_eq_left', decide_true, decide_false, if_true, if_false, reduceCtorEq, cond_true, cond_false]
  exact kk w4 c q mb p b v u h4 (bt b3 b4)
theorem isB_zero {n : Nat} : isB (U0 (zs 256)) n = false := by
  have e : U0 (zs 256) = List.replicate 20 0 := by unfold U0; rw [byL_zs, List.take_replicate, List.map_replicate]; rfl
  have hb : bytN (List.replicate 20 0) n = 0 := by
    unfold bytN
    rw [List.getD_eq_getElem?_getD, List.getElem?_replicate]
    split <;> rfl
  unfold isB
  rw [e, hb, Nat.zero_testBit]
/-- page 1 to k - 1 are used, no others -/
def HU (U : List Nat) (S : Nat → Bool) : Prop := ∀ j, j < 160 → isB U j = S j
theorem HU.trn {S : Nat → Bool} (hu : UOk U) (h : HU U S) {n : Nat} (hn : n < 160) : HU (trnB U n) fun j => if j = n then !S j else S j := by
  intro j hj
  rw [isB_trn hu hn j, h j hj]
theorem f14_s (kk : ∀ w', Below w.heap.size w w' → Q (.bool true) w') : f14 w Q := by
  unfold f14
  refine f17_s (n := 4) (by decide) (by decide) fun w1 c q mb p b v u h1 b1 => ?_
  try simp only [↓reduceIte, ↓LL, LM, Value.cells, Nat.reduceAdd, Option.some.injEq, exists_eq_left', decide_true, decide_false, if_true, if_false, reduceCtorEq, cond_true, cond_false]
  have lN : (List.replicate 4 (zs 256)).length = 4 := rep_len 4
  have eg : (List.replicate 4 (zs 256)).getD 0 ⟨#[]⟩ = zs 256 := rfl
  refine begin_s h1 (fun x hx => by simp at hx) (rep_256 4) (by show 1 ≤ (List.replicate 4 (zs 256)).length; rw [lN]; decide) (Int.le_refl 0) (by decide) (Int.le_refl 0) (by decide) fun w2 t mp E2 h2 _ _ hg2 _ _ => ?_
  have h2 : Wk w.heap.size w2 t c mp q mb p b v u (U0 (zs 256)) ((zs 256).extract 20 (zs 256).size) (fun _ => none) (.slice none 0 0) false _ E2 ⟨List.replicate 4 (zs 256), false, 0⟩ (newD (126 + 4 * 4)) := h2
  have b2 : Below w.heap.size w w2 := b1.trans (hg2.below (fun k hk => h1.fpB k hk) b1.size)
  generalize (zs 256).extract 20 (zs 256).size = hd at *
  generalize (rdC ⟨szN 4, [], 0, 0⟩ (⟨List.replicate 4 (zs 256), false, 0⟩ : Pg).L 0).2 = C2 at *
  try simp only [↓reduceIte, ↓LL, LM, Value.cells, Nat.reduceAdd, Option.some.injEq, exists_eq_left', decide_true, decide_false, if_true, if_false, reduceCtorEq, cond_true, cond_false, get0, get1, ne_eq]
  rw [pn_eq ptW]
  try simp only [↓reduceIte, ↓LL, LM, Value.cells, Nat.reduceAdd, Option.some.injEq, exists_eq_left', decide_true, decide_false, if_true, if_false, reduceCtorEq, cond_true, cond_false, Option.isNone]
  have hN4 : (⟨List.replicate 4 (zs 256), false, 0⟩ : Pg).L.length = 4 := lN
  have u2 : HU (U0 (zs 256)) fun _ => false := fun j _ => isB_zero
  refine f18_s h2 (by rw [hN4]; decide) (fun h => by cases h) (fun _ n n1 n2 nf nall w3 h3 hg3 => ?_) (fun _ hall => by have := hall 1 (by decide) (by rw [hN4]; decide); rw [u2 1 (by decide)] at this; cases this)
  rw [hN4] at n2
  have en : n = 1 := by
    apply Classical.byContradiction
    intro hne
    have := nall 1 (Nat.le_refl _) (by omega)
    rw [u2 1 (by decide)] at this; cases this
  subst en
  have u3 := u2.trn h2.wk.ok (n := 1) (by decide)
  have b3 : Below w.heap.size w w3 := b2.trans (hg3.below (fun k hk => h2.wk.fpB k hk) b2.size)
  try simp only [↓reduceIte, ↓LL, LM, Value.cells, Nat.reduceAdd, Option.some.injEq, exists_eq_left', decide_true, decide_false, if_true, if_false, reduceCtorEq, cond_true, cond_false, get0, get1]
  refine f18_s h3 (by rw [hN4]; decide) (fun h => by cases h) (fun _ n n1 n2 nf nall w4 h4 hg4 => ?_) (fun _ hall => by have := hall 2 (by decide) (by rw [hN4]; decide); rw [u3 2 (by decide)] at this; cases this)
  rw [hN4] at n2
  have en : n = 2 := by
    apply Classical.byContradiction
    intro hne
    rcases (by omega : n = 1 ∨ 2 < n) with h | h
    · rw [h, u3 1 (by decide)] at nf; cases nf
    · have := nall 2 (by decide) h
      rw [u3 2 (by decide)] at this; cases this
  subst en
  have u4 := u3.trn h3.wk.ok (n := 2) (by decide)
  have b4 : Below w.heap.size w w4 := b3.trans (hg4.below (fun k hk => h3.wk.fpB k hk) b3.size)
  try simp only [↓reduceIte, ↓LL, LM, Value.cells, Nat.reduceAdd, Option.some.injEq, exists_eq_left', decide_true, decide_false, if_true, if_false, reduceCtorEq, cond_true, cond_false, get0, get1]
  have et : thrB (trnB (trnB (U0 (zs 256)) 1) 2) (⟨List.replicate 4 (zs 256), false, 0⟩ : Pg).L.length false 1 = 0 := by
    unfold thrB
    have hu1 : isB (trnB (trnB (U0 (zs 256)) 1) 2) (1 : Int).toNat = true := u4 1 (by decide)
    rw [if_neg (by decide), if_pos ⟨by decide, by rw [hN4]; decide, hu1⟩]
  refine f20_s h4 (by rw [hN4]; decide) (fun hne => absurd et hne) (fun _ w5 h5 hg5 => ?_)
  have h5 : Wk w.heap.size w5 t c mp q mb p b v u (trnB (trnB (trnB (U0 (zs 256)) 1) 2) 1) hd _ (.slice none 0 0) false C2 E2 ⟨List.replicate 4 (zs 256), false, 0⟩ (newD (126 + 4 * 4)) := h5
  have u5 := u4.trn h4.wk.ok (n := 1) (by decide)
  have b5 : Below w.heap.size w w5 := b4.trans (hg5.below (fun k hk => h4.wk.fpB k hk) b4.size)
  try simp only [↓reduceIte, ↓LL, LM, Value.cells, Nat.reduceAdd, Option.some.injEq, exists_eq_left', decide_true, decide_false, if_true, if_false, reduceCtorEq, cond_true, cond_false, get0, get1]
  refine f18_s h5 (by rw [hN4]; decide) (fun h => by cases h) (fun _ n n1 n2 nf nall w6 h6 hg6 => ?_) (fun _ hall => by have := hall 1 (by decide) (by rw [hN4]; decide); rw [u5 1 (by decide)] at this; cases this)
  rw [hN4] at n2
  have en : n = 1 := by
    apply Classical.byContradiction
    intro hne
    have := nall 1 (Nat.le_refl _) (by omega)
    rw [u5 1 (by decide)] at this; cases this
  subst en
  have u6 := u5.trn h5.wk.ok (n := 1) (by decide)
  have b6 : Below w.heap.size w w6 := b5.trans (hg6.below (fun k hk => h5.wk.fpB k hk) b5.size)
  have ec : 1 + cntB (trnB (trnB (trnB (trnB (U0 (zs 256)) 1) 2) 1) 1) (⟨List.replicate 4 (zs 256), false, 0⟩ : Pg).L.length = 3 := by
    rw [hN4]
    have q1 := u6 1 (by decide)
    have q2 := u6 2 (by decide)
    have q3 := u6 3 (by decide)
    show 1 + (((0 + if isB _ 1 = true then 1 else 0) + if isB _ 2 = true then 1 else 0) + if isB _ 3 = true then 1 else 0) = 3
    rw [q1, q2, q3]
    rfl
  have z1 : ((1 : Nat) : Int) = 1 := rfl
  have z2 : ((2 : Nat) : Int) = 2 := rfl
  try simp only [↓reduceIte, ↓LL, LM, Value.cells, Nat.reduceAdd, Option.some.injEq, exists_eq_left', decide_true, decide_false, if_true, if_false, reduceCtorEq, cond_true, cond_false, get0, get1, z1, z2]
  refine f19_s h6 (by rw [hN4]; decide) (fun h => by cases h) fun _ w7 b7 => ?_
  rw [ec]
  have z3 : ((3 : Nat) : Int) = 3 := rfl
  try simp only [↓reduceIte, ↓LL, LM, Value.cells, Nat.reduceAdd, Option.some.injEq, exists_eq_left', decide_true, decide_false, if_true, if_false, reduceCtorEq, cond_true, cond_false, z1, z2, z3]
  exact kk w7 (bt b6 b7)
end
end Go.Proofs.YtongpnolikkknaaGreatDoor

set_option maxRecDepth 20000
set_option maxHeartbeats 4000000
namespace Go.Proofs.YtongpnolikkknaaGreatDoor
open Sh RowKit Go.MapKept
def HB (C : Ca) (k : Int) : Prop := 0 ≤ C.h ∧ C.h ≤ k ∧ 0 ≤ C.m ∧ C.m ≤ k
def usedS (U : List Nat) : ByteArray := strOfNums (U.map fun (x : Nat) => (x : Int))
def firstW (U : List Nat) (hd : ByteArray) : ByteArray := usedS U ++ hd
theorem usedS_size {U : List Nat} (h : UOk U) : (usedS U).size = 20 := by unfold usedS; rw [son_size, List.length_map, h.len]
def rdW (U : List Nat) (F : Int → Option ByteArray) (L : List ByteArray) (ov : Bool) (n : Int) : ByteArray × Int := if thrB U L.length ov n ≠ 0 then (⟨#[]⟩, thrB U L.length ov n) else ((F n).getD (L.getD n.toNat ⟨#[]⟩), 0)
theorem thr_ok {U : List Nat} {N : Nat} {ov : Bool} {n : Int} (h : thrB U N ov n = 0) : ov = false ∧ 0 < n ∧ n < (N : Int) ∧ isB U n.toNat = true := by
  unfold thrB at h
  split at h
  · cases h
  · rename_i ho
    split at h
    · rename_i hx
      exact ⟨by simpa using ho, hx.1, hx.2.1, hx.2.2⟩
    · cases h
section
variable {B : Nat} {w w' : World} {t c mp q mb p b : Nat} {U : List Nat} {hd : ByteArray} {F : Int → Option ByteArray} {vn v u : Value} {ov : Bool} {C : Ca} {E : List (Nat × Ch)} {G : Pg} {D : Dv} {Q : Value → World → Prop}
/-- a page read by way of the cache -/
theorem Wk.read {n k : Int} (h : Wk B w t c mp q mb p b v u U hd F vn ov C E G D) (hg : GoodK C.K G.L) (hb : HB C k) (hk : k ≤ 999999)
    (kk : ∀ w' C' E', Wk B w' t c mp q mb p b v u U hd F vn ov C' E' G D → GoodK C'.K G.L → HB C' (k + 1) → (∀ j, fpX c q mb p b v u E' j → fpX c q mb p b v u E j ∨ w.heap.size ≤ j) → ChgS (fpX c q mb p b v u E) w w' → Q (.tuple #[.string (pgR G.L n).1, .int .i64 (pgR G.L n).2]) w') : f27 (pv c) (.int .i64 n) w Q := by
  obtain ⟨b1, b2, b3, b4⟩ := hb
  refine h.cp.read b1 (by omega) b3 (by omega) fun w' E' hc hg' hk' => ?_
  obtain ⟨e1, g1⟩ := Good.rd (C := C) (n := n) hg
  rw [e1]
  refine kk w' _ E' ⟨h.wk.chg hg' fun j hj hn => h.sep j hn hj, hc, fun j hj hn => ?_⟩ g1 (rdC_bd ⟨b1, b2, b3, b4⟩) hk' hg'
  rcases hk' j hj with hj | hj
  · exact h.sep j hj hn
  · have := h.wk.lt j hn
    omega
theorem f65_s {n k : Int} (h : Wk B w t c mp q mb p b v u U hd F vn ov C E G D) (hN : G.L.length ≤ 160) (hg : GoodK C.K G.L) (hb : HB C k) (hk : k ≤ 999999)
    (kk : ∀ w' C' E', Wk B w' t c mp q mb p b v u U hd F vn ov C' E' G D → GoodK C'.K G.L → HB C' (k + 1) → (∀ j, fpX c q mb p b v u E' j → fpX c q mb p b v u E j ∨ w.heap.size ≤ j) → ChgS (fpX c q mb p b v u E) w w' → Q (.tuple #[.string (rdW U F G.L ov n).1, .int .i64 (rdW U F G.L ov n).2]) w') : f65 (pv t) (.int .i64 n) w Q := by
  unfold f65
  try simp only [↓reduceIte, ↓LL, LM, Value.cells, Nat.reduceAdd, Option.some.injEq, exists_eq_left', decide_true, decide_false, if_true, if_false, reduceCtorEq, cond_true, cond_false]
  refine f74_s h hN fun w1 b1 => ?_
  have h1 := h.below b1
  have hb1 : HB C (k + 1) := by unfold HB at hb ⊢; omega
  by_cases ce : thrB U G.L.length ov n = 0
  · have eR : rdW U F G.L ov n = ((F n).getD (G.L.getD n.toNat ⟨#[]⟩), 0) := by unfold rdW; rw [if_neg (fun hne => hne ce)]
    rw [eR] at kk
    obtain ⟨_, n0, n1, _⟩ := thr_ok ce
    have c22 := h1.wk.c22
    obtain ⟨ML, hm1, hm2⟩ := h1.wk.mp
    have hlook : ∀ (K : Value → M), smr Tryz.prog (Instr.lookup 107 (.map (some mp)) (.int .i64 n) true) K w1 Q = K (.tuple #[((F n).map Value.string).getD (.string ⟨#[]⟩), .bool ((F n).map Value.string).isSome]) w1 Q := fun K => by
      rw [show (Value.int .i64 n) = kI n from rfl, look_ok (kv := kI) KKs hm1 zS n, hm2 n]
    have c0 := h1.wk.c0
    cases hF : F n with
    | some s =>
      rw [hF] at hlook
      have e1 : ((some s).map Value.string).getD (.string ⟨#[]⟩) = .string s := rfl
      have e2 : ((some s).map Value.string).isSome = true := rfl
      have kk := kk w1 C E h1 hg hb1 (fun j hj => .inl hj) (ChgS.of_below b1)
      rw [hF] at kk
      try simp only [↓reduceIte, ↓LL, LM, Value.cells, Nat.reduceAdd, Option.some.injEq, exists_eq_left', decide_true, decide_false, if_true, if_false, reduceCtorEq, cond_true, cond_false, ne_eq, ce, c22, hlook, e1, e2, get0, get1]
      exact kk
    | none =>
      rw [hF] at hlook
      have e2 : ((none : Option ByteArray).map Value.string).isSome = false := rfl
      try simp only [↓reduceIte, ↓LL, LM, Value.cells, Nat.reduceAdd, Option.some.injEq, exists_eq_left', decide_true, decide_false, if_true, if_false, reduceCtorEq, cond_true, cond_false, ne_eq, ce, c22, hlook, e2, get0, get1, c0]
      refine h1.read hg hb hk fun w2 C2 E2 h2 g2 hb2 hk2 hg2 => ?_
      have ep : pgR G.L n = (G.L.getD n.toNat ⟨#[]⟩, 0) := by unfold pgR; rw [if_pos ⟨by omega, n1⟩]
      rw [ep]
      have kk := kk w2 C2 E2 h2 g2 hb2 (fun j hj => by
        rcases hk2 j hj with hj | hj
        · exact .inl hj
        · exact .inr (Nat.le_trans b1.size hj)) ((ChgS.of_below b1).trans hg2 fun _ _ h => h)
      rw [hF] at kk
      try simp only [↓reduceIte, ↓LL, LM, Value.cells, Nat.reduceAdd, Option.some.injEq, exists_eq_left', decide_true, decide_false, if_true, if_false, reduceCtorEq, cond_true, cond_false, get0, get1]
      exact kk
  · have eR : rdW U F G.L ov n = (⟨#[]⟩, thrB U G.L.length ov n) := by unfold rdW; rw [if_pos ce]
    rw [eR] at kk
    try simp only [↓reduceIte, ↓LL, LM, Value.cells, Nat.reduceAdd, Option.some.injEq, exists_eq_left', decide_true, decide_false, if_true, if_false, reduceCtorEq, cond_true, cond_false, ne_eq, ce]
    exact kk w1 C E h1 hg hb1 (fun j hj => .inl hj) (ChgS.of_below b1)
theorem f67_s {n : Int} {s : ByteArray} (h : Wk B w t c mp q mb p b v u U hd F vn ov C E G D) (hN : G.L.length ≤ 160)
    (k1 : thrB U G.L.length ov n ≠ 0 → ∀ w', Below w.heap.size w w' → Q (.int .i64 (thrB U G.L.length ov n)) w')
    (k2 : thrB U G.L.length ov n = 0 → s.size ≠ 256 → ∀ w', Below w.heap.size w w' → Q (.int .i64 1) w')
    (k0 : thrB U G.L.length ov n = 0 → s.size = 256 → ∀ w', Wk B w' t c mp q mb p b v u U hd (putF F n s) vn ov C E G D → ChgS (fpW t mp) w w' → Q (.int .i64 0) w') : f67 (pv t) (.int .i64 n) (.string s) w Q := by
  unfold f67
  try simp only [↓reduceIte, ↓LL, LM, Value.cells, Nat.reduceAdd, Option.some.injEq, exists_eq_left', decide_true, decide_false, if_true, if_false, reduceCtorEq, cond_true, cond_false]
  refine f74_s h hN fun w1 b1 => ?_
  have h1 := h.below b1
  by_cases ce : thrB U G.L.length ov n = 0
  · by_cases cs : s.size = 256
    · have cs' : ((s.size : Nat) : Int) = 256 := by omega
      have c22 := h1.wk.c22
      try simp only [↓reduceIte, ↓LL, LM, Value.cells, Nat.reduceAdd, Option.some.injEq, exists_eq_left', decide_true, decide_false, if_true, if_false, reduceCtorEq, cond_true, cond_false, ne_eq, ce, cs', c22]
      refine h1.wk.put fun w2 hk2 hg2 => ?_
      try simp only [↓reduceIte, ↓LL, LM, Value.cells, Nat.reduceAdd, Option.some.injEq, exists_eq_left', decide_true, decide_false, if_true, if_false, reduceCtorEq, cond_true, cond_false]
      have hgA : ChgS (fpW t mp) w w2 := (ChgS.of_below b1).trans (hg2.mono fun k hk => .inr hk) fun _ _ h => h
      exact k0 ce cs w2 ⟨hk2, h.cp.chg hgA fun k hk hn => h.sep k hk hn, h.sep⟩ hgA
    · have cs' : ¬ ((s.size : Nat) : Int) = 256 := by omega
      try simp only [↓reduceIte, ↓LL, LM, Value.cells, Nat.reduceAdd, Option.some.injEq, exists_eq_left', decide_true, decide_false, if_true, if_false, reduceCtorEq, cond_true, cond_false, ne_eq, ce, cs']
      exact k2 ce cs w1 b1
  · try simp only [↓reduceIte, ↓LL, LM, Value.cells, Nat.reduceAdd, Option.some.injEq, exists_eq_left', decide_true, decide_false, if_true, if_false, reduceCtorEq, cond_true, cond_false, ne_eq, ce]
    exact k1 ce w1 b1
theorem f60_s (h : WkAt B w t c mp U hd F vn ov) (kk : Q (.string (if ov = true then ⟨#[]⟩ else hd)) w) : f60 (pv t) w Q := by
  unfold f60
  try simp only [↓reduceIte, ↓LL, LM, Value.cells, Nat.reduceAdd, Option.some.injEq, exists_eq_left', decide_true, decide_false, if_true, if_false, reduceCtorEq, cond_true, cond_false]
  refine f70_s h ?_
  have c21 := h.c21
  cases ov with
  | true =>
    have z : ¬ (13 : Int) = 0 := by decide
    try simp only [↓reduceIte, ↓LL, LM, Value.cells, Nat.reduceAdd, Option.some.injEq, exists_eq_left', decide_true, decide_false, if_true, if_false, reduceCtorEq, cond_true, cond_false, ne_eq, z]
    exact kk
  | false =>
    try simp only [↓reduceIte, ↓LL, LM, Value.cells, Nat.reduceAdd, Option.some.injEq, exists_eq_left', decide_true, decide_false, if_true, if_false, reduceCtorEq, cond_true, cond_false, ne_eq, c21]
    exact kk
theorem WkAt.sH {s : ByteArray} {K0 : M} (h : WkAt B w t c mp U hd F vn ov) (kk : ∀ w', WkAt B w' t c mp U s F vn ov → ChgS (fun k => k = t) w w' → K0 w' Q) : st (.pointer (some ⟨t, 21, none⟩)) (.string s) K0 w Q := by
  refine st_box (o := 21) (v := .string s) h.hw (by rw [wc_size h.ok.len]; decide) rfl fun w1 h1 u1 => ?_
  rw [wc_setr h.ok.len (k := 0)] at h1
  obtain ⟨ML, m1, m2⟩ := h.mp
  exact kk w1 ⟨h.tB, h.mB, h1, h.ok, ML, m1.stay (u1.block mp h.tm.symm), m2⟩ (ChgS.of_upd u1 rfl)
theorem WkAt.sO {o : Bool} {K0 : M} (h : WkAt B w t c mp U hd F vn ov) (kk : ∀ w', WkAt B w' t c mp U hd F vn o → ChgS (fun k => k = t) w w' → K0 w' Q) : st (.pointer (some ⟨t, 24, none⟩)) (.bool o) K0 w Q := by
  refine st_box (o := 24) (v := .bool o) h.hw (by rw [wc_size h.ok.len]; decide) rfl fun w1 h1 u1 => ?_
  rw [wc_setr h.ok.len (k := 3)] at h1
  obtain ⟨ML, m1, m2⟩ := h.mp
  exact kk w1 ⟨h.tB, h.mB, h1, h.ok, ML, m1.stay (u1.block mp h.tm.symm), m2⟩ (ChgS.of_upd u1 rfl)
theorem WkAt.sN {vn' : Value} {K0 : M} (h : WkAt B w t c mp U hd F vn ov) (hv : vn'.oneCell' = true) (kk : ∀ w', WkAt B w' t c mp U hd F vn' ov → ChgS (fun k => k = t) w w' → K0 w' Q) : st (.pointer (some ⟨t, 23, none⟩)) vn' K0 w Q := by
  refine st_box (o := 23) (v := vn') h.hw (by rw [wc_size h.ok.len]; decide) hv fun w1 h1 u1 => ?_
  rw [wc_setr h.ok.len (k := 2)] at h1
  obtain ⟨ML, m1, m2⟩ := h.mp
  exact kk w1 ⟨h.tB, h.mB, h1, h.ok, ML, m1.stay (u1.block mp h.tm.symm), m2⟩ (ChgS.of_upd u1 rfl)
theorem f68_s {s : ByteArray} (h : Wk B w t c mp q mb p b v u U hd F vn ov C E G D)
    (k13 : ov = true → Q (.int .i64 13) w) (k3 : ov = false → 236 < s.size → Q (.int .i64 3) w)
    (k0 : ov = false → s.size ≤ 236 → ∀ w', Wk B w' t c mp q mb p b v u U (s ++ zs (236 - s.size)) F vn ov C E G D → ChgS (fpW t mp) w w' → Q (.int .i64 0) w') : f68 (pv t) (.string s) w Q := by
  unfold f68
  try simp only [↓reduceIte, ↓LL, LM, Value.cells, Nat.reduceAdd, Option.some.injEq, exists_eq_left', decide_true, decide_false, if_true, if_false, reduceCtorEq, cond_true, cond_false]
  refine f70_s h.wk ?_
  cases ov with
  | true =>
    have z : ¬ (13 : Int) = 0 := by decide
    try simp only [↓reduceIte, ↓LL, LM, Value.cells, Nat.reduceAdd, Option.some.injEq, exists_eq_left', decide_true, decide_false, if_true, if_false, reduceCtorEq, cond_true, cond_false, ne_eq, z]
    exact k13 rfl
  | false =>
    by_cases c : 236 < s.size
    · have c1 : ((s.size : Nat) : Int) > 236 := by omega
      have c2 : (236 : Int) < ((s.size : Nat) : Int) := by omega
      try simp only [↓reduceIte, ↓LL, LM, Value.cells, Nat.reduceAdd, Option.some.injEq, exists_eq_left', decide_true, decide_false, if_true, if_false, reduceCtorEq, cond_true, cond_false, ne_eq, c1, c2]
      exact k3 rfl c
    · have c1 : ¬ ((s.size : Nat) : Int) > 236 := by omega
      have c2 : ¬ (236 : Int) < ((s.size : Nat) : Int) := by omega
      have ew : IntKind.i64.wrap (236 - ((s.size : Nat) : Int)) = ((236 - s.size : Nat) : Int) := by rw [w64 (by omega) (by omega)]; omega
      try simp only [↓reduceIte, ↓LL, LM, Value.cells, Nat.reduceAdd, Option.some.injEq, exists_eq_left', decide_true, decide_false, if_true, if_false, reduceCtorEq, cond_true, cond_false, ne_eq, c1, c2, ew]
      refine f73_s (n := 236 - s.size) (by omega) fun w2 b2 => ?_
      have h2 := h.below b2
      have hz : s.size + (zs (236 - s.size)).size ≤ 9223372036854775807 := by rw [zs_size]; omega
      try simp only [↓reduceIte, ↓LL, LM, Value.cells, Nat.reduceAdd, Option.some.injEq, exists_eq_left', decide_true, decide_false, if_true, if_false, reduceCtorEq, cond_true, cond_false, cat_e]
      refine ⟨hz, ?_⟩
      try simp only [↓reduceIte, ↓LL, LM, Value.cells, Nat.reduceAdd, Option.some.injEq, exists_eq_left', decide_true, decide_false, if_true, if_false, reduceCtorEq, cond_true, cond_false]
      refine h2.wk.sH fun w3 hk3 hg3 => ?_
      try simp only [↓reduceIte, ↓LL, LM, Value.cells, Nat.reduceAdd, Option.some.injEq, exists_eq_left', decide_true, decide_false, if_true, if_false, reduceCtorEq, cond_true, cond_false]
      have hgA : ChgS (fpW t mp) w w3 := (ChgS.of_below b2).trans (hg3.mono fun k hk => .inl hk) fun _ _ h => h
      exact k0 rfl (by omega) w3 ⟨hk3, h.cp.chg hgA fun k hk hn => h.sep k hk hn, h.sep⟩ hgA
theorem used_rd (h : WkAt B w t c mp U hd F vn ov) : rdI .u8 w (.slice (some ⟨t, 1, none⟩) 20 20) (U.map fun (x : Nat) => (x : Int)) := by
  have hl : (U.map fun (x : Nat) => (x : Int)).length = 20 := by rw [List.length_map, h.ok.len]
  refine ⟨some ⟨t, 1, none⟩, 20, by rw [hl], fun i hi => ⟨_, rfl, ?_⟩⟩
  rw [hl] at hi
  have hi' : i < U.length := by rw [h.ok.len]; exact hi
  rw [add_lit, cell_of_blk h.hw, wc_u h.ok.len hi, List.getElem_map, List.getD_eq_getElem?_getD, List.getElem?_eq_getElem hi']
  rfl
theorem f125_s (h : WkAt B w t c mp U hd F vn ov) (hh : hd.size ≤ 1000) (kk : ∀ w', Below w.heap.size w w' → Q (.string (firstW U hd)) w') : f125 (pv t) w Q := by
  unfold f125
  have hd1 : WkAt B (drw w) t c mp U hd F vn ov := h.below ⟨rfl, rfl, rfl, Nat.le_refl _, fun _ _ => rfl⟩
  have c21 : (drw w).cell? ⟨t, 21, none⟩ = some (.string hd) := hd1.c21
  have c21' : w.cell? ⟨t, 21, none⟩ = some (.string hd) := h.c21
  try simp only [↓reduceIte, ↓LL, LM, Value.cells, Nat.reduceAdd, Option.some.injEq, exists_eq_left', decide_true, decide_false, if_true, if_false, reduceCtorEq, cond_true, cond_false]
  refine sla_at (by decide) ?_
  refine cvb sl61 ud5 str9 (used_rd hd1) ?_
  have hz : (strOfNums (U.map fun (x : Nat) => (x : Int))).size + hd.size ≤ 9223372036854775807 := by
    have := usedS_size h.ok
    unfold usedS at this
    omega
  try simp only [↓reduceIte, ↓LL, LM, Value.cells, Nat.reduceAdd, Option.some.injEq, exists_eq_left', decide_true, decide_false, if_true, if_false, reduceCtorEq, cond_true, cond_false, c21, c21', cat_e]
  refine ⟨hz, ?_⟩
  try simp only [↓reduceIte, ↓LL, LM, Value.cells, Nat.reduceAdd, Option.some.injEq, exists_eq_left', decide_true, decide_false, if_true, if_false, reduceCtorEq, cond_true, cond_false]
  exact kk _ ⟨rfl, rfl, rfl, Nat.le_refl _, fun _ _ => rfl⟩
end
end Go.Proofs.YtongpnolikkknaaGreatDoor

namespace Go.Proofs.YtongpnolikkknaaGreatDoor
open Go.Shelf
open Sh RowKit Go.Maps Go.Sort
theorem sorted_c2 {w : World} {b nn : Nat} {D0 : DataW Unit} (hown : w.ownsMap Tryz.prog 3 R0 b nn D0) (hmax : Maps.size D0 ≤ maxLen) (hbytes : Maps.size D0 * 8 ≤ 140737488355328) :
    Calls Tryz.prog 92 #[.func (.func 154) #[] #[.pointer (some ⟨w.heap.size, 0, none⟩)]] (w.alloc (.cells #[.map (some b)] 107)) fun e w' => ∃ (v : Value) (ss : List Int), e = .returned v ∧ ss.Perm (intKeys D0) ∧
      w'.ownsRow (w.heap.size + 1) 3 1 v ss.length ((ss.mergeSort (fun x y => decide (x ≤ y))).map encZ) ∧ Below (w.heap.size + 1) (w.alloc (.cells #[.map (some b)] 107)) w' := by
  refine (callsIn_wide (n := 5)).1 ?_
  have hbl := hown.lt
  have hseq : SeqGives Fence.wide 2 Tryz.prog 154 #[.pointer (some ⟨w.heap.size, 0, none⟩)] encZ (fun ss => ss.Perm (intKeys D0)) (Maps.size D0) (w.alloc (.cells #[.map (some b)] 107)) :=
    AnyZI.keys_gives (ρ := keysB_ren) { keysB with } Fence.wide _ trivial rfl (by omega) w.heap.size b nn D0 _ (by simp) (by simp) (by
      obtain ⟨es, clock, hb, Ft, hs, hD⟩ := hown
      exact ⟨es, clock, (Below.heap_alloc _ _ b hbl).trans hb, Ft, hs, hD⟩)
  have cS := AnyZI.sorted_in sortedA Fence.wide 5 trivial trivial trivial trivial rfl (by omega) (sortsA _) (enters_of Tryz.func121 (by kernel_rfl) rfl) 154 #[.pointer (some ⟨w.heap.size, 0, none⟩)] trivial (enters_of Tryz.func154 (by kernel_rfl) rfl) _ _ hmax hbytes _ hseq
  change CallsIn _ _ Tryz.prog 92 _ _ _ at cS
  refine cS.mono ?_
  rintro e w' ⟨v, ss, rfl, hS, hrow, hnil, hb⟩
  have hrow2 : w'.ownsRow (w.heap.size + 1) 3 1 v ss.length ((ss.mergeSort (fun x y => decide (x ≤ y))).map encZ) := by
    have := hrow
    simp only [World.size_alloc] at this
    exact this
  exact ⟨v, ss, rfl, hS, hrow2, by simpa using hb⟩
/-- the keys of a map, in order -/
theorem keys_s2 {w : World} {b : Nat} {L : List (Int × Value)} {K : Value → M} {Q : Value → World → Prop} (h : MapAt kI w b L) (hk : ∀ p ∈ L, 0 ≤ p.1 ∧ p.1 < 4096) (hL : L.length ≤ 4096)
    (kk : ∀ w' v, ownI w.heap.size 3 .i64 w' v ((L.map (·.1)).mergeSort (fun x y => decide (x ≤ y))) → Below w.heap.size w w' → K v w' Q) : cc Tryz.prog 126 #[.map (some b)] (fun t9 => cc Tryz.prog 92 #[t9] K) w Q := by
  obtain ⟨D0, ho, hp, hs⟩ := ownsMap_of h hk hL
  have hc := sorted_c2 ho (by rw [hs]; unfold maxLen; omega) (by rw [hs]; omega)
  have cK : Calls Tryz.prog 126 #[.map (some b)] w fun e w' => e = .returned (.func (.func 154) #[] #[.pointer (some ⟨w.heap.size, 0, none⟩)]) ∧ w' = w.alloc (.cells #[.map (some b)] 107) := (callsIn_wide (n := 5)).1 (AnyZI.keys_in keysB Fence.wide 5 trivial rfl (some b) w)
  refine cK.mono ?_
  rintro e w' ⟨rfl, rfl⟩
  refine hc.mono ?_
  rintro e w' ⟨v, ss, rfl, hS, hrow, hb⟩
  have e1 : ss.mergeSort (fun x y => decide (x ≤ y)) = (L.map (·.1)).mergeSort (fun x y => decide (x ≤ y)) := by
    have hp2 : ((ss.mergeSort (fun x y => decide (x ≤ y))).Perm ((L.map (·.1)).mergeSort (fun x y => decide (x ≤ y)))) := (List.mergeSort_perm _ _).trans ((hS.trans hp).trans (List.mergeSort_perm _ _).symm)
    refine hp2.eq_of_pairwise (le := fun x y => x ≤ y) (fun a b _ _ h1 h2 => by omega) ?_ ?_
    · exact (List.pairwise_mergeSort (le := fun x y => decide (x ≤ y)) (fun a b c h1 h2 => by simp at *; omega) (fun a b => by simp; omega) _).imp (by simp)
    · exact (List.pairwise_mergeSort (le := fun x y => decide (x ≤ y)) (fun a b c h1 h2 => by simp at *; omega) (fun a b => by simp; omega) _).imp (by simp)
  rw [e1] at hrow
  have hl : ss.length = ((L.map (·.1)).mergeSort (fun x y => decide (x ≤ y))).length := by rw [← e1, List.length_mergeSort]
  refine kk w' v ?_ ⟨hb.os, hb.tape, hb.output, Nat.le_trans (by simp) hb.size, fun k hk => ?_⟩
  · have : ownI (w.heap.size + 1) 3 .i64 w' v ((L.map (·.1)).mergeSort (fun x y => decide (x ≤ y))) := by
      unfold ownI
      rw [← hl]
      exact hrow
    exact ownI_weak this (by omega)
  · rw [hb.block k (by omega)]
    exact Below.heap_alloc _ _ k hk
/-- a map copied -/
theorem clone_s {w : World} {b : Nat} {L : List (Int × Value)} {K : Value → M} {Q : Value → World → Prop} (h : MapAt kI w b L) (kk : ∀ w', MapAt kI w' w.heap.size L → Below w.heap.size w w' → K (.map (some w.heap.size)) w' Q) : cc Tryz.prog 127 #[.map (some b)] K w Q := by
  obtain ⟨es, clock, h1, h2, h3⟩ := h
  have hc : Calls Tryz.prog 127 #[.map (some b)] w fun e w' => e = .returned (.map (some w.heap.size)) ∧ w' = w.alloc (.map es clock) := AnyW.maps_Clone cloneA b es clock w h1
  refine hc.mono ?_
  rintro e w' ⟨rfl, rfl⟩
  refine kk _ ⟨es, clock, by show (w.heap.push (.map es clock))[w.heap.size]? = _; rw [Array.getElem?_push_size], h2, h3⟩ ⟨rfl, rfl, rfl, by show w.heap.size ≤ (w.heap.push _).size; rw [Array.size_push]; omega, fun k hk => Below.heap_alloc _ _ k hk⟩
end Go.Proofs.YtongpnolikkknaaGreatDoor

set_option maxRecDepth 20000
set_option maxHeartbeats 4000000
namespace Go.Proofs.YtongpnolikkknaaGreatDoor
open Sh RowKit Go.MapKept
/-- the document's cache in memory -/
structure RfC (B : Nat) (w : World) (r : Nat) (v : Value) (sz : Nat) (K : List Int) (h m : Int) : Prop where
  rB : B ≤ r
  hr : w.heap[r]? = some (.cells #[.int .i64 (sz : Int), v, .int .i64 h, .int .i64 m] 57 (0, 0))
  hv : ownI B 3 .i64 w v K
section
variable {B : Nat} {W w w' : World} {c q mb p b r : Nat} {v u vs : Value} {C : Ca} {E : List (Nat × Ch)} {G : Pg} {D : Dv} {Q : Value → World → Prop} {K : List Int} {sz : Nat} {h m : Int}
theorem ownI_lit {e : TypeId} {k : IntKind} {x : Int} {g : Nat} (hB : B ≤ g) (h : w.heap[g]? = some (.cells #[.int k x] e (0, 0))) : ownI B e k w (.slice (some ⟨g, 0, none⟩) 1 1) [x] :=
  ⟨rfl, .inr ⟨g, 1, #[.int k x], rfl, hB, h, Nat.le_refl _, by unfold maxLen; omega, rfl, rfl⟩⟩
theorem RfC.lt (hc : RfC B w r v sz K h m) : r < w.heap.size := blk_lt hc.hr
end
end Go.Proofs.YtongpnolikkknaaGreatDoor

set_option maxRecDepth 20000
set_option maxHeartbeats 4000000
namespace Go.Proofs.YtongpnolikkknaaGreatDoor
open Sh RowKit Go.MapKept
structure Nt where
  U : List Nat
  hd : ByteArray
  mp : Nat
  F : Int → Option ByteArray
def stC (U : List Nat) (hd : ByteArray) (m : Nat) : List Value := (U.map fun (x : Nat) => Value.int .u8 (x : Int)) ++ [.string hd, .map (some m)]
def encN (x : Nt) : List Value := ((List.range 20).map fun i => Value.int .u8 ((x.U.getD i 0 : Nat) : Int)) ++ [.string x.hd, .map (some x.mp)]
theorem encN_len (x : Nt) : (encN x).length = 22 := by unfold encN; simp
theorem encN_one (x : Nt) : ∀ y ∈ encN x, y.oneCell' = true := by
  intro y hy
  unfold encN at hy
  rcases List.mem_append.1 hy with hy | hy
  · obtain ⟨i, _, rfl⟩ := List.mem_map.1 hy
    rfl
  · simp only [List.mem_cons, List.not_mem_nil, or_false] at hy
    rcases hy with rfl | rfl <;> rfl
theorem encN_eq {x : Nt} (h : x.U.length = 20) : encN x = stC x.U x.hd x.mp := by
  unfold encN stC
  congr 1
  refine List.ext_getElem (by simp [h]) fun i h1 h2 => ?_
  rw [List.getElem_map, List.getElem_map, List.getElem_range, List.getD_eq_getElem?_getD, List.getElem?_eq_getElem (by simpa using h2)]
  rfl
theorem stC_len {U : List Nat} {hd : ByteArray} {m : Nat} (h : U.length = 20) : (stC U hd m).length = 22 := by unfold stC; simp [h]
theorem stC_one {U : List Nat} {hd : ByteArray} {m : Nat} : ∀ y ∈ stC U hd m, y.oneCell' = true := by
  intro y hy
  unfold stC at hy
  rcases List.mem_append.1 hy with hy | hy
  · obtain ⟨i, _, rfl⟩ := List.mem_map.1 hy
    rfl
  · simp only [List.mem_cons, List.not_mem_nil, or_false] at hy
    rcases hy with rfl | rfl <;> rfl
theorem stC_21 {U : List Nat} {hd : ByteArray} {m : Nat} (h : U.length = 20) : (stC U hd m)[21]? = some (.map (some m)) := by
  unfold stC
  rw [List.getElem?_append_right (by rw [List.length_map, h]; decide), List.length_map, h]
  rfl
theorem stC_set {U : List Nat} {hd : ByteArray} {m m' : Nat} (h : U.length = 20) : (stC U hd m).toArray.setIfInBounds 21 (.map (some m')) = (stC U hd m').toArray := by
  apply Array.toList_inj.1
  rw [Array.toList_setIfInBounds]
  show (stC U hd m).set 21 _ = stC U hd m'
  unfold stC
  rw [List.set_append_right _ _ (by rw [List.length_map, h]; decide), List.length_map, h]
  rfl
theorem wCell_st (c : Nat) (U : List Nat) (hd : ByteArray) (mp : Nat) (vn : Value) (ov : Bool) : wCell c U hd mp vn ov = (pv c :: (stC U hd mp ++ [vn, .bool ov])).toArray := by
  unfold wCell stC
  rw [List.append_assoc]
  rfl
def FOk (N : Nat) (F : Int → Option ByteArray) : Prop := ∀ n s, F n = some s → 0 < n ∧ n < (N : Int) ∧ s.size = 256
structure Pn (B N : Nat) (w : World) (t c mp q mb p b : Nat) (v u : Value) (U : List Nat) (hd : ByteArray) (F : Int → Option ByteArray) (vn : Value) (PN : List Nt) (ov : Bool) (C : Ca) (E : List (Nat × Ch)) (G : Pg) (D : Dv) : Prop where
  wk : Wk B w t c mp q mb p b v u U hd F vn ov C E G D
  hh : hd.size = 236
  fo : FOk N F
  gl : G.L.length = N
  no : ownE B 110 22 encN w vn PN
  nm : ∀ x ∈ PN, (UOk x.U ∧ x.hd.size = 236 ∧ FOk N x.F) ∧ B ≤ x.mp ∧ x.mp ≠ mp ∧ ¬ fpX c q mb p b v u E x.mp ∧ ∃ ML, MapAt kI w x.mp ML ∧ ∀ n, lk ML n = (x.F n).map .string
  nx : ∀ g, vn.ownBlock = some g → ¬ fpX c q mb p b v u E g
def fpN (t c mp q mb p b : Nat) (v u vn : Value) (PN : List Nt) (E : List (Nat × Ch)) : Nat → Prop := fun k => fpX c q mb p b v u E k ∨ fpW t mp k ∨ vn.ownBlock = some k ∨ ∃ x ∈ PN, x.mp = k
theorem map_cells {w : World} {m : Nat} {ML : List (Int × Value)} {cs : Array Value} {e : TypeId} {f : Nat × Nat} (h : MapAt kI w m ML) (k : w.heap[m]? = some (.cells cs e f)) : False := by
  obtain ⟨es, clock, h1, _⟩ := h
  rw [k] at h1
  cases h1
section
variable {B N : Nat} {W w w' : World} {t c mp q mb p b m : Nat} {U : List Nat} {hd : ByteArray} {F : Int → Option ByteArray} {vn v u vl : Value} {PN : List Nt} {ov : Bool} {C : Ca} {E : List (Nat × Ch)} {G : Pg} {D : Dv} {Q : Value → World → Prop} {ML : List (Int × Value)} {K : Value → M}
theorem Pn.lt (h : Pn B N w t c mp q mb p b v u U hd F vn PN ov C E G D) : ∀ k, fpN t c mp q mb p b v u vn PN E k → B ≤ k ∧ k < w.heap.size := by
  rintro k (hk | hk | hk | ⟨x, hx, rfl⟩)
  · exact ⟨h.wk.cp.fpB k hk, h.wk.cp.lt k hk⟩
  · exact ⟨h.wk.wk.fpB k hk, h.wk.wk.lt k hk⟩
  · exact ⟨(ownE_blk h.no k hk).1, (ownE_blk h.no k hk).2.1⟩
  · obtain ⟨_, hB, _, _, ML, hm, _⟩ := h.nm x hx
    exact ⟨hB, hm.lt⟩
theorem Pn.vt (h : Pn B N w t c mp q mb p b v u U hd F vn PN ov C E G D) {g : Nat} (hg : vn.ownBlock = some g) : g ≠ t ∧ g ≠ mp ∧ ∀ x ∈ PN, x.mp ≠ g := by
  obtain ⟨_, _, cur, hcur⟩ := ownE_blk h.no g hg
  refine ⟨?_, ?_, ?_⟩
  · rintro rfl
    have hw := h.wk.wk.hw
    rw [hcur] at hw
    have h2 := Option.some.inj hw
    injection h2 with _ h3 _
    exact absurd h3 (by decide)
  · rintro rfl
    obtain ⟨ML, hm, _⟩ := h.wk.wk.mp
    exact map_cells hm hcur
  · rintro x hx rfl
    obtain ⟨_, _, _, _, ML, hm, _⟩ := h.nm x hx
    exact map_cells hm hcur
theorem Pn.below (h : Pn B N w t c mp q mb p b v u U hd F vn PN ov C E G D) (hb : Below w.heap.size w w') : Pn B N w' t c mp q mb p b v u U hd F vn PN ov C E G D :=
  ⟨h.wk.below hb, h.hh, h.fo, h.gl, ownE_below h.no hb, fun x hx => by
    obtain ⟨h1, h2, h3, h4, ML, h5, h6⟩ := h.nm x hx
    exact ⟨h1, h2, h3, h4, ML, h5.below hb, h6⟩, h.nx⟩
theorem Pn.chg {S : Nat → Prop} (h : Pn B N w t c mp q mb p b v u U hd F vn PN ov C E G D) (hc : ChgS S w w') (hS : ∀ k, fpN t c mp q mb p b v u vn PN E k → ¬ S k) : Pn B N w' t c mp q mb p b v u U hd F vn PN ov C E G D :=
  ⟨⟨h.wk.wk.chg hc fun k hk => hS k (.inr (.inl hk)), h.wk.cp.chg hc fun k hk => hS k (.inl hk), h.wk.sep⟩, h.hh, h.fo, h.gl, ownE_chg h.no hc fun g hg => hS g (.inr (.inr (.inl hg))), fun x hx => by
    obtain ⟨h1, h2, h3, h4, ML, h5, h6⟩ := h.nm x hx
    exact ⟨h1, h2, h3, h4, ML, h5.stay (hc.block _ h5.lt (hS _ (.inr (.inr (.inr ⟨x, hx, rfl⟩))))), h6⟩, h.nx⟩
/-- a step that leaves the notes as they are -/
theorem Pn.step {U' : List Nat} {hd' : ByteArray} {F' : Int → Option ByteArray} {ov' : Bool} {C' : Ca} {E' : List (Nat × Ch)} {G' : Pg} {D' : Dv} (h : Pn B N w t c mp q mb p b v u U hd F vn PN ov C E G D) (hw : Wk B w' t c mp q mb p b v u U' hd' F' vn ov' C' E' G' D') (hh : hd'.size = 236) (fo : FOk N F') (gl : G'.L.length = N)
    (hE : ∀ j, fpX c q mb p b v u E' j → fpX c q mb p b v u E j ∨ w.heap.size ≤ j) (hc : ChgS (fun k => fpX c q mb p b v u E k ∨ fpW t mp k) w w') : Pn B N w' t c mp q mb p b v u U' hd' F' vn PN ov' C' E' G' D' := by
  have hvn : ∀ g, vn.ownBlock = some g → ¬ (fpX c q mb p b v u E g ∨ fpW t mp g) := fun g hg hn => by
    obtain ⟨v1, v2, _⟩ := h.vt hg
    rcases hn with hn | hn | hn
    · exact h.nx g hg hn
    · exact v1 hn
    · exact v2 hn
  refine ⟨hw, hh, fo, gl, ownE_chg h.no hc hvn, fun x hx => ?_, fun g hg hn => ?_⟩
  · obtain ⟨h1, h2, h3, h4, ML, h5, h6⟩ := h.nm x hx
    refine ⟨h1, h2, h3, fun hn => ?_, ML, h5.stay (hc.block _ h5.lt ?_), h6⟩
    · rcases hE _ hn with hn | hn
      · exact h4 hn
      · have := h5.lt
        omega
    · rintro (hn | hn | hn)
      · exact h4 hn
      · have e : x.mp = t := hn
        rw [e] at h5
        exact map_cells h5 h.wk.wk.hw
      · exact h3 hn
  · rcases hE g hn with hn | hn
    · exact h.nx g hg hn
    · have := (ownE_blk h.no g hg).2.1
      omega
theorem f105_s (hU : U.length = 20) (hm : MapAt kI w m ML) (kk : ∀ w' m', MapAt kI w' m' ML → w.heap.size ≤ m' → Below w.heap.size w w' → Q (.agg (stC U hd m').toArray) w') : f105 (.agg (stC U hd m).toArray) w Q := by
  unfold f105
  have b1 := b_psh w (.cells (stC U hd m).toArray 110)
  have k1 := blk_psh_new (w := w) (o := .cells (stC U hd m).toArray 110)
  try simp only [↓reduceIte, ↓LL, LM, Value.cells, Nat.reduceAdd, Option.some.injEq, exists_eq_left', decide_true, decide_false, if_true, if_false, reduceCtorEq, cond_true, cond_false]
  generalize psh w (.cells (stC U hd m).toArray 110) = w1 at *
  have b2 := b_psh w1 (.cells #[.int .u8 0, .int .u8 0, .int .u8 0, .int .u8 0, .int .u8 0, .int .u8 0, .int .u8 0, .int .u8 0, .int .u8 0, .int .u8 0, .int .u8 0, .int .u8 0, .int .u8 0, .int .u8 0, .int .u8 0, .int .u8 0, .int .u8 0, .int .u8 0, .int .u8 0, .int .u8 0, .string ⟨#[]⟩, .map none] 110)
  have k2 := blk_psh_new (w := w1) (o := .cells #[.int .u8 0, .int .u8 0, .int .u8 0, .int .u8 0, .int .u8 0, .int .u8 0, .int .u8 0, .int .u8 0, .int .u8 0, .int .u8 0, .int .u8 0, .int .u8 0, .int .u8 0, .int .u8 0, .int .u8 0, .int .u8 0, .int .u8 0, .int .u8 0, .int .u8 0, .int .u8 0, .string ⟨#[]⟩, .map none] 110)
  generalize psh w1 (.cells #[.int .u8 0, .int .u8 0, .int .u8 0, .int .u8 0, .int .u8 0, .int .u8 0, .int .u8 0, .int .u8 0, .int .u8 0, .int .u8 0, .int .u8 0, .int .u8 0, .int .u8 0, .int .u8 0, .int .u8 0, .int .u8 0, .int .u8 0, .int .u8 0, .int .u8 0, .int .u8 0, .string ⟨#[]⟩, .map none] 110) = w2 at *
  have k12 := stay b2 k1
  have c21 : w2.cell? ⟨w.heap.size, 21, none⟩ = some (.map (some m)) := by
    rw [cell_of_blk k12]
    show (stC U hd m).toArray[21]? = _
    rw [List.getElem?_toArray]
    exact stC_21 hU
  have b02 := bt b1 b2
  have hm2 := hm.below b02
  have l1 := blk_lt k1
  have l2 := blk_lt k2
  try simp only [↓reduceIte, ↓LL, LM, Value.cells, Nat.reduceAdd, Option.some.injEq, exists_eq_left', decide_true, decide_false, if_true, if_false, reduceCtorEq, cond_true, cond_false, c21]
  refine clone_s hm2 fun w3 hm3 b3 => ?_
  have k13 := stay b3 k12
  have k23 := stay b3 k2
  have lm := hm3.lt
  have z3 := b3.size
  try simp only [↓reduceIte, ↓LL, LM, Value.cells, Nat.reduceAdd, Option.some.injEq, exists_eq_left', decide_true, decide_false, if_true, if_false, reduceCtorEq, cond_true, cond_false]
  have hsz : (stC U hd m).toArray.size = 22 := by rw [List.size_toArray, stC_len hU]
  refine st_box (o := 21) (v := .map (some w2.heap.size)) k13 (by rw [hsz]; decide) rfl fun w4 k14 u4 => ?_
  rw [stC_set hU] at k14
  have k24 : w4.heap[w1.heap.size]? = _ := (u4.block _ (by omega)).trans k23
  have hm4 := hm3.stay (u4.block w2.heap.size (by omega))
  try simp only [↓reduceIte, ↓LL, LM, Value.cells, Nat.reduceAdd, Option.some.injEq, exists_eq_left', decide_true, decide_false, if_true, if_false, reduceCtorEq, cond_true, cond_false]
  have hsz' : (stC U hd w2.heap.size).toArray.size = 22 := by rw [List.size_toArray, stC_len hU]
  refine ldn_box k14 hsz' ?_
  try simp only [↓reduceIte, ↓LL, LM, Value.cells, Nat.reduceAdd, Option.some.injEq, exists_eq_left', decide_true, decide_false, if_true, if_false, reduceCtorEq, cond_true, cond_false]
  refine stn_box k24 rfl hsz' (fun y hy => stC_one y (by simpa using hy)) fun w5 k25 u5 => ?_
  have hm5 := hm4.stay (u5.block w2.heap.size (by omega))
  try simp only [↓reduceIte, ↓LL, LM, Value.cells, Nat.reduceAdd, Option.some.injEq, exists_eq_left', decide_true, decide_false, if_true, if_false, reduceCtorEq, cond_true, cond_false]
  refine ldn_box k25 hsz' ?_
  try simp only [↓reduceIte, ↓LL, LM, Value.cells, Nat.reduceAdd, Option.some.injEq, exists_eq_left', decide_true, decide_false, if_true, if_false, reduceCtorEq, cond_true, cond_false]
  refine kk w5 w2.heap.size hm5 b02.size (b02.trans ?_)
  have b23 : Below w.heap.size w2 w3 := b3.mono (by omega)
  exact b23.trans ((u4.below (Nat.le_refl _)).trans (u5.below (by omega)))
/-- what is there now, read as a state -/
theorem WkAt.st (h : WkAt B w t c mp U hd F vn ov) : cellsAt w ⟨t, 1, none⟩ (stC U hd mp) := fun j x hj => by
  rw [add_lit, cell_of_blk h.hw, wCell_st]
  show (pv c :: (stC U hd mp ++ [vn, .bool ov])).toArray[1 + j]? = some x
  rw [List.getElem?_toArray, Nat.add_comm, List.getElem?_cons_succ]
  have hl : j < (stC U hd mp).length := by
    rcases Nat.lt_or_ge j (stC U hd mp).length with h | h
    · exact h
    · rw [List.getElem?_eq_none h] at hj; cases hj
  rw [List.getElem?_append_left hl]
  exact hj
theorem f64_s (h : Pn B N w t c mp q mb p b v u U hd F vn PN ov C E G D) (hB : B ≤ w.heap.size) (hn : PN.length ≤ 100000) (k13 : ov = true → Q (.int .i64 0) w)
    (kk : ov = false → ∀ w' vn' m', Pn B N w' t c mp q mb p b v u U hd F vn' (PN ++ [⟨U, hd, m', F⟩]) ov C E G D → (∀ g, vn'.ownBlock = some g → vn.ownBlock = some g ∨ w.heap.size ≤ g) → w.heap.size ≤ m' → ChgS (fun k => k = t ∨ vn.ownBlock = some k) w w' → Q (.int .i64 ((PN.length : Nat) : Int)) w') : f64 (pv t) w Q := by
  unfold f64
  try simp only [↓reduceIte, ↓LL, LM, Value.cells, Nat.reduceAdd, Option.some.injEq, exists_eq_left', decide_true, decide_false, if_true, if_false, reduceCtorEq, cond_true, cond_false]
  refine f70_s h.wk.wk ?_
  cases ov with
  | true =>
    have z : ¬ (13 : Int) = 0 := by decide
    try simp only [↓reduceIte, ↓LL, LM, Value.cells, Nat.reduceAdd, Option.some.injEq, exists_eq_left', decide_true, decide_false, if_true, if_false, reduceCtorEq, cond_true, cond_false, ne_eq, z]
    exact k13 rfl
  | false =>
    have hd0 : Pn B N (drw w) t c mp q mb p b v u U hd F vn PN false C E G D := h.below ⟨rfl, rfl, rfl, Nat.le_refl _, fun _ _ => rfl⟩
    have hU := h.wk.wk.ok.len
    have c23 : (drw w).cell? ⟨t, 23, none⟩ = some vn := hd0.wk.wk.c23
    have c23' : w.cell? ⟨t, 23, none⟩ = some vn := h.wk.wk.c23
    try simp only [↓reduceIte, ↓LL, LM, Value.cells, Nat.reduceAdd, Option.some.injEq, exists_eq_left', decide_true, decide_false, if_true, if_false, reduceCtorEq, cond_true, cond_false, ne_eq, c23, c23']
    refine ldn_at (hd0.wk.wk.st) (stC_len hU) ?_
    obtain ⟨ML, hm, hlk⟩ := hd0.wk.wk.mp
    try simp only [↓reduceIte, ↓LL, LM, Value.cells, Nat.reduceAdd, Option.some.injEq, exists_eq_left', decide_true, decide_false, if_true, if_false, reduceCtorEq, cond_true, cond_false]
    refine f105_s hU hm fun w2 m2 hm2 zm b2 => ?_
    have h2 := hd0.below b2
    have zz : w.heap.size ≤ w2.heap.size := b2.size
    have lm2 := hm2.lt
    refine ⟨by rw [Kld_e]; exact cell_below b2 c23, ?_⟩
    rw [← encN_eq (x := ⟨U, hd, m2, F⟩) hU]
    refine bslE slt111 rfl (by decide) (by decide) (encN_len _) fun w3 k3 b3 => ?_
    have h3 := h2.below b3
    refine ⟨by rw [Kld_e]; exact h3.wk.wk.c23, ?_⟩
    refine ap_E (m := [⟨U, hd, m2, F⟩]) slt111 rfl (by decide) encN_len encN_one h3.no (rd_lit (encN_len _) k3) (by simp only [List.length_cons, List.length_nil]; unfold maxLen; omega) (by simp only [List.length_cons, List.length_nil]; omega) (by have := b3.size; omega) fun v4 w4 o4 g4 f4 => ?_
    have hc4 : ChgS (fun k => vn.ownBlock = some k) w3 w4 := ChgS.grown g4 fun k hk => hk
    have z3 := b3.size
    have w4B : Below w.heap.size w w3 := bt (of_drw' b2) b3
    have hcA : ChgS (fun k => k = t ∨ vn.ownBlock = some k) w w4 := (ChgS.of_below w4B).trans (T := fun k => k = t ∨ vn.ownBlock = some k) (hc4.mono fun k hk => .inr hk) fun _ _ h => h
    have fr : ∀ g, v4.ownBlock = some g → vn.ownBlock = some g ∨ w.heap.size ≤ g := fun g hg => by
      rcases f4 with f4 | f4
      · left; rw [← f4]; exact hg
      · right
        rw [f4] at hg; cases hg; omega
    have hvn3 := fun g (hg : vn.ownBlock = some g) => h3.vt hg
    have wk4 : WkAt B w4 t c mp U hd F vn false := h3.wk.wk.chg hc4 fun k hk hn => by
      obtain ⟨a1, a2, _⟩ := hvn3 k hn
      rcases hk with hk | hk
      · exact a1 hk
      · exact a2 hk
    obtain ⟨x4, y4, e4, _⟩ : ∃ x y, v4 = .slice x (PN ++ [(⟨U, hd, m2, F⟩ : Nt)]).length y ∧ True := by
      unfold ownE at o4
      obtain ⟨_, h2'⟩ := o4
      rcases h2' with ⟨h5, h6⟩ | ⟨g, cap, cur, h5, _⟩
      · simp at h6
      · exact ⟨_, _, h5, trivial⟩
    try simp only [↓reduceIte, ↓LL, LM, Value.cells, Nat.reduceAdd, Option.some.injEq, exists_eq_left', decide_true, decide_false, if_true, if_false, reduceCtorEq, cond_true, cond_false]
    refine wk4.sN (vn' := v4) (by rw [e4]; rfl) fun w5 wk5 hc5 => ?_
    have c5 := wk5.c23
    have ew : IntKind.i64.wrap (((PN ++ [(⟨U, hd, m2, F⟩ : Nt)]).length : Nat) - 1) = ((PN.length : Nat) : Int) := by rw [List.length_append, w64 (by simp only [List.length_cons, List.length_nil]; omega) (by simp only [List.length_cons, List.length_nil]; omega)]; simp only [List.length_cons, List.length_nil]; omega
    have o5 : ownE B 110 22 encN w5 v4 (PN ++ [⟨U, hd, m2, F⟩]) := ownE_chg o4 hc5 fun g hg e => by
      obtain ⟨_, _, cur, hcur⟩ := ownE_blk o4 g hg
      have hw := wk4.hw
      rw [← e, hcur] at hw
      have h2 := Option.some.inj hw
      injection h2 with _ h3 _
      exact absurd h3 (by decide)
    have lv : ∀ (K : Value → M) (w1 : World) (Q : Value → World → Prop), lnl v4 K w1 Q = K (.int .i64 (((PN ++ [(⟨U, hd, m2, F⟩ : Nt)]).length : Nat) : Int)) w1 Q := fun K w1 Q => by rw [e4, lnl_e]
    try simp only [↓reduceIte, ↓LL, LM, Value.cells, Nat.reduceAdd, Option.some.injEq, exists_eq_left', decide_true, decide_false, if_true, if_false, reduceCtorEq, cond_true, cond_false, c5, lv, ew]
    have hcB : ChgS (fun k => k = t ∨ vn.ownBlock = some k) w w5 := hcA.trans (hc5.mono fun k hk => .inl hk) fun _ _ h => h
    have z4 : w.heap.size ≤ w3.heap.size := by omega
    have hX : ∀ k, fpX c q mb p b v u E k → ¬ (k = t ∨ vn.ownBlock = some k) := fun k hk hn => by
      rcases hn with hn | hn
      · exact h.wk.sep k hk (.inl hn)
      · exact h.nx k hn hk
    have mapS : ∀ {x : Nat} {L : List (Int × Value)}, MapAt kI w3 x L → MapAt kI w5 x L := fun {x L} hx => by
      have hx4 : MapAt kI w4 x L := hx.stay (hc4.block x hx.lt fun hn => by
        obtain ⟨_, _, cur, hcur⟩ := ownE_blk h3.no x hn
        exact map_cells hx hcur)
      exact hx4.stay (hc5.block x hx4.lt fun e => by
        have e : x = t := e
        rw [e] at hx4
        exact map_cells hx4 wk4.hw)
    refine kk rfl w5 v4 m2 ⟨⟨wk5, h.wk.cp.chg hcB hX, h.wk.sep⟩, h.hh, h.fo, h.gl, o5, fun x hx => ?_, fun g hg hn => ?_⟩ fr zm hcB
    · rcases List.mem_append.1 hx with hx | hx
      · obtain ⟨h1', h2', h3', h4', ML', h5', h6'⟩ := h3.nm x hx
        exact ⟨h1', h2', h3', h4', ML', mapS h5', h6'⟩
      · rw [List.mem_singleton.1 hx]
        refine ⟨⟨h.wk.wk.ok, h.hh, h.fo⟩, Nat.le_trans hB zm, fun e => ?_, fun hn => ?_, ML, mapS (hm2.below b3), hlk⟩
        · have e : m2 = mp := e
          have zm : w.heap.size ≤ m2 := zm
          have := h.wk.wk.lt mp (.inr rfl)
          omega
        · have hn : fpX c q mb p b v u E m2 := hn
          have zm : w.heap.size ≤ m2 := zm
          have := h.wk.cp.lt _ hn
          omega
    · rcases fr g hg with hg | hg
      · exact h.nx g hg hn
      · have := h.wk.cp.lt _ hn
        omega
theorem sll_ownE {α : Type} {enc : α → List Value} {n : Nat} {e : TypeId} {l : List α} {i : Nat} {j : IntKind} (hn : ∀ x, (enc x).length = n) (h : ownE B e n enc w v l) (hi : i ≤ l.length) (kk : ∀ v', ownE B e n enc w v' (l.take i) → v'.ownBlock = v.ownBlock → v'.oneCell' = true → K v' w Q) : sll n v none (some (.int j (i : Int))) K w Q := by
  unfold ownE at h
  obtain ⟨h1, h2⟩ := h
  rcases h2 with ⟨rfl, h0⟩ | ⟨g, cap, cur, rfl, hg, hb, hn', hm, hs, ht⟩
  · have : i = 0 := by omega
    subst this
    refine ⟨none, 0, 0, 0, 0, rfl, ⟨_, _, rfl, by omega, by omega, by omega⟩, rfl, ?_⟩
    exact kk _ (by simpa using ownE_nil) rfl rfl
  · refine ⟨some ⟨g, 0, none⟩, l.length, cap, 0, i, rfl, ⟨_, _, rfl, by omega, by omega, by omega⟩, rfl, ?_⟩
    have ev : (if cap = 0 then some (⟨g, 0, none⟩ : Addr) else (some (⟨g, 0, none⟩ : Addr)).map (·.add (0 * n))) = some ⟨g, 0, none⟩ := by split <;> simp [add_zero']
    rw [ev, Nat.sub_zero, Nat.sub_zero]
    refine kk _ ?_ rfl rfl
    unfold ownE
    have hl : (l.take i).length = i := by rw [List.length_take, Nat.min_eq_left hi]
    rw [hl]
    refine ⟨by rw [flat_len hn, hl], .inr ⟨g, cap, cur, rfl, hg, hb, by omega, hm, hs, ?_⟩⟩
    have e1 : (l.take i).flatMap enc = (l.flatMap enc).take (i * n) := by
      conv => rhs; rw [← List.take_append_drop i l, List.flatMap_append]
      rw [List.take_left' (by rw [flat_len hn, hl])]
    rw [e1, ← ht, List.take_take, Nat.min_eq_left (Nat.mul_le_mul_right n hi)]
theorem bk_cells {c mp m2 : Nat} {U U2 : List Nat} {hd hd2 : ByteArray} {vn : Value} {ov : Bool} (h1 : U.length = 20) (h2 : U2.length = 20) : ovl (wCell c U hd mp vn ov).toList 1 (stC U2 hd2 m2) = (wCell c U2 hd2 m2 vn ov).toList := by
  rw [wCell_st, wCell_st]
  unfold ovl
  rw [stC_len h2]
  show (pv c :: _).take 1 ++ _ ++ (pv c :: (stC U hd mp ++ [vn, .bool ov])).drop (1 + 22) = pv c :: (stC U2 hd2 m2 ++ [vn, .bool ov])
  rw [Nat.add_comm 1 22, List.drop_succ_cons, List.drop_left' (stC_len h1), List.take_succ_cons, List.take_zero, List.append_assoc]
  rfl
theorem f66_s {k : Int} (h : Pn B N w t c mp q mb p b v u U hd F vn PN ov C E G D) (hB : B ≤ w.heap.size) (hn : PN.length ≤ 100000) (k13 : ov = true → Q (.int .i64 13) w)
    (k7 : ov = false → (k < 0 ∨ (PN.length : Int) ≤ k) → Q (.int .i64 7) w)
    (kk : ov = false → ∀ (i : Nat) (hi : i < PN.length), k = (i : Int) → ∀ w' vn' m', Pn B N w' t c m' q mb p b v u PN[i].U PN[i].hd PN[i].F vn' (PN.take (i + 1)) ov C E G D → vn'.ownBlock = vn.ownBlock → w.heap.size ≤ m' → ChgS (fun k => k = t) w w' → Q (.int .i64 0) w') : f66 (pv t) (.int .i64 k) w Q := by
  unfold f66
  try simp only [↓reduceIte, ↓LL, LM, Value.cells, Nat.reduceAdd, Option.some.injEq, exists_eq_left', decide_true, decide_false, if_true, if_false, reduceCtorEq, cond_true, cond_false]
  refine f70_s h.wk.wk ?_
  cases ov with
  | true =>
    have z : ¬ (13 : Int) = 0 := by decide
    try simp only [↓reduceIte, ↓LL, LM, Value.cells, Nat.reduceAdd, Option.some.injEq, exists_eq_left', decide_true, decide_false, if_true, if_false, reduceCtorEq, cond_true, cond_false, ne_eq, z]
    exact k13 rfl
  | false =>
    have lv := lnl_S (ownE_rd encN_len (by decide) h.no)
    have c23 := h.wk.wk.c23
    by_cases g1 : k < 0
    · try simp only [↓reduceIte, ↓LL, LM, Value.cells, Nat.reduceAdd, Option.some.injEq, exists_eq_left', decide_true, decide_false, if_true, if_false, reduceCtorEq, cond_true, cond_false, ne_eq, g1]
      exact k7 rfl (.inl g1)
    · by_cases g2 : ((PN.length : Nat) : Int) ≤ k
      · have g2' : k ≥ ((PN.length : Nat) : Int) := g2
        try simp only [↓reduceIte, ↓LL, LM, Value.cells, Nat.reduceAdd, Option.some.injEq, exists_eq_left', decide_true, decide_false, if_true, if_false, reduceCtorEq, cond_true, cond_false, ne_eq, g1, c23, lv, g2, g2']
        exact k7 rfl (.inr g2)
      · have g2' : ¬ k ≥ ((PN.length : Nat) : Int) := g2
        obtain ⟨k, rfl⟩ := Int.eq_ofNat_of_zero_le (show 0 ≤ k by omega)
        have hkl : k < PN.length := by omega
        have kk := kk rfl k hkl rfl
        have hd0 : Pn B N (drw w) t c mp q mb p b v u U hd F vn PN false C E G D := h.below ⟨rfl, rfl, rfl, Nat.le_refl _, fun _ _ => rfl⟩
        have c23d : (drw w).cell? ⟨t, 23, none⟩ = some vn := hd0.wk.wk.c23
        have ew : IntKind.i64.wrap ((k : Int) + 1) = ((k + 1 : Nat) : Int) := by rw [w64 (by omega) (by omega)]; rfl
        obtain ⟨aad, es, he1, he2, he3, hia⟩ := rdS_at (ownE_rd encN_len (by decide) hd0.no) hkl
        have he3 : es = encN PN[k] := he3
        obtain ⟨⟨q1, q2, q3⟩, q4, q5, q6, ML, q7, q8⟩ := hd0.nm _ (List.getElem_mem hkl)
        have hU2 := q1.len
        try simp only [↓reduceIte, ↓LL, LM, Value.cells, Nat.reduceAdd, Option.some.injEq, exists_eq_left', decide_true, decide_false, if_true, if_false, reduceCtorEq, cond_true, cond_false, ne_eq, g1, c23, lv, g2, g2', c23d, hia]
        refine ldn_at he2 he1 ?_
        rw [he3, encN_eq hU2]
        try simp only [↓reduceIte, ↓LL, LM, Value.cells, Nat.reduceAdd, Option.some.injEq, exists_eq_left', decide_true, decide_false, if_true, if_false, reduceCtorEq, cond_true, cond_false, c23d, c23, ew]
        refine sll_ownE encN_len hd0.no (i := k + 1) (by omega) fun v2 o2 eb2 ob2 => ?_
        try simp only [↓reduceIte, ↓LL, LM, Value.cells, Nat.reduceAdd, Option.some.injEq, exists_eq_left', decide_true, decide_false, if_true, if_false, reduceCtorEq, cond_true, cond_false]
        refine f105_s hU2 q7 fun w3 m3 hm3 zm b3 => ?_
        have h3 := hd0.below b3
        have hm3l := hm3.lt
        refine ⟨by rw [Kld_e]; exact cell_below b3 c23d, ?_⟩
        have hU := h.wk.wk.ok.len
        try simp only [↓reduceIte, ↓LL, LM, Value.cells, Nat.reduceAdd, Option.some.injEq, exists_eq_left', decide_true, decide_false, if_true, if_false, reduceCtorEq, cond_true, cond_false]
        refine stn_at (o := 1) (m := 22) h3.wk.wk.hw (by rw [List.size_toArray, stC_len hU2]) (by rw [wc_size hU]; decide) (fun y hy => stC_one y (by simpa using hy)) fun w4 c4 hw4 e4 u4 => ?_
        have e4 : c4 = wCell c PN[k].U PN[k].hd m3 vn false := by
          apply Array.toList_inj.1
          rw [e4]
          exact bk_cells hU hU2
        subst e4
        have hc4 : ChgS (fun k => k = t) w3 w4 := ChgS.of_upd u4 rfl
        have mapS : ∀ {x : Nat} {L : List (Int × Value)}, MapAt kI w3 x L → MapAt kI w4 x L := fun {x L} hx => hx.stay (hc4.block x hx.lt fun e => by
            have e : x = t := e
            rw [e] at hx
            exact map_cells hx h3.wk.wk.hw)
        have wk4 : WkAt B w4 t c m3 PN[k].U PN[k].hd PN[k].F vn false := ⟨h.wk.wk.tB, Nat.le_trans hB zm, hw4, q1, ML, mapS hm3, q8⟩
        try simp only [↓reduceIte, ↓LL, LM, Value.cells, Nat.reduceAdd, Option.some.injEq, exists_eq_left', decide_true, decide_false, if_true, if_false, reduceCtorEq, cond_true, cond_false]
        refine wk4.sN (vn' := v2) ob2 fun w5 wk5 hc5 => ?_
        try simp only [↓reduceIte, ↓LL, LM, Value.cells, Nat.reduceAdd, Option.some.injEq, exists_eq_left', decide_true, decide_false, if_true, if_false, reduceCtorEq, cond_true, cond_false]
        have hcB : ChgS (fun k => k = t) w w5 := ((ChgS.of_below (of_drw' b3)).trans hc4 fun _ _ h => h).trans hc5 fun _ _ h => h
        have zm' : w.heap.size ≤ m3 := zm
        have hX : ∀ k, fpX c q mb p b v u E k → ¬ (k = t) := fun k hk hn => h.wk.sep k hk (.inl hn)
        refine kk w5 v2 m3 ⟨⟨wk5, h.wk.cp.chg hcB hX, fun k hk hn => ?_⟩, q2, q3, h.gl, ?_, fun x hx => ?_, fun g hg => h.nx g (by rw [← eb2]; exact hg)⟩ eb2 zm hcB
        · rcases hn with hn | hn
          · exact h.wk.sep k hk (.inl hn)
          · have := h.wk.cp.lt k hk
            omega
        · have o2' : ownE B 110 22 encN w v2 (PN.take (k + 1)) := o2
          exact ownE_chg o2' hcB fun g hg e => (h.vt (by rw [← eb2]; exact hg)).1 e
        · obtain ⟨h1', h2', h3', h4', ML', h5', h6'⟩ := h.nm x (List.mem_of_mem_take hx)
          refine ⟨h1', h2', fun e => ?_, h4', ML', h5'.stay (hcB.block _ h5'.lt fun e => ?_), h6'⟩
          · have := h5'.lt
            omega
          · have e : x.mp = t := e
            rw [e] at h5'
            exact map_cells h5' h.wk.wk.hw
end
end Go.Proofs.YtongpnolikkknaaGreatDoor

set_option maxRecDepth 20000
set_option maxHeartbeats 4000000
namespace Go.Proofs.YtongpnolikkknaaGreatDoor
open Sh RowKit Go.MapKept
def fG (F : Int → Option ByteArray) (n : Int) : ByteArray := (F n).getD ⟨#[]⟩
def cK (U : List Nat) (F : Int → Option ByteArray) (L : List ByteArray) (n : Nat) : Bool := isB U n && decide (L.getD n ⟨#[]⟩ ≠ fG F (n : Int))
def keysF (N : Nat) (F : Int → Option ByteArray) : List Nat := (List.range N).filter fun i => (F (i : Int)).isSome
def chK (U : List Nat) (F : Int → Option ByteArray) (L : List ByteArray) (ks : List Nat) : List Ch := (ks.filter (cK U F L)).map fun (n : Nat) => ((n : Int), fG F (n : Int))
def ch0 (U : List Nat) (hd : ByteArray) (L : List ByteArray) : List Ch := if L.getD 0 ⟨#[]⟩ ≠ firstW U hd then [(0, firstW U hd)] else []
def chsD (N : Nat) (U : List Nat) (hd : ByteArray) (F : Int → Option ByteArray) (L : List ByteArray) : List Ch := ch0 U hd L ++ chK U F L (keysF N F)
theorem chK_snoc {U : List Nat} {F : Int → Option ByteArray} {L : List ByteArray} {ks : List Nat} {n : Nat} : chK U F L (ks ++ [n]) = if cK U F L n = true then chK U F L ks ++ [((n : Int), fG F (n : Int))] else chK U F L ks := by
  unfold chK
  rw [List.filter_append]
  by_cases h : cK U F L n = true
  · rw [if_pos h, List.filter_cons_of_pos h, List.map_append]; rfl
  · rw [if_neg h, List.filter_cons_of_neg h]; simp
theorem chK_le (U : List Nat) (F : Int → Option ByteArray) (L : List ByteArray) (ks : List Nat) : (chK U F L ks).length ≤ ks.length := by
  unfold chK
  rw [List.length_map]
  exact List.length_filter_le _ _
theorem keysF_le (N : Nat) (F : Int → Option ByteArray) : (keysF N F).length ≤ N := by
  have := List.length_filter_le (fun i : Nat => (F (i : Int)).isSome) (List.range N)
  rw [List.length_range] at this
  exact this
theorem ch0_le (U : List Nat) (hd : ByteArray) (L : List ByteArray) : (ch0 U hd L).length ≤ 1 := by unfold ch0; split <;> simp
theorem chsD_le (N : Nat) (U : List Nat) (hd : ByteArray) (F : Int → Option ByteArray) (L : List ByteArray) : (chsD N U hd F L).length ≤ 1 + N := by
  unfold chsD
  rw [List.length_append]
  have := ch0_le U hd L
  have := chK_le U F L (keysF N F)
  have := keysF_le N F
  omega
theorem range_lt (n : Nat) : (List.range n).Pairwise (· < ·) := by
  rw [List.pairwise_iff_getElem]
  intro i j hi hj hij
  rw [List.getElem_range, List.getElem_range]; exact hij
theorem keysF_sort {N : Nat} {F : Int → Option ByteArray} {ML : List (Int × Value)} (hF : FOk N F) (hn : (ML.map (·.1)).Nodup) (hlk : ∀ n, lk ML n = (F n).map .string) : (ML.map (·.1)).mergeSort (fun x y => decide (x ≤ y)) = (keysF N F).map fun (j : Nat) => (j : Int) := by
  have hs1 : ((ML.map (·.1)).mergeSort (fun x y => decide (x ≤ y))).Pairwise (· ≤ ·) := (List.pairwise_mergeSort (le := fun x y => decide (x ≤ y)) (fun a b c h1 h2 => by simp at *; omega) (fun a b => by simp; omega) _).imp (by simp)
  have hs2 : ((keysF N F).map fun (j : Nat) => (j : Int)).Pairwise (· < ·) := by
    rw [List.pairwise_map]
    exact ((range_lt N).filter _).imp fun h => by omega
  have hn1 : ((ML.map (·.1)).mergeSort (fun x y => decide (x ≤ y))).Nodup := (List.mergeSort_perm _ _).nodup_iff.2 hn
  have hn2 : ((keysF N F).map fun (j : Nat) => (j : Int)).Nodup := hs2.imp fun h => by omega
  have hp : ((ML.map (·.1)).mergeSort (fun x y => decide (x ≤ y))).Perm ((keysF N F).map fun (j : Nat) => (j : Int)) := by
    rw [List.perm_ext_iff_of_nodup hn1 hn2]
    intro n
    rw [(List.mergeSort_perm _ _).mem_iff]
    constructor
    · intro hm
      obtain ⟨⟨n', x⟩, hx, rfl⟩ := List.mem_map.1 hm
      have hl := mem_lk hn hx
      rw [hlk] at hl
      cases hf : F n' with
      | none => rw [hf] at hl; cases hl
      | some s =>
        obtain ⟨f0, f1, _⟩ := hF n' s hf
        obtain ⟨i, rfl⟩ := Int.eq_ofNat_of_zero_le (show 0 ≤ n' by omega)
        refine List.mem_map.2 ⟨i, List.mem_filter.2 ⟨List.mem_range.2 (by omega), by rw [hf]; rfl⟩, rfl⟩
    · intro hm
      obtain ⟨i, hi, rfl⟩ := List.mem_map.1 hm
      have h2 := (List.mem_filter.1 hi).2
      cases hf : F (i : Int) with
      | none => rw [hf] at h2; cases h2
      | some s =>
        have : lk ML (i : Int) = some (.string s) := by rw [hlk, hf]; rfl
        exact List.mem_map.2 ⟨_, lk_mem this, rfl⟩
  exact hp.eq_of_pairwise (le := fun x y => x ≤ y) (fun a b _ _ h1 h2 => by omega) hs1 (hs2.imp fun h => by omega)
section
variable {B N : Nat} {W w w' : World} {t c mp q mb p b m : Nat} {U : List Nat} {hd : ByteArray} {F : Int → Option ByteArray} {vn v u vk va vl : Value} {PN : List Nt} {ov : Bool} {C : Ca} {E : List (Nat × Ch)} {G : Pg} {D : Dv} {Q : Value → World → Prop} {ML : List (Int × Value)} {K : Value → M}
theorem Wk.chg {S : Nat → Prop} (h : Wk B w t c mp q mb p b v u U hd F vn ov C E G D) (hc : ChgS S w w') (hX : ∀ k, fpX c q mb p b v u E k → ¬ S k) (hW : ∀ k, fpW t mp k → ¬ S k) : Wk B w' t c mp q mb p b v u U hd F vn ov C E G D := ⟨h.wk.chg hc hW, h.cp.chg hc hX, h.sep⟩
theorem Wk.row {e : TypeId} {g : Nat} {cur : Array Value} {f : Nat × Nat} (he : e ≠ 113) (h : Wk B w t c mp q mb p b v u U hd F vn ov C E G D) (hcur : w.heap[g]? = some (.cells cur e f)) : ¬ fpW t mp g := by
  rintro (rfl | rfl)
  · have hw := h.wk.hw
    rw [hcur] at hw
    have h2 := Option.some.inj hw
    injection h2 with _ h3 _
    exact he h3
  · obtain ⟨ML, hm, _⟩ := h.wk.mp
    exact map_cells hm hcur
theorem chg_loop {k : Int} {ks : List Nat} {acc : List Ch} {j2 : Value → M} (hW : Wk B W t c mp q mb p b v u U hd F vn ov C E G D) (gl : G.L.length = N) (hN : N ≤ 160) (hks : ∀ n ∈ ks, 0 < n ∧ n < N) (hkl : ks.length ≤ N) (hal : acc.length ≤ 1) (hk : k + 200 ≤ 999999)
    (kk : ∀ w' C' E' va', Wk B w' t c mp q mb p b v u U hd F vn ov C' E' G D → GoodK C'.K G.L → HB C' (k + (ks.length : Nat)) → (∀ j, fpX c q mb p b v u E' j → fpX c q mb p b v u E j ∨ W.heap.size ≤ j) → ChgS (fun j => fpX c q mb p b v u E j ∨ va.ownBlock = some j) W w' → ownE B 48 2 encC w' va' (acc ++ chK U F G.L ks) → (∀ g, va'.ownBlock = some g → ¬ fpX c q mb p b v u E' g) → (∀ g, va'.ownBlock = some g → va.ownBlock = some g ∨ W.heap.size ≤ g) → j2 va' w' Q) :
    ∀ (d m i : Nat) (w1 : World) (C1 : Ca) (E1 : List (Nat × Ch)) (va1 : Value), i + d = ks.length → d < m → Wk B w1 t c mp q mb p b v u U hd F vn ov C1 E1 G D → GoodK C1.K G.L → HB C1 (k + (i : Nat)) → (∀ j, fpX c q mb p b v u E1 j → fpX c q mb p b v u E j ∨ W.heap.size ≤ j) → ChgS (fun j => fpX c q mb p b v u E j ∨ va.ownBlock = some j) W w1 →
      ownI B 3 .i64 w1 vk (ks.map fun (j : Nat) => (j : Int)) → (∀ g, vk.ownBlock = some g → ¬ fpX c q mb p b v u E1 g) → ownE B 48 2 encC w1 va1 (acc ++ chK U F G.L (ks.take i)) → (∀ g, va1.ownBlock = some g → ¬ fpX c q mb p b v u E1 g) → (∀ g, va1.ownBlock = some g → va.ownBlock = some g ∨ W.heap.size ≤ g) → B ≤ W.heap.size →
      itr (fun _ _ _ _ _ => bot) (f104_b3 j2) m (pv t) va1 vk (.int .i64 ((ks.length : Nat) : Int)) (.int .i64 ((i : Nat) : Int)) w1 Q := by
  intro d
  induction d with
  | zero =>
    intro m i w1 C1 E1 va1 hi hm hw hg hb hE hc hvk hsk hva hsa hfa hB
    obtain ⟨m, rfl⟩ : ∃ x, m = x + 1 := ⟨m - 1, by omega⟩
    show f104_b3 j2 _ _ _ _ _ _ w1 Q
    unfold f104_b3
    have cc : ¬ (i : Int) < (ks.length : Nat) := by omega
    have : i = ks.length := by omega
    subst this
    rw [List.take_length] at hva
    try simp only [↓reduceIte, ↓LL, LM, Value.cells, Nat.reduceAdd, Option.some.injEq, exists_eq_left', decide_true, decide_false, if_true, if_false, reduceCtorEq, cond_true, cond_false, cc]
    exact kk w1 C1 E1 va1 hw hg hb hE hc hva hsa hfa
  | succ d ih =>
    intro m i w1 C1 E1 va1 hi hm hw hg hb hE hc hvk hsk hva hsa hfa hB
    obtain ⟨m, rfl⟩ : ∃ x, m = x + 1 := ⟨m - 1, by omega⟩
    show f104_b3 j2 _ _ _ _ _ _ w1 Q
    unfold f104_b3
    have cc : (i : Int) < (ks.length : Nat) := by omega
    have hil : i < ks.length := by omega
    have h3 : IntKind.i64.wrap ((i : Int) + 1) = ((i + 1 : Nat) : Int) := by rw [w64 (by omega) (by omega)]; rfl
    obtain ⟨a1, q1, ja1⟩ := rdI_at (ownI_rd hvk) (i := i) (by rw [List.length_map]; exact hil)
    rw [List.getElem_map] at q1
    have hnb := hks _ (List.getElem_mem hil)
    have hts : ks.take (i + 1) = ks.take i ++ [ks[i]] := List.take_succ_eq_append_getElem hil
    generalize ks[i] = n at *
    have c0 := hw.wk.c0
    try simp only [↓reduceIte, ↓LL, LM, Value.cells, Nat.reduceAdd, Option.some.injEq, exists_eq_left', decide_true, decide_false, if_true, if_false, reduceCtorEq, cond_true, cond_false, cc, ja1, q1, c0]
    refine hw.read hg hb (by omega) fun w2 C2 E2 hw2 hg2 hb2 hk2 hc2 => ?_
    have ep : pgR G.L (n : Int) = (G.L.getD n ⟨#[]⟩, 0) := by unfold pgR; rw [if_pos ⟨by omega, by omega⟩, Int.toNat_natCast]
    rw [ep]
    have lt1 := hw.cp.lt
    have hE2 : ∀ j, fpX c q mb p b v u E2 j → fpX c q mb p b v u E j ∨ W.heap.size ≤ j := fun j hj => by
      rcases hk2 j hj with hj | hj
      · exact hE j hj
      · exact .inr (Nat.le_trans hc.size hj)
    have hc02 : ChgS (fun j => fpX c q mb p b v u E j ∨ va.ownBlock = some j) W w2 := hc.trans hc2 fun x hx hj => by
      rcases hE x hj with hj | hj
      · exact .inl hj
      · omega
    have hvk2 : ownI B 3 .i64 w2 vk (ks.map fun (j : Nat) => (j : Int)) := ownI_chg hvk hc2 fun g hg hn => hsk g hg hn
    have hsk2 : ∀ g, vk.ownBlock = some g → ¬ fpX c q mb p b v u E2 g := fun g hg hn => by
      rcases hk2 g hn with hn | hn
      · exact hsk g hg hn
      · have := (ownI_lt hvk g hg).2.1
        omega
    have hva2 := ownE_chg hva hc2 fun g hg hn => hsa g hg hn
    have hsa2 : ∀ g, va1.ownBlock = some g → ¬ fpX c q mb p b v u E2 g := fun g hg hn => by
      rcases hk2 g hn with hn | hn
      · exact hsa g hg hn
      · have := (ownE_blk hva g hg).2.1
        omega
    have z2 := hc2.size
    try simp only [↓reduceIte, ↓LL, LM, Value.cells, Nat.reduceAdd, Option.some.injEq, exists_eq_left', decide_true, decide_false, if_true, if_false, reduceCtorEq, cond_true, cond_false, get0, get1]
    refine f71_s hw2.wk (by omega) fun w3 b3 => ?_
    have hw3 := hw2.below b3
    have hvk3 := ownI_below hvk2 b3
    have hva3 := ownE_below hva2 b3
    have hc03 : ChgS (fun j => fpX c q mb p b v u E j ∨ va.ownBlock = some j) W w3 := hc02.trans (ChgS.of_below b3) fun _ _ h => h
    have hb2' : HB C2 (k + ((i + 1 : Nat) : Int)) := by
      have e : k + ((i + 1 : Nat) : Int) = k + (i : Nat) + 1 := by omega
      rw [e]; exact hb2
    have hsn := chK_snoc (U := U) (F := F) (L := G.L) (ks := ks.take i) (n := n)
    have fin0 : cK U F G.L n = false → ∀ w4, Below w3.heap.size w3 w4 → itr (fun _ _ _ _ _ => bot) (f104_b3 j2) m (pv t) va1 vk (.int .i64 ((ks.length : Nat) : Int)) (.int .i64 ((i + 1 : Nat) : Int)) w4 Q := fun hp w4 b4 => by
      rw [hp, if_neg (by decide)] at hsn
      exact ih m (i + 1) w4 C2 E2 va1 (by omega) (by omega) (hw3.below b4) hg2 hb2' hE2 (hc03.trans (ChgS.of_below b4) fun _ _ h => h) (ownI_below hvk3 b4) hsk2 (by rw [hts, hsn]; exact ownE_below hva3 b4) hsa2 hfa hB
    cases hu : isB U n with
    | false =>
      have hp : cK U F G.L n = false := by unfold cK; rw [hu]; rfl
      try simp only [↓reduceIte, ↓LL, LM, Value.cells, Nat.reduceAdd, Option.some.injEq, exists_eq_left', decide_true, decide_false, if_true, if_false, reduceCtorEq, cond_true, cond_false]
      unfold f104_j4
      try simp only [↓reduceIte, ↓LL, LM, Value.cells, Nat.reduceAdd, Option.some.injEq, exists_eq_left', decide_true, decide_false, if_true, if_false, reduceCtorEq, cond_true, cond_false, h3]
      exact fin0 hp w3 (Below.refl _ _)
    | true =>
      have c22 := hw3.wk.c22
      obtain ⟨ML, hm1, hm2⟩ := hw3.wk.mp
      have hlook : ∀ (K : Value → M), smr Tryz.prog (Instr.lookup 107 (.map (some mp)) (.int .i64 ((n : Nat) : Int)) false) K w3 Q = K (.string (fG F (n : Int))) w3 Q := fun K => by
        rw [show (Value.int .i64 ((n : Nat) : Int)) = kI (n : Int) from rfl, look_v (kv := kI) KKs hm1 zS (n : Int), hm2 (n : Int)]
        unfold fG
        cases F (n : Int) <;> rfl
      by_cases hdd : G.L.getD n ⟨#[]⟩ = fG F (n : Int)
      · have hp : cK U F G.L n = false := by unfold cK; rw [hu, Bool.true_and]; exact decide_eq_false fun hne => hne hdd
        have hd' : decide (G.L.getD n ⟨#[]⟩ ≠ fG F (n : Int)) = false := decide_eq_false fun hne => hne hdd
        try simp only [↓reduceIte, ↓LL, LM, Value.cells, Nat.reduceAdd, Option.some.injEq, exists_eq_left', decide_true, decide_false, if_true, if_false, reduceCtorEq, cond_true, cond_false, c22, hlook, hd']
        unfold f104_j4
        try simp only [↓reduceIte, ↓LL, LM, Value.cells, Nat.reduceAdd, Option.some.injEq, exists_eq_left', decide_true, decide_false, if_true, if_false, reduceCtorEq, cond_true, cond_false, h3]
        exact fin0 hp w3 (Below.refl _ _)
      · have hp : cK U F G.L n = true := by unfold cK; rw [hu, Bool.true_and]; exact decide_eq_true hdd
        have hd' : decide (G.L.getD n ⟨#[]⟩ ≠ fG F (n : Int)) = true := decide_eq_true hdd
        rw [hp, if_pos rfl] at hsn
        try simp only [↓reduceIte, ↓LL, LM, Value.cells, Nat.reduceAdd, Option.some.injEq, exists_eq_left', decide_true, decide_false, if_true, if_false, reduceCtorEq, cond_true, cond_false, c22, hlook, hd']
        rw [smr_run (buildC _ _ w3)]
        try simp only [↓reduceIte, ↓LL, LM, Value.cells, Nat.reduceAdd, Option.some.injEq, exists_eq_left', decide_true, decide_false, if_true, if_false, reduceCtorEq, cond_true, cond_false]
        have ll : (acc ++ chK U F G.L (ks.take i)).length ≤ 1 + 160 := by
          rw [List.length_append]
          have := chK_le U F G.L (ks.take i)
          rw [List.length_take] at this
          omega
        refine ap_E1 (x := ((n : Int), fG F (n : Int))) slC rfl (by decide) (by decide) encC_len encC_one hva3 (by unfold maxLen; omega) (by omega) (Nat.le_trans hB hc03.size) fun w4 va4 o4 hc4 fr4 => ?_
        have hw4 : Wk B w4 t c mp q mb p b v u U hd F vn ov C2 E2 G D := hw3.chg hc4 (fun k hk hn => hsa2 k hn hk) fun k hk hn => by
          obtain ⟨_, _, cur, hcur⟩ := ownE_blk hva3 k hn
          exact hw3.row (by decide) hcur hk
        have hvk4 : ownI B 3 .i64 w4 vk (ks.map fun (j : Nat) => (j : Int)) := ownI_chg hvk3 hc4 fun g hg hn => by
          obtain ⟨_, _, cur, hcur⟩ := ownE_blk hva3 g hn
          obtain ⟨_, _, cur', hcur'⟩ := ownI_lt hvk3 g hg
          rw [hcur] at hcur'
          have h2 := Option.some.inj hcur'
          injection h2 with _ h3 _
          exact absurd h3 (by decide)
        have hc04 : ChgS (fun j => fpX c q mb p b v u E j ∨ va.ownBlock = some j) W w4 := hc03.trans hc4 fun x hx hj => by
          rcases hfa x hj with hj | hj
          · exact .inr hj
          · omega
        unfold f104_j4
        try simp only [↓reduceIte, ↓LL, LM, Value.cells, Nat.reduceAdd, Option.some.injEq, exists_eq_left', decide_true, decide_false, if_true, if_false, reduceCtorEq, cond_true, cond_false, h3]
        have z3 := hc03.size
        have z23 := b3.size
        refine ih m (i + 1) w4 C2 E2 va4 (by omega) (by omega) hw4 hg2 hb2' hE2 hc04 hvk4 hsk2 (by rw [hts, hsn, ← List.append_assoc]; exact o4) (fun g hg hn => ?_) (fun g hg => ?_) hB
        · rcases fr4 g hg with hg | hg
          · exact hsa2 g hg hn
          · have := hw3.cp.lt g hn
            omega
        · rcases fr4 g hg with hg | hg
          · exact hfa g hg
          · exact .inr (by omega)
theorem f104_s {k : Int} (h : Wk B w t c mp q mb p b v u U hd F vn ov C E G D) (gl : G.L.length = N) (h1 : 1 ≤ N) (hN : N ≤ 160) (fo : FOk N F) (hh : hd.size ≤ 1000) (hg : GoodK C.K G.L) (hb : HB C k) (hk : k + 300 ≤ 999999) (hB : B ≤ w.heap.size)
    (kk : ∀ w' C' E' vl, Wk B w' t c mp q mb p b v u U hd F vn ov C' E' G D → GoodK C'.K G.L → HB C' (k + 1 + (N : Nat)) → (∀ j, fpX c q mb p b v u E' j → fpX c q mb p b v u E j ∨ w.heap.size ≤ j) → ChgS (fpX c q mb p b v u E) w w' → ownE B 48 2 encC w' vl (chsD N U hd F G.L) → (∀ g, vl.ownBlock = some g → ¬ fpX c q mb p b v u E' g) → (∀ g, vl.ownBlock = some g → w.heap.size ≤ g) → Q vl w') : f104 (pv t) w Q := by
  unfold f104
  have c0 := h.wk.c0
  try simp only [↓reduceIte, ↓LL, LM, Value.cells, Nat.reduceAdd, Option.some.injEq, exists_eq_left', decide_true, decide_false, if_true, if_false, reduceCtorEq, cond_true, cond_false, c0]
  refine h.read hg hb (by omega) fun w2 C2 E2 h2 g2 hb2 hk2 hc2 => ?_
  have ep : pgR G.L 0 = (G.L.getD 0 ⟨#[]⟩, 0) := by unfold pgR; rw [if_pos ⟨Int.le_refl 0, by omega⟩]; rfl
  rw [ep]
  have z2 := hc2.size
  try simp only [↓reduceIte, ↓LL, LM, Value.cells, Nat.reduceAdd, Option.some.injEq, exists_eq_left', decide_true, decide_false, if_true, if_false, reduceCtorEq, cond_true, cond_false, get0, get1]
  refine f125_s h2.wk hh fun w3 b3 => ?_
  have h3 := h2.below b3
  have hc3 : ChgS (fpX c q mb p b v u E) w w3 := hc2.trans (ChgS.of_below b3) fun _ _ h => h
  have z3 := b3.size
  have rest : ∀ w5 va, Wk B w5 t c mp q mb p b v u U hd F vn ov C2 E2 G D → ChgS (fpX c q mb p b v u E) w w5 → ownE w.heap.size 48 2 encC w5 va (ch0 U hd G.L) → (∀ g, va.ownBlock = some g → ¬ fpX c q mb p b v u E2 g) → f104_j1 (pv t) va w5 Q := by
    intro w5 va h5 hc5 ova sva
    unfold f104_j1
    have c22 := h5.wk.c22
    obtain ⟨ML, hm, hlk⟩ := h5.wk.mp
    have hnd := MapAt.nodup hm
    have hsort := keysF_sort fo hnd hlk
    have hlen : ML.length = (keysF N F).length := by
      have := congrArg List.length hsort
      rw [List.length_mergeSort, List.length_map, List.length_map] at this
      exact this
    have hkle := keysF_le N F
    try simp only [↓reduceIte, ↓LL, LM, Value.cells, Nat.reduceAdd, Option.some.injEq, exists_eq_left', decide_true, decide_false, if_true, if_false, reduceCtorEq, cond_true, cond_false, c22]
    refine keys_s2 hm (fun x hx => ?_) (by omega) fun w6 vk ok6 b6 => ?_
    · obtain ⟨n', y⟩ := x
      have hl := mem_lk hnd hx
      rw [hlk] at hl
      cases hf : F n' with
      | none => rw [hf] at hl; cases hl
      | some s =>
        obtain ⟨f0, f1, _⟩ := fo n' s hf
        exact ⟨by show 0 ≤ n'; omega, by show n' < 4096; omega⟩
    rw [hsort] at ok6
    have h6 := h5.below b6
    have ova6 := ownE_below ova b6
    have lv := rdI_lnl (ownI_rd ok6)
    rw [List.length_map] at lv
    try simp only [↓reduceIte, ↓LL, LM, Value.cells, Nat.reduceAdd, Option.some.injEq, exists_eq_left', decide_true, decide_false, if_true, if_false, reduceCtorEq, cond_true, cond_false, lv]
    have z5 := hc5.size
    have z6 := b6.size
    refine ⟨_, chg_loop (W := w6) (va := va) (k := k + 1) (ks := keysF N F) (acc := ch0 U hd G.L) h6 gl hN (fun n hn => ?_) hkle (ch0_le _ _ _) (by omega) (fun w7 C7 E7 va7 h7 g7 hb7 hE7 hc7 o7 s7 f7 => ?_) (keysF N F).length ((keysF N F).length + 1) 0 w6 C2 E2 va (by omega) (by omega) h6 g2 ?_ (fun j hj => .inl hj) (ChgS.refl _ _) (ownI_weak ok6 (by omega)) (fun g hg hn => ?_) ?_ sva (fun g hg => .inl hg) (by omega)⟩
    · have hmn := List.mem_filter.1 hn
      have h2 := hmn.2
      cases hf : F (n : Int) with
      | none => rw [hf] at h2; cases h2
      | some s =>
        obtain ⟨f0, f1, _⟩ := fo _ s hf
        exact ⟨by omega, by omega⟩
    · unfold f104_j2
      try simp only [↓reduceIte, ↓LL, LM, Value.cells, Nat.reduceAdd, Option.some.injEq, exists_eq_left', decide_true, decide_false, if_true, if_false, reduceCtorEq, cond_true, cond_false]
      have fr : ∀ g, va7.ownBlock = some g → w.heap.size ≤ g := fun g hg => by
        rcases f7 g hg with hg | hg
        · exact (ownE_blk ova g hg).1
        · omega
      refine kk w7 C7 E7 va7 h7 g7 ?_ (fun j hj => ?_) ?_ o7 s7 fr
      · unfold HB at hb7 ⊢
        omega
      · rcases hE7 j hj with hj | hj
        · rcases hk2 j hj with hj | hj
          · exact .inl hj
          · exact .inr hj
        · exact .inr (by omega)
      · refine (hc5.trans (ChgS.of_below b6) fun _ _ h => h).trans hc7 fun x hx hj => ?_
        rcases hj with hj | hj
        · rcases hk2 x hj with hj | hj
          · exact hj
          · omega
        · have := (ownE_blk ova x hj).1
          omega
    · show HB C2 (k + 1 + ((0 : Nat) : Int))
      rw [Int.ofNat_zero, Int.add_zero]; exact hb2
    · have := (ownI_lt ok6 g hg).1
      have := h5.cp.lt g hn
      omega
    · rw [List.take_zero]
      show ownE B _ 2 encC w6 va (ch0 U hd G.L ++ [])
      rw [List.append_nil]
      exact ownE_weak ova6 hB
  by_cases hd0 : G.L.getD 0 ⟨#[]⟩ = firstW U hd
  · have hd' : decide (G.L.getD 0 ⟨#[]⟩ ≠ firstW U hd) = false := decide_eq_false fun hne => hne hd0
    have e0 : ch0 U hd G.L = [] := by unfold ch0; rw [if_neg fun hne => hne hd0]
    try simp only [↓reduceIte, ↓LL, LM, Value.cells, Nat.reduceAdd, Option.some.injEq, exists_eq_left', decide_true, decide_false, if_true, if_false, reduceCtorEq, cond_true, cond_false, hd']
    exact rest w3 _ h3 hc3 (by rw [e0]; exact ownE_nil) fun g hg => by cases hg
  · have hd' : decide (G.L.getD 0 ⟨#[]⟩ ≠ firstW U hd) = true := decide_eq_true hd0
    have e0 : ch0 U hd G.L = [(0, firstW U hd)] := by unfold ch0; rw [if_pos hd0]
    try simp only [↓reduceIte, ↓LL, LM, Value.cells, Nat.reduceAdd, Option.some.injEq, exists_eq_left', decide_true, decide_false, if_true, if_false, reduceCtorEq, cond_true, cond_false, hd']
    refine f125_s h3.wk hh fun w4 b4 => ?_
    have h4 := h3.below b4
    have z4 := b4.size
    try simp only [↓reduceIte, ↓LL, LM, Value.cells, Nat.reduceAdd, Option.some.injEq, exists_eq_left', decide_true, decide_false, if_true, if_false, reduceCtorEq, cond_true, cond_false]
    rw [smr_run (buildC _ _ w4)]
    try simp only [↓reduceIte, ↓LL, LM, Value.cells, Nat.reduceAdd, Option.some.injEq, exists_eq_left', decide_true, decide_false, if_true, if_false, reduceCtorEq, cond_true, cond_false]
    refine ap_E1 (B := w.heap.size) (x := ((0 : Int), firstW U hd)) (l := []) slC rfl (by decide) (by decide) encC_len encC_one ownE_nil (by simp only [List.length_nil]; unfold maxLen; omega) (by simp only [List.length_nil]; omega) (by omega) fun w5 va5 o5 hc5 fr5 => ?_
    have b5 : ChgS (fun _ => False) w4 w5 := hc5.mono fun k hk => by cases hk
    try simp only [↓reduceIte, ↓LL, LM, Value.cells, Nat.reduceAdd, Option.some.injEq, exists_eq_left', decide_true, decide_false, if_true, if_false, reduceCtorEq, cond_true, cond_false]
    refine rest w5 va5 (h4.chg b5 (fun _ _ h => h) fun _ _ h => h) ((hc3.trans (ChgS.of_below b4) fun _ _ h => h).trans (T := fun _ => False) b5 fun _ _ h => h.elim) (by rw [e0]; exact o5) fun g hg hn => ?_
    rcases fr5 g hg with hg | hg
    · cases hg
    · have := h4.cp.lt g hn
      omega
theorem chd_loop {cs : List Ch} {vc : Value} (hcs : rdS 2 (eR encC) W vc cs) (hl : cs.length ≤ 1000) (kk : ∀ w' v, Below W.heap.size W w' → ownI W.heap.size 3 .i64 w' v (cs.map (·.1)) → Q v w') :
    ∀ (d m i : Nat) (w1 : World) (va : Value), i + d = cs.length → d < m → Below W.heap.size W w1 → ownI W.heap.size 3 .i64 w1 va ((cs.take i).map (·.1)) → itr (fun _ _ _ _ => bot) (f62_b2 f62_j1) m va vc (.int .i64 ((cs.length : Nat) : Int)) (.int .i64 ((i : Nat) : Int)) w1 Q := by
  intro d
  induction d with
  | zero =>
    intro m i w1 va hi hm hb ho
    obtain ⟨m, rfl⟩ : ∃ x, m = x + 1 := ⟨m - 1, by omega⟩
    show f62_b2 f62_j1 _ _ _ _ _ w1 Q
    unfold f62_b2
    have cc : ¬ (i : Int) < (cs.length : Nat) := by omega
    rw [List.take_of_length_le (by omega)] at ho
    try simp only [↓reduceIte, ↓LL, LM, Value.cells, Nat.reduceAdd, Option.some.injEq, exists_eq_left', decide_true, decide_false, if_true, if_false, reduceCtorEq, cond_true, cond_false, cc]
    unfold f62_j1
    try simp only [↓reduceIte, ↓LL, LM, Value.cells, Nat.reduceAdd, Option.some.injEq, exists_eq_left', decide_true, decide_false, if_true, if_false, reduceCtorEq, cond_true, cond_false]
    exact kk w1 va hb ho
  | succ d ih =>
    intro m i w1 va hi hm hb ho
    obtain ⟨m, rfl⟩ : ∃ x, m = x + 1 := ⟨m - 1, by omega⟩
    show f62_b2 f62_j1 _ _ _ _ _ w1 Q
    unfold f62_b2
    have cc : (i : Int) < (cs.length : Nat) := by omega
    have hil : i < cs.length := by omega
    have h3 : IntKind.i64.wrap ((i : Int) + 1) = ((i + 1 : Nat) : Int) := by rw [w64 (by omega) (by omega)]; rfl
    obtain ⟨aad, es, he1, he2, he3, hia⟩ := rdS_at (rdS_below eR_st hb hcs) hil
    have he3 : es = encC cs[i] := he3
    have hts : cs.take (i + 1) = cs.take i ++ [cs[i]] := List.take_succ_eq_append_getElem hil
    try simp only [↓reduceIte, ↓LL, LM, Value.cells, Nat.reduceAdd, Option.some.injEq, exists_eq_left', decide_true, decide_false, if_true, if_false, reduceCtorEq, cond_true, cond_false, cc, hia]
    refine ldn_at he2 he1 ?_
    rw [he3]
    generalize cs[i] = x at *
    obtain ⟨n, s⟩ := x
    have b1 := b_psh w1 (.cells #[.int .i64 0, .string ⟨#[]⟩] 48)
    have k1 := blk_psh_new (w := w1) (o := .cells #[.int .i64 0, .string ⟨#[]⟩] 48)
    try simp only [↓reduceIte, ↓LL, LM, Value.cells, Nat.reduceAdd, Option.some.injEq, exists_eq_left', decide_true, decide_false, if_true, if_false, reduceCtorEq, cond_true, cond_false]
    generalize psh w1 (.cells #[.int .i64 0, .string ⟨#[]⟩] 48) = w2 at *
    refine stn_box k1 rfl rfl (by intro y hy; exact encC_one (n, s) y (by simpa using hy)) fun w3 k3 u3 => ?_
    have b13 : Below w1.heap.size w1 w3 := b1.trans (u3.below (Nat.le_refl _))
    have c0 : w3.cell? ⟨w1.heap.size, 0, none⟩ = some (.int .i64 n) := by rw [cell_of_blk k3]; rfl
    have hb3 := bt hb b13
    have ho3 := ownI_below ho b13
    try simp only [↓reduceIte, ↓LL, LM, Value.cells, Nat.reduceAdd, Option.some.injEq, exists_eq_left', decide_true, decide_false, if_true, if_false, reduceCtorEq, cond_true, cond_false, c0]
    refine ap_one slI ho3 (by rw [List.length_map, List.length_take]; omega) (by rw [List.length_map, List.length_take]; omega) hb3.size fun v4 w4 o4 b4 _ _ => ?_
    try simp only [↓reduceIte, ↓LL, LM, Value.cells, Nat.reduceAdd, Option.some.injEq, exists_eq_left', decide_true, decide_false, if_true, if_false, reduceCtorEq, cond_true, cond_false, h3]
    refine ih m (i + 1) w4 v4 (by omega) (by omega) (hb3.trans b4) ?_
    rw [hts, List.map_append]
    exact o4
theorem f62_s {k : Int} (h : Wk B w t c mp q mb p b v u U hd F vn ov C E G D) (gl : G.L.length = N) (h1 : 1 ≤ N) (hN : N ≤ 160) (fo : FOk N F) (hh : hd.size ≤ 1000) (hg : GoodK C.K G.L) (hb : HB C k) (hk : k + 300 ≤ 999999) (hB : B ≤ w.heap.size) (k13 : ov = true → Q (.slice none 0 0) w)
    (kk : ov = false → ∀ w' C' E' vl, Wk B w' t c mp q mb p b v u U hd F vn ov C' E' G D → GoodK C'.K G.L → HB C' (k + 1 + (N : Nat)) → (∀ j, fpX c q mb p b v u E' j → fpX c q mb p b v u E j ∨ w.heap.size ≤ j) → ChgS (fpX c q mb p b v u E) w w' → ownI w.heap.size 3 .i64 w' vl ((chsD N U hd F G.L).map (·.1)) → (∀ g, vl.ownBlock = some g → ¬ fpX c q mb p b v u E' g) → Q vl w') : f62 (pv t) w Q := by
  unfold f62
  try simp only [↓reduceIte, ↓LL, LM, Value.cells, Nat.reduceAdd, Option.some.injEq, exists_eq_left', decide_true, decide_false, if_true, if_false, reduceCtorEq, cond_true, cond_false]
  refine f70_s h.wk ?_
  cases ov with
  | true =>
    have z : ¬ (13 : Int) = 0 := by decide
    try simp only [↓reduceIte, ↓LL, LM, Value.cells, Nat.reduceAdd, Option.some.injEq, exists_eq_left', decide_true, decide_false, if_true, if_false, reduceCtorEq, cond_true, cond_false, ne_eq, z]
    exact k13 rfl
  | false =>
    try simp only [↓reduceIte, ↓LL, LM, Value.cells, Nat.reduceAdd, Option.some.injEq, exists_eq_left', decide_true, decide_false, if_true, if_false, reduceCtorEq, cond_true, cond_false, ne_eq]
    refine f104_s h gl h1 hN fo hh hg hb hk hB fun w2 C2 E2 vl h2 g2 hb2 hE2 hc2 o2 s2 f2 => ?_
    have hrd := ownE_rd encC_len (by decide) o2
    have lv := lnl_S hrd
    have hle := chsD_le N U hd F G.L
    have z2 := hc2.size
    try simp only [↓reduceIte, ↓LL, LM, Value.cells, Nat.reduceAdd, Option.some.injEq, exists_eq_left', decide_true, decide_false, if_true, if_false, reduceCtorEq, cond_true, cond_false, lv]
    refine ⟨_, chd_loop (W := w2) hrd (by omega) (fun w3 v3 b3 o3 => ?_) (chsD N U hd F G.L).length ((chsD N U hd F G.L).length + 1) 0 w2 _ (by omega) (by omega) (Below.refl _ _) ownI_nil⟩
    refine kk rfl w3 C2 E2 v3 (h2.below b3) g2 hb2 hE2 (hc2.trans (ChgS.of_below b3) fun _ _ h => h) (ownI_weak o3 z2) fun g hg hn => ?_
    have := (ownI_lt o3 g hg).1
    have := h2.cp.lt g hn
    omega
theorem chs_ok (hU : UOk U) (hh : hd.size = 236) (fo : FOk N F) (h1 : 1 ≤ N) (L : List ByteArray) : (∀ x ∈ chsD N U hd F L, 0 ≤ x.1 ∧ x.1 < (N : Int)) ∧ ((chsD N U hd F L).map (·.1)).Nodup ∧ ∀ x ∈ chsD N U hd F L, x.2.size = 256 := by
  have hkF : ∀ n ∈ (keysF N F).filter (cK U F L), 0 < n ∧ n < N ∧ (fG F (n : Int)).size = 256 := fun n hn => by
    have hmn := List.mem_filter.1 (List.mem_filter.1 hn).1
    have h2 := hmn.2
    cases hf : F (n : Int) with
    | none => rw [hf] at h2; cases h2
    | some s =>
      obtain ⟨f0, f1, f2⟩ := fo _ s hf
      exact ⟨by omega, by omega, by unfold fG; rw [hf]; exact f2⟩
  have h0 : ∀ x ∈ ch0 U hd L, x = (0, firstW U hd) := fun x hx => by
    unfold ch0 at hx
    split at hx
    · exact List.mem_singleton.1 hx
    · simp at hx
  have hf0 : (firstW U hd).size = 256 := by unfold firstW; rw [ByteArray.size_append, usedS_size hU]; omega
  have hb : ∀ x ∈ chsD N U hd F L, (0 ≤ x.1 ∧ x.1 < (N : Int)) ∧ x.2.size = 256 := fun x hx => by
    rcases List.mem_append.1 hx with hx | hx
    · rw [h0 x hx]; exact ⟨⟨Int.le_refl _, by show (0 : Int) < N; omega⟩, hf0⟩
    · obtain ⟨n, hn, rfl⟩ := List.mem_map.1 hx
      obtain ⟨a1, a2, a3⟩ := hkF n hn
      exact ⟨⟨by show (0 : Int) ≤ (n : Int); omega, by show (n : Int) < N; omega⟩, a3⟩
  refine ⟨fun x hx => (hb x hx).1, ?_, fun x hx => (hb x hx).2⟩
  unfold chsD
  rw [List.map_append, List.nodup_append]
  refine ⟨?_, ?_, ?_⟩
  · unfold ch0
    split <;> simp
  · unfold chK
    rw [List.map_map]
    have : (((keysF N F).filter (cK U F L)).map fun (n : Nat) => (n : Int)).Pairwise (· < ·) := by
      rw [List.pairwise_map]
      exact (((range_lt N).filter _).filter _).imp fun h => by omega
    exact this.imp fun h => by show _ ≠ _; intro e; omega
  · intro a ha d hd' e
    obtain ⟨x, hx, rfl⟩ := List.mem_map.1 ha
    obtain ⟨y, hy, rfl⟩ := List.mem_map.1 hd'
    obtain ⟨n, hn, rfl⟩ := List.mem_map.1 hy
    have := (hkF n hn).1
    rw [h0 x hx] at e
    have e : (0 : Int) = (n : Int) := e
    omega
theorem chs_may (hU : UOk U) (hh : hd.size = 236) (fo : FOk N F) (h1 : 1 ≤ N) (L : List ByteArray) : mayB false N (chsD N U hd F L) = if 31 < (chsD N U hd F L).length then 3 else 0 := by
  obtain ⟨a1, a2, a3⟩ := chs_ok hU hh fo h1 L
  unfold mayB
  rw [if_neg (by decide)]
  split
  · rfl
  · rw [if_neg (by rintro ⟨x, hx, hn⟩; have := a1 x hx; omega), if_neg]
    unfold oddL
    rw [decide_eq_true_iff]
    exact fun hn => hn ⟨a2, a3⟩
structure Dg (D : Dv) (G : Pg) (k : Int) : Prop where
  rdy : Rdy D G.L
  all : AllS D.A
  st : G.st = false
  h : D.h = 4611686018427387904
  c0 : 0 ≤ D.c
  c1 : D.c ≤ 300 * k
  g0 : 0 ≤ G.c
  g1 : G.c ≤ k
theorem Dg.mono {D : Dv} {G : Pg} {k k' : Int} (h : Dg D G k) (hk : k ≤ k') : Dg D G k' := ⟨h.rdy, h.all, h.st, h.h, h.c0, by have := h.c1; omega, h.g0, by have := h.g1; omega⟩
theorem f69_s {k kd : Int} (h : Pn B N w t c mp q mb p b v u U hd F vn PN ov C E G D) (h1 : 1 ≤ N) (hN : N ≤ 160) (hg : GoodK C.K G.L) (hb : HB C k) (hk : k + 300 ≤ 999999) (hd' : Dg D G kd) (hkd : kd ≤ 3000) (hB : B ≤ w.heap.size) (k13 : ov = true → Q (.int .i64 13) w)
    (k3 : ov = false → 31 < (chsD N U hd F G.L).length → ∀ w' C' E', Pn B N w' t c mp q mb p b v u U hd F vn PN ov C' E' G D → GoodK C'.K G.L → HB C' (k + 1 + (N : Nat)) → (∀ j, fpX c q mb p b v u E' j → fpX c q mb p b v u E j ∨ w.heap.size ≤ j) → ChgS (fun j => fpX c q mb p b v u E j ∨ fpW t mp j) w w' → Q (.int .i64 3) w')
    (k0 : ov = false → (chsD N U hd F G.L).length ≤ 31 → ∀ w' C' E' G' D', Pn B N w' t c mp q mb p b v u U hd F vn PN true C' E' G' D' → G'.L = setL G.L (chsD N U hd F G.L) → GoodK C'.K G'.L → HB C' (k + 1 + (N : Nat)) → Dg D' G' (kd + 1) → (∀ j, fpX c q mb p b v u E' j → fpX c q mb p b v u E j ∨ w.heap.size ≤ j) → ChgS (fun j => fpX c q mb p b v u E j ∨ fpW t mp j) w w' → Q (.int .i64 0) w') : f69 (pv t) w Q := by
  unfold f69
  try simp only [↓reduceIte, ↓LL, LM, Value.cells, Nat.reduceAdd, Option.some.injEq, exists_eq_left', decide_true, decide_false, if_true, if_false, reduceCtorEq, cond_true, cond_false]
  refine f70_s h.wk.wk ?_
  cases ov with
  | true =>
    have z : ¬ (13 : Int) = 0 := by decide
    try simp only [↓reduceIte, ↓LL, LM, Value.cells, Nat.reduceAdd, Option.some.injEq, exists_eq_left', decide_true, decide_false, if_true, if_false, reduceCtorEq, cond_true, cond_false, ne_eq, z]
    exact k13 rfl
  | false =>
    have hd0 : Pn B N (drw w) t c mp q mb p b v u U hd F vn PN false C E G D := h.below ⟨rfl, rfl, rfl, Nat.le_refl _, fun _ _ => rfl⟩
    have c0 : (drw w).cell? ⟨t, 0, none⟩ = some (pv c) := hd0.wk.wk.c0
    have c0' : w.cell? ⟨t, 0, none⟩ = some (pv c) := h.wk.wk.c0
    try simp only [↓reduceIte, ↓LL, LM, Value.cells, Nat.reduceAdd, Option.some.injEq, exists_eq_left', decide_true, decide_false, if_true, if_false, reduceCtorEq, cond_true, cond_false, ne_eq, c0, c0']
    refine f104_s hd0.wk h.gl h1 hN h.fo (by have := h.hh; omega) hg hb hk hB fun w2 C2 E2 vl h2 g2 hb2 hE2 hc2 o2 s2 f2 => ?_
    refine ⟨by rw [Kld_e]; exact h2.wk.c0, ?_⟩
    have hle := chsD_le N U hd F G.L
    have hmay := chs_may h.wk.wk.ok h.hh h.fo h1 G.L
    obtain ⟨q1, q2, q3⟩ := chs_ok h.wk.wk.ok h.hh h.fo h1 G.L
    have hst := hd'.st
    have hmay' : mayB G.st G.L.length (chsD N U hd F G.L) = if 31 < (chsD N U hd F G.L).length then 3 else 0 := by rw [hst, h.gl]; exact hmay
    have hc2' : ChgS (fun j => fpX c q mb p b v u E j ∨ fpW t mp j) w w2 := (hc2.of_drw).mono fun j hj => .inl hj
    generalize chsD N U hd F G.L = cs at *
    have dc0 := hd'.c0
    have dc1 := hd'.c1
    have dg0 := hd'.g0
    have dg1 := hd'.g1
    have gl := h.gl
    refine h2.cp.commit o2 s2 (by omega) dc0 (by omega) dg0 (by omega) (by omega) (fun w3 hne hcp3 hc3 => ?_) (fun w3 he hcp3 hc3 => ?_)
    · have hlen : 31 < cs.length := by
        apply Classical.byContradiction
        intro hn
        rw [if_neg hn] at hmay'
        obtain ⟨D', e1, _⟩ := commit_ok (G := G) hd'.rdy hd'.all hmay' (by rw [hd'.h]; omega)
        rw [e1] at hne
        exact hne rfl
      rw [if_pos hlen] at hmay'
      have ec := commit_no (G := G) (D := D) (cs := cs) (.inl (by rw [hmay']; decide))
      rw [hmay'] at ec
      rw [ec] at hcp3 ⊢
      have hcp3 : CP B w3 c q mb p b v u C2 E2 G D := hcp3
      have hw3 : Wk B w3 t c mp q mb p b v u U hd F vn false C2 E2 G D := ⟨h2.wk.chg hc3 fun k hk hn => h2.sep k hn hk, hcp3, h2.sep⟩
      have hc23 : ChgS (fun j => fpX c q mb p b v u E j ∨ fpW t mp j) w w3 := hc2'.trans hc3 fun x hx hj => by
        rcases hE2 x hj with hj | hj
        · exact .inl hj
        · exact absurd hx (by have : w.heap.size ≤ x := hj; omega)
      have c24 := hw3.wk.c24
      have z3 : ¬ (3 : Int) = 0 := by decide
      try simp only [↓reduceIte, ↓LL, LM, Value.cells, Nat.reduceAdd, Option.some.injEq, exists_eq_left', decide_true, decide_false, if_true, if_false, reduceCtorEq, cond_true, cond_false, c24, z3]
      refine hw3.wk.sO (o := false) fun w4 hw4 hc4 => ?_
      try simp only [↓reduceIte, ↓LL, LM, Value.cells, Nat.reduceAdd, Option.some.injEq, exists_eq_left', decide_true, decide_false, if_true, if_false, reduceCtorEq, cond_true, cond_false]
      have hX : ∀ k, fpX c q mb p b v u E2 k → ¬ (k = t) := fun k hk hn => h2.sep k hk (.inl hn)
      have hc24 : ChgS (fun j => fpX c q mb p b v u E j ∨ fpW t mp j) w w4 := hc23.trans hc4 fun x hx hj => .inr (.inl hj)
      exact k3 rfl hlen w4 C2 E2 (h.step ⟨hw4, hcp3.chg hc4 hX, h2.sep⟩ h.hh h.fo h.gl hE2 hc24) g2 hb2 hE2 hc24
    · have hlen : cs.length ≤ 31 := by
        apply Classical.byContradiction
        intro hn
        rw [if_pos (by omega)] at hmay'
        have ec := commit_no (G := G) (D := D) (cs := cs) (.inl (by rw [hmay']; decide))
        rw [ec, hmay'] at he
        have he : (3 : Int) = 0 := he
        exact absurd he (by decide)
      rw [if_neg (by omega)] at hmay'
      obtain ⟨D', e1, r1, e2, e3, e4⟩ := commit_ok (G := G) hd'.rdy hd'.all hmay' (by rw [hd'.h]; omega)
      rw [e1] at hcp3
      have hcp3 : CP B w3 c q mb p b v u (cmC C2 ((cmE E2 cs).map (·.2))) (cmE E2 cs) ⟨setL G.L cs, G.st, G.c + (if cs.length = 0 then 0 else 1)⟩ D' := hcp3
      have hEc := fpX_fst (c := c) (q := q) (mb := mb) (p := p) (b := b) (v := v) (u := u) (cmE_fst cs E2)
      have hsep3 : ∀ k, fpX c q mb p b v u (cmE E2 cs) k → ¬ fpW t mp k := fun k hk => h2.sep k ((hEc k).1 hk)
      have hwk3 : WkAt B w3 t c mp U hd F vn false := h2.wk.chg hc3 fun k hk hn => h2.sep k hn hk
      have hc23 : ChgS (fun j => fpX c q mb p b v u E j ∨ fpW t mp j) w w3 := hc2'.trans hc3 fun x hx hj => by
        rcases hE2 x hj with hj | hj
        · exact .inl hj
        · exact absurd hx (by have : w.heap.size ≤ x := hj; omega)
      have c24 := hwk3.c24
      try simp only [↓reduceIte, ↓LL, LM, Value.cells, Nat.reduceAdd, Option.some.injEq, exists_eq_left', decide_true, decide_false, if_true, if_false, reduceCtorEq, cond_true, cond_false, c24]
      refine hwk3.sO (o := true) fun w4 hw4 hc4 => ?_
      try simp only [↓reduceIte, ↓LL, LM, Value.cells, Nat.reduceAdd, Option.some.injEq, exists_eq_left', decide_true, decide_false, if_true, if_false, reduceCtorEq, cond_true, cond_false]
      have hX : ∀ k, fpX c q mb p b v u (cmE E2 cs) k → ¬ (k = t) := fun k hk hn => hsep3 k hk (.inl hn)
      have hc24 : ChgS (fun j => fpX c q mb p b v u E j ∨ fpW t mp j) w w4 := hc23.trans hc4 fun x hx hj => .inr (.inl hj)
      have hE4 : ∀ j, fpX c q mb p b v u (cmE E2 cs) j → fpX c q mb p b v u E j ∨ w.heap.size ≤ j := fun j hj => hE2 j ((hEc j).1 hj)
      have hK2 := h2.cp.ca.K
      have g4 : GoodK (cmC C2 ((cmE E2 cs).map (·.2))).K (setL G.L cs) := GoodK.commit cs E2 G.L (by rw [← hK2]; exact g2) (by rw [gl]; exact q1)
      have gl4 : (setL G.L cs).length = N := by rw [setL_len]; exact gl
      have hcn : callsN cs.length ≤ 300 ∧ 0 ≤ callsN cs.length := by unfold callsN; split <;> omega
      refine k0 rfl hlen w4 _ _ _ D' (h.step ⟨hw4, hcp3.chg hc4 hX, hsep3⟩ h.hh h.fo gl4 hE4 hc24) rfl g4 hb2 ⟨r1, e4, hst, by rw [e2]; exact hd'.h, by omega, by omega, ?_, ?_⟩ hE4 hc24
      · show 0 ≤ G.c + (if cs.length = 0 then 0 else 1)
        split <;> omega
      · show G.c + (if cs.length = 0 then 0 else 1) ≤ kd + 1
        split <;> omega
end
end Go.Proofs.YtongpnolikkknaaGreatDoor

set_option maxRecDepth 20000
set_option maxHeartbeats 4000000
namespace Go.Proofs.YtongpnolikkknaaGreatDoor
open Sh RowKit Go.MapKept
section
variable {B : Nat} {W w w' : World} {t c mp q mb p b : Nat} {U : List Nat} {hd : ByteArray} {F : Int → Option ByteArray} {vn v u vd : Value} {ov : Bool} {C : Ca} {E : List (Nat × Ch)} {G : Pg} {D : Dv} {Q : Value → World → Prop}
theorem f15_s {n : Int} (kk : Q (.int .i64 ((pagesN n : Nat) : Int)) w) : f15 (.int .i64 n) w Q := by
  unfold f15
  have h := um_bd n (show (0 : Int) < 40 by decide)
  have e1 : (IntKind.u64.wrap n).tmod 40 = um n 40 := rfl
  have e2 : IntKind.i64.wrap (um n 40) = um n 40 := w64 (by omega) (by omega)
  have e3 : IntKind.i64.wrap (1 + um n 40) = ((pagesN n : Nat) : Int) := by rw [w64 (by omega) (by omega)]; unfold pagesN; omega
  have z : ¬ (40 : Int) = 0 := by decide
  try simp only [↓reduceIte, ↓LL, LM, Value.cells, Nat.reduceAdd, Option.some.injEq, exists_eq_left', decide_true, decide_false, if_true, if_false, reduceCtorEq, cond_true, cond_false, e1, e2, e3, z]
  first
    | exact kk
    | exact ⟨by decide, kk⟩
    | skip
  try simp only [↓reduceIte, ↓LL, LM, Value.cells, Nat.reduceAdd, Option.some.injEq, exists_eq_left', decide_true, decide_false, if_true, if_false, reduceCtorEq, cond_true, cond_false, e1, e2, e3, z]
  try exact kk
end
end Go.Proofs.YtongpnolikkknaaGreatDoor

set_option maxRecDepth 20000
set_option maxHeartbeats 4000000
namespace Go.Proofs.YtongpnolikkknaaGreatDoor
open Sh RowKit Go.MapKept
theorem byL_usedS {U : List Nat} (h : UOk U) : byL (usedS U) = U.map fun (x : Nat) => (x : Int) := byL_son fun x hx => by
  obtain ⟨y, hy, rfl⟩ := List.mem_map.1 hx
  have := h.bd y hy
  omega
theorem byL_first {U : List Nat} {hd : ByteArray} (h : UOk U) : byL (firstW U hd) = (U.map fun (x : Nat) => (x : Int)) ++ byL hd := by unfold firstW; rw [byL_app, byL_usedS h]
theorem U0_first {U : List Nat} {hd : ByteArray} (h : UOk U) : U0 (firstW U hd) = U := by
  unfold U0
  rw [byL_first h, List.take_left' (by rw [List.length_map, h.len]), List.map_map]
  exact (List.map_congr_left fun x _ => rfl).trans (List.map_id U)
theorem ext_first {U : List Nat} {hd : ByteArray} (h : UOk U) : (firstW U hd).extract 20 (firstW U hd).size = hd := by
  apply byL_inj
  rw [byL_ext, byL_first h, List.drop_left' (by rw [List.length_map, h.len])]
theorem head_first {U : List Nat} {hd : ByteArray} (h : UOk U) : (firstW U hd).extract 0 20 = usedS U := by
  apply byL_inj
  rw [byL_take, List.drop_zero, byL_first h, List.take_left' (by rw [List.length_map, h.len]), byL_usedS h]
theorem first_size {U : List Nat} {hd : ByteArray} (h : UOk U) : (firstW U hd).size = 20 + hd.size := by unfold firstW; rw [ByteArray.size_append, usedS_size h]
theorem first_U0 {s : ByteArray} (h : s.size = 256) : firstW (U0 s) (s.extract 20 s.size) = s := by
  apply byL_inj
  rw [byL_first (U0_ok h), byL_ext]
  have e : ((U0 s).map fun (x : Nat) => (x : Int)) = (byL s).take 20 := by
    unfold U0
    rw [List.map_map]
    refine (List.map_congr_left fun x hx => ?_).trans (List.map_id _)
    have := byL_nn (List.mem_of_mem_take hx)
    show ((x.toNat : Nat) : Int) = x
    exact Int.toNat_of_nonneg this.1
  rw [e, List.take_append_drop]
/-- page 0 with a page's bit turned -/
def trnS (s : ByteArray) (n : Nat) : ByteArray := firstW (trnB (U0 s) n) (s.extract 20 s.size)
theorem trnS_first {U : List Nat} {hd : ByteArray} (h : UOk U) (n : Nat) : trnS (firstW U hd) n = firstW (trnB U n) hd := by unfold trnS; rw [U0_first h, ext_first h]
theorem trnS_size {s : ByteArray} (h : s.size = 256) (n : Nat) : (trnS s n).size = 256 := by
  unfold trnS
  rw [first_size (trnB_ok (U0_ok h) n)]
  have : (s.extract 20 s.size).size = s.size - 20 := by rw [ByteArray.size_extract]; omega
  omega
theorem byte_U0 {s : ByteArray} {n : Nat} (h : s.size = 256) (hn : n < 160) : ∃ b, s[n / 8]? = some b ∧ b.toNat = bytN (U0 s) n ∧ (byL s)[n / 8]? = some ((bytN (U0 s) n : Nat) : Int) := by
  have hl : n / 8 < (byL s).length := by rw [byL_len]; omega
  obtain ⟨c, h1, h2⟩ := byL_get s (n / 8) hl
  have e : bytN (U0 s) n = c.toNat := by
    unfold bytN U0
    rw [List.getD_eq_getElem?_getD, List.getElem?_map, List.getElem?_take_of_lt (by omega), List.getElem?_eq_getElem hl, h2]
    rfl
  exact ⟨c, h1, e.symm, by rw [List.getElem?_eq_getElem hl, h2, e]⟩
theorem son_trn {s : ByteArray} {n : Nat} (h : s.size = 256) (hn : n < 160) : strOfNums ((byL s).set (n / 8) ((bytN (U0 s) n ^^^ 2 ^ (n % 8) : Nat) : Int)) = trnS s n := by
  have hU := U0_ok h
  have hx : bytN (U0 s) n ^^^ 2 ^ (n % 8) < 256 := by
    have := Nat.xor_lt_two_pow (n := 8) (show bytN (U0 s) n < 2 ^ 8 from bytN_lt hU n) (show 2 ^ (n % 8) < 2 ^ 8 from pow_lt8 (Nat.mod_lt _ (by decide)))
    exact this
  apply byL_inj
  rw [byL_son fun x hm => by
    rcases List.mem_or_eq_of_mem_set hm with hm | rfl
    · exact byL_nn hm
    · omega]
  unfold trnS
  rw [byL_first (trnB_ok hU n), byL_ext]
  have e : byL s = ((U0 s).map fun (x : Nat) => (x : Int)) ++ (byL s).drop 20 := by
    have := byL_first (hd := s.extract 20 s.size) hU
    rw [first_U0 h, byL_ext] at this
    exact this
  have hl : (U0 s).length = 20 := hU.len
  have e2 : (byL s).set (n / 8) ((bytN (U0 s) n ^^^ 2 ^ (n % 8) : Nat) : Int) = (((U0 s).map fun (x : Nat) => (x : Int)) ++ (byL s).drop 20).set (n / 8) ((bytN (U0 s) n ^^^ 2 ^ (n % 8) : Nat) : Int) := by rw [← e]
  rw [e2, List.set_append_left _ _ (by rw [List.length_map, hl]; omega)]
  unfold trnB
  rw [List.map_set]
/-- the document's work -/
structure P8 where
  base : List ByteArray
  now : List ByteArray
  nts : List (List ByteArray)
  ov : Bool
structure Ok8 (X : P8) (N : Nat) : Prop where
  l1 : 1 ≤ N
  l2 : N ≤ 160
  len : X.now.length = N
  sz : ∀ s ∈ X.now, s.size = 256
  bl : X.base.length = N
def n0 (X : P8) : ByteArray := X.now.getD 0 ⟨#[]⟩
def thr8 (X : P8) (n : Int) : Int := thrB (U0 (n0 X)) X.now.length X.ov n
def rd8 (X : P8) (n : Int) : ByteArray × Int := if thr8 X n ≠ 0 then (⟨#[]⟩, thr8 X n) else (X.now.getD n.toNat ⟨#[]⟩, 0)
def wrE (X : P8) (n : Int) (s : ByteArray) : Int := if thr8 X n ≠ 0 then thr8 X n else if s.size ≠ 256 then 1 else 0
def wrX (X : P8) (n : Int) (s : ByteArray) : P8 := if wrE X n s = 0 then { X with now := X.now.set n.toNat s } else X
def drX (X : P8) (n : Int) : P8 := if thr8 X n = 0 then { X with now := X.now.set 0 (trnS (n0 X) n.toNat) } else X
def Fre (U : List Nat) (N n : Nat) : Prop := 1 ≤ n ∧ n < N ∧ isB U n = false ∧ ∀ j, 1 ≤ j → j < n → isB U j = true
theorem Fre.uniq {U : List Nat} {N m n : Nat} (h : Fre U N m) (k : Fre U N n) : m = n := by
  rcases Nat.lt_trichotomy m n with c | c | c
  · have := k.2.2.2 m h.1 c
    rw [h.2.2.1] at this; cases this
  · exact c
  · have := h.2.2.2 n k.1 c
    rw [k.2.2.1] at this; cases this
def tkX (X : P8) (n : Nat) : P8 := { X with now := (X.now.set 0 (trnS (n0 X) n)).set n (zs 256) }
def hd8 (X : P8) : ByteArray := if X.ov = true then ⟨#[]⟩ else (n0 X).extract 20 (n0 X).size
def shE (X : P8) (s : ByteArray) : Int := if X.ov = true then 13 else if 236 < s.size then 3 else 0
def shX (X : P8) (s : ByteArray) : P8 := if shE X s = 0 then { X with now := X.now.set 0 ((n0 X).extract 0 20 ++ s ++ zs (236 - s.size)) } else X
theorem Ok8.n0 {X : P8} {N : Nat} (h : Ok8 X N) : X.now[0]? = some (n0 X) ∧ (n0 X).size = 256 := by
  have := h.l1
  have := h.len
  have e : X.now[0]? = some (Go.Proofs.YtongpnolikkknaaGreatDoor.n0 X) := getD_some (by omega)
  exact ⟨e, h.sz _ (List.mem_of_getElem? e)⟩
theorem Ok8.set {X : P8} {N : Nat} (h : Ok8 X N) {i : Nat} {s : ByteArray} (hs : s.size = 256) : Ok8 { X with now := X.now.set i s } N :=
  ⟨h.l1, h.l2, by show (X.now.set i s).length = N; rw [List.length_set]; exact h.len, fun x hx => by
    rcases List.mem_or_eq_of_mem_set hx with hx | rfl
    · exact h.sz x hx
    · exact hs, h.bl⟩
structure R8 (B : Nat) (w : World) (r : Nat) (vb vn vo : Value) (vs : List Value) (X : P8) : Prop where
  rB : B ≤ r
  hr : w.heap[r]? = some (.cells #[vb, vn, vo, .bool X.ov] 151 (0, 0))
  hb : ownV B 9 w vb (X.base.map .string)
  hn : ownV B 9 w vn (X.now.map .string)
  ho : ownV B 100 w vo vs
  hl : vs.length = X.nts.length
  hv : ∀ (i : Nat) v l, vs[i]? = some v → X.nts[i]? = some l → ownV B 9 w v (l.map .string)
  sb : ∀ g, vb.ownBlock = some g → vn.ownBlock ≠ some g
  sv : ∀ v ∈ vs, ∀ g, v.ownBlock = some g → vn.ownBlock ≠ some g
def fp8 (r : Nat) (vb vn vo : Value) (vs : List Value) : Nat → Prop := fun k => k = r ∨ vb.ownBlock = some k ∨ vn.ownBlock = some k ∨ vo.ownBlock = some k ∨ ∃ v ∈ vs, v.ownBlock = some k
section
variable {B : Nat} {W w w' : World} {r : Nat} {vb vn vo v : Value} {vs : List Value} {X : P8} {N : Nat} {Q : Value → World → Prop} {K : Value → M} {K0 : M}
theorem ownS_at {e : TypeId} {l : List ByteArray} (h : ownV B e w v (l.map .string)) {i : Nat} (hi : i < l.length) : ∃ g, v.ownBlock = some g ∧ w.cell? ⟨g, i, none⟩ = some (.string l[i]) ∧ ∀ (k : IntKind) (K : Value → M) (w' : World) (Q : Value → World → Prop), ia 1 v (.int k (i : Int)) K w' Q = K (.pointer (some ⟨g, i, none⟩)) w' Q := by
  obtain ⟨g, cap, rfl, h1, h2, h3, h4⟩ := ownV_blk h (by intro e; rw [List.map_eq_nil_iff] at e; rw [e] at hi; simp at hi)
  refine ⟨g, h1, ?_, fun k K w' Q => ia_at (by rw [List.length_map]; exact hi)⟩
  have := h4 i (by rw [List.length_map]; exact hi)
  rw [this, List.getElem_map]
theorem R8.at (h : R8 B w r vb vn vo vs X) {i : Nat} (hi : i < X.now.length) : ∃ g, vn.ownBlock = some g ∧ w.cell? ⟨g, i, none⟩ = some (.string (X.now.getD i ⟨#[]⟩)) ∧ ∀ (k : IntKind) (K : Value → M) (w' : World) (Q : Value → World → Prop), ia 1 vn (.int k (i : Int)) K w' Q = K (.pointer (some ⟨g, i, none⟩)) w' Q := by
  obtain ⟨g, h1, h2, h3⟩ := ownS_at h.hn hi
  refine ⟨g, h1, ?_, h3⟩
  rw [h2, List.getD_eq_getElem?_getD, List.getElem?_eq_getElem hi]; rfl
theorem R8.c0 (h : R8 B w r vb vn vo vs X) : w.cell? ⟨r, 0, none⟩ = some vb := by rw [cell_of_blk h.hr]; rfl
theorem R8.c1 (h : R8 B w r vb vn vo vs X) : w.cell? ⟨r, 1, none⟩ = some vn := by rw [cell_of_blk h.hr]; rfl
theorem R8.c2 (h : R8 B w r vb vn vo vs X) : w.cell? ⟨r, 2, none⟩ = some vo := by rw [cell_of_blk h.hr]; rfl
theorem R8.c3 (h : R8 B w r vb vn vo vs X) : w.cell? ⟨r, 3, none⟩ = some (.bool X.ov) := by rw [cell_of_blk h.hr]; rfl
theorem R8.lnl (h : R8 B w r vb vn vo vs X) : ∀ (K : Value → M) (w1 : World) (Q : Value → World → Prop), lnl vn K w1 Q = K (.int .i64 ((X.now.length : Nat) : Int)) w1 Q := by
  have := lnl_own h.hn
  rwa [List.length_map] at this
theorem R8.chg {S : Nat → Prop} (h : R8 B w r vb vn vo vs X) (hc : ChgS S w w') (hS : ∀ k, fp8 r vb vn vo vs k → ¬ S k) : R8 B w' r vb vn vo vs X :=
  ⟨h.rB, hc.keep h.hr (hS r (.inl rfl)), ownV_chg h.hb hc fun g hg => hS g (.inr (.inl hg)), ownV_chg h.hn hc fun g hg => hS g (.inr (.inr (.inl hg))), ownV_chg h.ho hc fun g hg => hS g (.inr (.inr (.inr (.inl hg)))), h.hl,
    fun i v l h1 h2 => ownV_chg (h.hv i v l h1 h2) hc fun g hg => hS g (.inr (.inr (.inr (.inr ⟨v, List.mem_of_getElem? h1, hg⟩)))), h.sb, h.sv⟩
theorem R8.below (h : R8 B w r vb vn vo vs X) (hb : Below w.heap.size w w') : R8 B w' r vb vn vo vs X := h.chg (S := fun _ => False) (ChgS.of_below hb) fun _ _ hf => hf
theorem R8.drw (h : R8 B w r vb vn vo vs X) : R8 B (Sh.drw w) r vb vn vo vs X := h.below ⟨rfl, rfl, rfl, Nat.le_refl _, fun _ _ => rfl⟩
theorem R8.vsB (h : R8 B w r vb vn vo vs X) : ∀ v ∈ vs, ∀ g, v.ownBlock = some g → B ≤ g ∧ g < w.heap.size ∧ ∃ cur, w.heap[g]? = some (.cells cur 9 (0, 0)) := by
  intro v hv g hg
  obtain ⟨i, hi, rfl⟩ := List.mem_iff_getElem.1 hv
  have hi2 : i < X.nts.length := by rw [← h.hl]; exact hi
  exact ownV_lt (h.hv i _ _ (List.getElem?_eq_getElem hi) (List.getElem?_eq_getElem hi2)) g hg
theorem R8.lt (h : R8 B w r vb vn vo vs X) : ∀ k, fp8 r vb vn vo vs k → B ≤ k ∧ k < w.heap.size := by
  rintro k (rfl | hk | hk | hk | ⟨v, hv, hk⟩)
  · exact ⟨h.rB, blk_lt h.hr⟩
  · exact ⟨(ownV_lt h.hb k hk).1, (ownV_lt h.hb k hk).2.1⟩
  · exact ⟨(ownV_lt h.hn k hk).1, (ownV_lt h.hn k hk).2.1⟩
  · exact ⟨(ownV_lt h.ho k hk).1, (ownV_lt h.ho k hk).2.1⟩
  · exact ⟨(h.vsB v hv k hk).1, (h.vsB v hv k hk).2.1⟩
theorem ty_ne {g : Nat} {cs ds : Array Value} {s t : TypeId} {f f' : Nat × Nat} (h : w.heap[g]? = some (.cells cs s f)) (k : w.heap[g]? = some (.cells ds t f')) : s = t := by
  rw [h] at k
  have h2 := Option.some.inj k
  injection h2 with _ h3 _
theorem R8.nn (h : R8 B w r vb vn vo vs X) {g : Nat} (hg : vn.ownBlock = some g) : g ≠ r ∧ vo.ownBlock ≠ some g ∧ vb.ownBlock ≠ some g := by
  obtain ⟨_, _, cur, hcur⟩ := ownV_lt h.hn g hg
  refine ⟨?_, fun hv => ?_, fun hv => h.sb g hv hg⟩
  · rintro rfl
    exact absurd (ty_ne hcur h.hr) (by decide)
  · obtain ⟨_, _, cur', hcur'⟩ := ownV_lt h.ho g hv
    exact absurd (ty_ne hcur hcur') (by decide)
/-- a page of the document's stored -/
theorem R8.put {i g : Nat} {s : ByteArray} (h : R8 B w r vb vn vo vs X) (hi : i < X.now.length) (hg : vn.ownBlock = some g) (kk : ∀ w', R8 B w' r vb vn vo vs { X with now := X.now.set i s } → ChgS (fun k => vn.ownBlock = some k) w w' → K0 w' Q) : st (.pointer (some ⟨g, i, none⟩)) (.string s) K0 w Q := by
  obtain ⟨n1, n2, n3⟩ := h.nn hg
  rcases ownV_cases h.hn with ⟨rfl, _⟩ | ⟨g', cap, cur, e, hg', hb, hn, hm, hs, ht⟩
  · cases hg
  · have : g' = g := by rw [e] at hg; exact Option.some.inj hg
    subst this
    rw [List.length_map] at hn
    refine st_box hb (by omega) rfl fun w' hw hu => ?_
    have hc : ChgS (fun k => k = g') w w' := ChgS.of_upd hu rfl
    refine kk w' ⟨h.rB, hc.keep h.hr n1.symm, ownV_chg h.hb hc fun k hk e => n3 (e ▸ hk), ?_, ownV_chg h.ho hc fun k hk e => n2 (e ▸ hk), h.hl, fun j v l h1 h2 => ownV_chg (h.hv j v l h1 h2) hc fun k hk e => h.sv v (List.mem_of_getElem? h1) k hk (e ▸ hg), h.sb, h.sv⟩ (ChgS.of_upd hu hg)
    have := ownV_set (x := .string s) h.hn (by rw [List.length_map]; exact hi) hg (fun cur' h' => by rw [hb] at h'; cases h'; exact hw)
    show ownV B 9 w' vn ((X.now.set i s).map .string)
    rw [List.map_set]
    exact this
theorem shr8 {x k : Nat} (hk : k < 8) : shr .u8 .u64 (.int .u8 (x : Int)) (.int .u64 (k : Int)) K w Q = K (.int .u8 ((x / 2 ^ k : Nat) : Int)) w Q := by
  rw [shr_e]
  have e : (x : Int).fdiv (2 ^ (min ((k : Int).toNat) IntKind.u8.bits)) = ((x / 2 ^ k : Nat) : Int) := by
    have : min ((k : Int).toNat) IntKind.u8.bits = k := by rw [Int.toNat_natCast]; exact Nat.min_eq_left (by show k ≤ 8; omega)
    rw [this, Int.fdiv_eq_ediv_of_nonneg _ (by exact Int.le_of_lt (Int.pow_pos (by decide)))]
    have e2 : ((2 : Int) ^ k) = ((2 ^ k : Nat) : Int) := by rw [Int.natCast_pow]; rfl
    rw [e2]; exact (Int.natCast_ediv x (2 ^ k)).symm
  rw [e]
  apply propext
  exact ⟨fun h => h.2, fun h => ⟨by omega, h⟩⟩
theorem shl8u {k : Nat} (hk : k < 8) : shl .u8 .u64 (.int .u8 1) (.int .u64 (k : Int)) K w Q = K (.int .u8 ((2 ^ k : Nat) : Int)) w Q := by
  rw [shl_e]
  have e : IntKind.u8.wrap (1 * 2 ^ (min ((k : Int).toNat) IntKind.u8.bits)) = ((2 ^ k : Nat) : Int) := by
    rcases (by omega : k = 0 ∨ k = 1 ∨ k = 2 ∨ k = 3 ∨ k = 4 ∨ k = 5 ∨ k = 6 ∨ k = 7) with rfl | rfl | rfl | rfl | rfl | rfl | rfl | rfl <;> rfl
  rw [e]
  apply propext
  exact ⟨fun h => h.2, fun h => ⟨by omega, h⟩⟩
theorem isB_div (U : List Nat) (n : Nat) : isB U n = decide (bytN U n / 2 ^ (n % 8) % 2 = 1) := by
  unfold isB
  exact Nat.testBit_eq_decide_div_mod_eq ..
theorem f103_s {n : Nat} (h : R8 B w r vb vn vo vs X) (ok : Ok8 X N) (hn : n < 160) (kk : Q (.bool (decide (n = 0) || isB (U0 (n0 X)) n)) w) : f103 (pv r) (.int .i64 (n : Int)) w Q := by
  unfold f103
  by_cases c : n = 0
  · subst c
    have z : ((0 : Nat) : Int) = 0 := rfl
    rw [decide_eq_true rfl, Bool.true_or] at kk
    try simp only [↓reduceIte, ↓LL, LM, Value.cells, Nat.reduceAdd, Option.some.injEq, exists_eq_left', decide_true, decide_false, if_true, if_false, reduceCtorEq, cond_true, cond_false, z]
    exact kk
  · have z : ¬ (n : Int) = 0 := by omega
    have c1 := h.c1
    obtain ⟨e0, s0⟩ := ok.n0
    have len := ok.len
    have l1 := ok.l1
    obtain ⟨g, hg, hc, hia⟩ := h.at (i := 0) (by omega)
    have hia0 : ∀ (k : IntKind) (K : Value → M) (w' : World) (Q : Value → World → Prop), ia 1 vn (.int k 0) K w' Q = K (.pointer (some ⟨g, 0, none⟩)) w' Q := hia
    have hc' : w.cell? ⟨g, 0, none⟩ = some (.string (n0 X)) := hc
    have d1 := div8 (n := n) (by omega)
    have d2 := mod8 n
    have z8 : ¬ (8 : Int) = 0 := by decide
    have z2 : ¬ (2 : Int) = 0 := by decide
    obtain ⟨b, hb1, hb2, _⟩ := byte_U0 s0 hn
    have ix : ∀ (K : Value → M) (w : World) (Q : Value → World → Prop), ixs (.string (n0 X)) (.int .i64 ((n / 8 : Nat) : Int)) K w Q = K (.int .u8 ((bytN (U0 (n0 X)) n : Nat) : Int)) w Q := fun K w Q => by
      rw [ixs_e, Int.toNat_natCast]
      apply propext
      constructor
      · rintro ⟨_, c, hc, hk⟩
        rw [hb1] at hc
        cases hc
        rw [← hb2]; exact hk
      · intro hk
        exact ⟨by omega, b, hb1, by rw [hb2]; exact hk⟩
    have wu : IntKind.u64.wrap ((n % 8 : Nat) : Int) = ((n % 8 : Nat) : Int) := wu64 (by omega) (by omega)
    have sr : ∀ (K : Value → M) (w : World) (Q : Value → World → Prop), shr .u8 .u64 (.int .u8 ((bytN (U0 (n0 X)) n : Nat) : Int)) (.int .u64 ((n % 8 : Nat) : Int)) K w Q = K (.int .u8 ((bytN (U0 (n0 X)) n / 2 ^ (n % 8) : Nat) : Int)) w Q := fun K w Q => shr8 (Nat.mod_lt _ (by decide))
    have e2 : (((bytN (U0 (n0 X)) n / 2 ^ (n % 8) : Nat) : Int)).tmod 2 = ((bytN (U0 (n0 X)) n / 2 ^ (n % 8) % 2 : Nat) : Int) := (Int.ofNat_tmod _ 2).symm
    rw [decide_eq_false c, Bool.false_or, isB_div] at kk
    by_cases ce : bytN (U0 (n0 X)) n / 2 ^ (n % 8) % 2 = 1
    · have ce' : ((bytN (U0 (n0 X)) n / 2 ^ (n % 8) % 2 : Nat) : Int) = 1 := by rw [ce]; rfl
      rw [decide_eq_true ce] at kk
      try simp only [↓reduceIte, ↓LL, LM, Value.cells, Nat.reduceAdd, Option.some.injEq, exists_eq_left', decide_true, decide_false, if_true, if_false, reduceCtorEq, cond_true, cond_false, ne_eq, z, c1, hia0, hc', z8, z2, true_and, d1, d2, ix, wu, sr, e2, ce']
      exact kk
    · have ce' : ¬ ((bytN (U0 (n0 X)) n / 2 ^ (n % 8) % 2 : Nat) : Int) = 1 := by omega
      rw [decide_eq_false ce] at kk
      try simp only [↓reduceIte, ↓LL, LM, Value.cells, Nat.reduceAdd, Option.some.injEq, exists_eq_left', decide_true, decide_false, if_true, if_false, reduceCtorEq, cond_true, cond_false, ne_eq, z, c1, hia0, hc', z8, z2, true_and, d1, d2, ix, wu, sr, e2, ce']
      exact kk
/-- a text's bytes as a row of the call's own (marked as a conversion's) -/
theorem cvo {src dst e : TypeId} {z : Value} {n b : Nat} {s : ByteArray} {P : Program} (hs : isStr P src = true) (h : slT P dst e z n b) (he : P.underlying e = some (.int .u8))
    (k : ∀ w' cs c, w'.heap[w.heap.size]? = some (.cells cs e (cs.size, cs.size + 1)) → s.size ≤ cs.size → cs.toList.take s.size = (byL s).map (.int .u8) → Below w.heap.size w w' → K (.slice (some ⟨w.heap.size, 0, none⟩) s.size c) w' Q) : sm P (convert src dst (.string s)) K w Q := by
  obtain ⟨i, h1, _⟩ := slT_info h
  unfold isStr at hs
  cases hu : P.underlying src with
  | none => simp [hu] at hs
  | some u =>
    have hl : (Go.Lib.bytesCells w e s).size = s.size + (grownCap w s.size 0 e - s.size) := by unfold Go.Lib.bytesCells; simp
    refine ⟨_, _, Go.Lib.run_convert_string_bytes w src dst e s hu h1 he, k _ _ _ (Go.Lib.bytesWorld_at_new w e s) (by omega) ?_ (Below_bytes e s (Below.refl _ w) (Nat.le_refl _))⟩
    unfold Go.Lib.bytesCells
    rw [Array.toList_append, List.take_left' (by simp)]
    unfold byL
    simp [Function.comp_def]
theorem st_boxF {b o lo hi : Nat} {c : Array Value} {t : TypeId} {v : Value} (h : w.heap[b]? = some (.cells c t (lo, hi))) (hf : o < lo) (ho : o < c.size) (hv : v.oneCell' = true)
    (k : ∀ w', w'.heap[b]? = some (.cells (c.setIfInBounds o v) t (lo, hi)) → Upd b w w' → K0 w' Q) : st (.pointer (some ⟨b, o, none⟩)) v K0 w Q := by
  rw [st_e]
  have hz : w.frozen? ⟨b, o, none⟩ = false := by
    simp [World.frozen?, h]
    intro hx
    omega
  refine ⟨by rw [cell_of_blk h]; simp [ho], hz, hv, k _ (blk_setCell h) ?_⟩
  exact ⟨rfl, rfl, rfl, size_setCell, fun k hk => blk_setCell_ne hk⟩
theorem f124_s {n : Nat} (h : R8 B w r vb vn vo vs X) (ok : Ok8 X N) (hn : n < 160) (kk : ∀ w', R8 B w' r vb vn vo vs { X with now := X.now.set 0 (trnS (n0 X) n) } → ChgS (fun k => vn.ownBlock = some k) w w' → Q (.tuple #[]) w') : f124 (pv r) (.int .i64 (n : Int)) w Q := by
  unfold f124
  have c1 := h.c1
  obtain ⟨e0, s0⟩ := ok.n0
  have len := ok.len
  have l1 := ok.l1
  obtain ⟨g, hg, hc, hia⟩ := h.at (i := 0) (by omega)
  have hia0 : ∀ (k : IntKind) (K : Value → M) (w' : World) (Q : Value → World → Prop), ia 1 vn (.int k 0) K w' Q = K (.pointer (some ⟨g, 0, none⟩)) w' Q := hia
  have hc' : w.cell? ⟨g, 0, none⟩ = some (.string (n0 X)) := hc
  have d1 := div8 (n := n) (by omega)
  have d2 := mod8 n
  have z8 : ¬ (8 : Int) = 0 := by decide
  have wu : IntKind.u64.wrap ((n % 8 : Nat) : Int) = ((n % 8 : Nat) : Int) := wu64 (by omega) (by omega)
  obtain ⟨b, hb1, hb2, hb3⟩ := byte_U0 s0 hn
  have hU := U0_ok s0
  try simp only [↓reduceIte, ↓LL, LM, Value.cells, Nat.reduceAdd, Option.some.injEq, exists_eq_left', decide_true, decide_false, if_true, if_false, reduceCtorEq, cond_true, cond_false, c1, hia0, hc']
  refine cvo str9 sl61 ud5 fun w2 cs cap k2 hs2 ht2 b2 => ?_
  have ia2 : ∀ (K : Value → M) (w' : World) (Q : Value → World → Prop), ia 1 (.slice (some ⟨w.heap.size, 0, none⟩) (n0 X).size cap) (.int .i64 ((n / 8 : Nat) : Int)) K w' Q = K (.pointer (some ⟨w.heap.size, n / 8, none⟩)) w' Q := fun K w' Q => ia_at (by rw [s0]; omega)
  have hlt : n / 8 < (n0 X).size := by rw [s0]; omega
  have cb : w2.cell? ⟨w.heap.size, n / 8, none⟩ = some (.int .u8 ((bytN (U0 (n0 X)) n : Nat) : Int)) := by
    rw [cell_of_blk k2]
    show cs[n / 8]? = _
    have : (cs.toList.take (n0 X).size)[n / 8]? = some (.int .u8 ((bytN (U0 (n0 X)) n : Nat) : Int)) := by rw [ht2, List.getElem?_map, hb3]; rfl
    rw [List.getElem?_take_of_lt hlt] at this
    simpa using this
  have sl : ∀ (K : Value → M) (w : World) (Q : Value → World → Prop), shl .u8 .u64 (.int .u8 1) (.int .u64 ((n % 8 : Nat) : Int)) K w Q = K (.int .u8 ((2 ^ (n % 8) : Nat) : Int)) w Q := fun K w Q => shl8u (Nat.mod_lt _ (by decide))
  have x8 : ∀ (K : Value → M) (w : World) (Q : Value → World → Prop), bws .xor .u8 (.int .u8 ((bytN (U0 (n0 X)) n : Nat) : Int)) (.int .u8 ((2 ^ (n % 8) : Nat) : Int)) K w Q = K (.int .u8 ((bytN (U0 (n0 X)) n ^^^ 2 ^ (n % 8) : Nat) : Int)) w Q := fun K w Q => xor8 (bytN_lt hU n) (pow_lt8 (Nat.mod_lt _ (by decide)))
  try simp only [↓reduceIte, ↓LL, LM, Value.cells, Nat.reduceAdd, Option.some.injEq, exists_eq_left', decide_true, decide_false, if_true, if_false, reduceCtorEq, cond_true, cond_false, ne_eq, z8, true_and, d1, d2, ia2, cb, wu, sl, x8]
  refine st_boxF k2 (by omega) (by omega) rfl fun w3 k3 u3 => ?_
  have h2 := h.below b2
  have b3 : Below w.heap.size w w3 := b2.trans (u3.below (Nat.le_refl _))
  have h3 := (h.below b3).drw
  have c13 : (drw w3).cell? ⟨r, 1, none⟩ = some vn := h3.c1
  have c13' : w3.cell? ⟨r, 1, none⟩ = some vn := h3.c1
  have hrd : rdI .u8 (drw w3) (.slice (some ⟨w.heap.size, 0, none⟩) (n0 X).size cap) ((byL (n0 X)).set (n / 8) ((bytN (U0 (n0 X)) n ^^^ 2 ^ (n % 8) : Nat) : Int)) := by
    refine ⟨some ⟨w.heap.size, 0, none⟩, cap, by rw [List.length_set, byL_len], fun i hi => ⟨_, rfl, ?_⟩⟩
    rw [List.length_set, byL_len] at hi
    rw [add_lit, Nat.zero_add]
    show w3.cell? _ = _
    rw [cell_of_blk k3]
    show (cs.setIfInBounds (n / 8) _)[i]? = _
    have hsize : i < cs.size := by omega
    have ei : cs.toList[i]? = some (Value.int .u8 ((byL (n0 X))[i]'(by rw [byL_len]; exact hi))) := by
      have : (cs.toList.take (n0 X).size)[i]? = some (Value.int .u8 ((byL (n0 X))[i]'(by rw [byL_len]; exact hi))) := by rw [ht2, List.getElem?_map, List.getElem?_eq_getElem (by rw [byL_len]; exact hi)]; rfl
      rwa [List.getElem?_take_of_lt hi] at this
    rw [List.getElem_set]
    by_cases ce : n / 8 = i
    · subst ce
      rw [if_pos rfl, Array.getElem?_setIfInBounds_self_of_lt hsize]
    · rw [if_neg ce, Array.getElem?_setIfInBounds_ne ce, ← Array.getElem?_toList]
      exact ei
  try simp only [↓reduceIte, ↓LL, LM, Value.cells, Nat.reduceAdd, Option.some.injEq, exists_eq_left', decide_true, decide_false, if_true, if_false, reduceCtorEq, cond_true, cond_false, c13, c13']
  refine cvb sl61 ud5 str9 hrd ?_
  rw [son_trn s0 hn]
  try simp only [↓reduceIte, ↓LL, LM, Value.cells, Nat.reduceAdd, Option.some.injEq, exists_eq_left', decide_true, decide_false, if_true, if_false, reduceCtorEq, cond_true, cond_false, hia0]
  refine h3.put (by omega) hg fun w4 h4 hc4 => ?_
  try simp only [↓reduceIte, ↓LL, LM, Value.cells, Nat.reduceAdd, Option.some.injEq, exists_eq_left', decide_true, decide_false, if_true, if_false, reduceCtorEq, cond_true, cond_false]
  exact kk w4 h4 (((ChgS.of_below b3).drw).trans hc4 fun _ _ h => h)
theorem f123_s {n : Int} (h : R8 B w r vb vn vo vs X) (ok : Ok8 X N) (kk : Q (.bool (decide (0 < n ∧ n < (X.now.length : Int) ∧ isB (U0 (n0 X)) n.toNat = true))) w) : f123 (pv r) (.int .i64 n) w Q := by
  unfold f123
  have c1 := h.c1
  have lv := h.lnl
  have len := ok.len
  have l2 := ok.l2
  by_cases g1 : 0 < n
  · have g1' : n > 0 := g1
    by_cases g2 : n < ((X.now.length : Nat) : Int)
    · obtain ⟨n, rfl⟩ := Int.eq_ofNat_of_zero_le (show 0 ≤ n by omega)
      rw [Int.toNat_natCast] at kk
      try simp only [↓reduceIte, ↓LL, LM, Value.cells, Nat.reduceAdd, Option.some.injEq, exists_eq_left', decide_true, decide_false, if_true, if_false, reduceCtorEq, cond_true, cond_false, g1, g1', c1, lv, g2]
      refine f103_s h ok (by omega) ?_
      rw [decide_eq_false (show ¬ n = 0 by omega), Bool.false_or]
      cases hb : isB (U0 (n0 X)) n with
      | true =>
        rw [hb, decide_eq_true ⟨g1, g2, rfl⟩] at kk
        try simp only [↓reduceIte, ↓LL, LM, Value.cells, Nat.reduceAdd, Option.some.injEq, exists_eq_left', decide_true, decide_false, if_true, if_false, reduceCtorEq, cond_true, cond_false]
        exact kk
      | false =>
        rw [hb, decide_eq_false (by rintro ⟨_, _, h⟩; cases h)] at kk
        try simp only [↓reduceIte, ↓LL, LM, Value.cells, Nat.reduceAdd, Option.some.injEq, exists_eq_left', decide_true, decide_false, if_true, if_false, reduceCtorEq, cond_true, cond_false]
        exact kk
    · rw [decide_eq_false (fun h => g2 h.2.1)] at kk
      try simp only [↓reduceIte, ↓LL, LM, Value.cells, Nat.reduceAdd, Option.some.injEq, exists_eq_left', decide_true, decide_false, if_true, if_false, reduceCtorEq, cond_true, cond_false, g1, g1', c1, lv, g2]
      exact kk
  · have g1' : ¬ n > 0 := g1
    rw [decide_eq_false (fun h => g1 h.1)] at kk
    try simp only [↓reduceIte, ↓LL, LM, Value.cells, Nat.reduceAdd, Option.some.injEq, exists_eq_left', decide_true, decide_false, if_true, if_false, reduceCtorEq, cond_true, cond_false, g1, g1']
    exact kk
theorem thr8_f {n : Int} (ho : X.ov = false) : thr8 X n = if 0 < n ∧ n < (X.now.length : Int) ∧ isB (U0 (n0 X)) n.toNat = true then 0 else 7 := by unfold thr8 thrB; rw [ho, if_neg (by decide)]
theorem thr8_t {n : Int} (ho : X.ov = true) : thr8 X n = 13 := by unfold thr8 thrB; rw [ho, if_pos rfl]
theorem f94_s {n : Int} (h : R8 B w r vb vn vo vs X) (ok : Ok8 X N) (kk : Q (.tuple #[.string (rd8 X n).1, .int .i64 (rd8 X n).2]) w) : f94 (pv r) (.int .i64 n) w Q := by
  unfold f94
  have c3 := h.c3
  unfold rd8 at kk
  cases ho : X.ov with
  | true =>
    rw [thr8_t ho, if_pos (by decide)] at kk
    rw [ho] at c3
    try simp only [↓reduceIte, ↓LL, LM, Value.cells, Nat.reduceAdd, Option.some.injEq, exists_eq_left', decide_true, decide_false, if_true, if_false, reduceCtorEq, cond_true, cond_false, c3]
    exact kk
  | false =>
    rw [ho] at c3
    try simp only [↓reduceIte, ↓LL, LM, Value.cells, Nat.reduceAdd, Option.some.injEq, exists_eq_left', decide_true, decide_false, if_true, if_false, reduceCtorEq, cond_true, cond_false, c3]
    refine f123_s h ok ?_
    rw [thr8_f ho] at kk
    by_cases c : 0 < n ∧ n < (X.now.length : Int) ∧ isB (U0 (n0 X)) n.toNat = true
    · rw [if_pos c, if_neg (by decide)] at kk
      rw [decide_eq_true c]
      have c1 := h.c1
      obtain ⟨n, rfl⟩ := Int.eq_ofNat_of_zero_le (show 0 ≤ n by omega)
      rw [Int.toNat_natCast] at kk
      obtain ⟨g, hg, hc, hia⟩ := h.at (i := n) (by omega)
      try simp only [↓reduceIte, ↓LL, LM, Value.cells, Nat.reduceAdd, Option.some.injEq, exists_eq_left', decide_true, decide_false, if_true, if_false, reduceCtorEq, cond_true, cond_false, c1, hia, hc]
      exact kk
    · rw [if_neg c, if_pos (by decide)] at kk
      rw [decide_eq_false c]
      try simp only [↓reduceIte, ↓LL, LM, Value.cells, Nat.reduceAdd, Option.some.injEq, exists_eq_left', decide_true, decide_false, if_true, if_false, reduceCtorEq, cond_true, cond_false]
      exact kk
theorem wrE_1 {n : Int} {s : ByteArray} (h : thr8 X n ≠ 0) : wrE X n s = thr8 X n := by unfold wrE; rw [if_pos h]
theorem wrE_2 {n : Int} {s : ByteArray} (h : thr8 X n = 0) (hs : s.size ≠ 256) : wrE X n s = 1 := by unfold wrE; rw [if_neg (fun k => k h), if_pos hs]
theorem wrE_0 {n : Int} {s : ByteArray} (h : thr8 X n = 0) (hs : s.size = 256) : wrE X n s = 0 := by unfold wrE; rw [if_neg (fun k => k h), if_neg (fun k => k hs)]
theorem wrX_1 {n : Int} {s : ByteArray} (h : wrE X n s ≠ 0) : wrX X n s = X := by unfold wrX; rw [if_neg h]
theorem wrX_0 {n : Int} {s : ByteArray} (h : wrE X n s = 0) : wrX X n s = { X with now := X.now.set n.toNat s } := by unfold wrX; rw [if_pos h]
theorem drX_1 {n : Int} (h : thr8 X n ≠ 0) : drX X n = X := by unfold drX; rw [if_neg h]
theorem drX_0 {n : Int} (h : thr8 X n = 0) : drX X n = { X with now := X.now.set 0 (trnS (n0 X) n.toNat) } := by unfold drX; rw [if_pos h]
theorem shE_13 {s : ByteArray} (h : X.ov = true) : shE X s = 13 := by unfold shE; rw [if_pos h]
theorem shE_3 {s : ByteArray} (h : X.ov = false) (hs : 236 < s.size) : shE X s = 3 := by unfold shE; rw [if_neg (by rw [h]; intro h; cases h), if_pos hs]
theorem shE_0 {s : ByteArray} (h : X.ov = false) (hs : s.size ≤ 236) : shE X s = 0 := by unfold shE; rw [if_neg (by rw [h]; intro h; cases h), if_neg (by omega)]
theorem shX_1 {s : ByteArray} (h : shE X s ≠ 0) : shX X s = X := by unfold shX; rw [if_neg h]
theorem shX_0 {s : ByteArray} (h : shE X s = 0) : shX X s = { X with now := X.now.set 0 ((n0 X).extract 0 20 ++ s ++ zs (236 - s.size)) } := by unfold shX; rw [if_pos h]
theorem wrX_ok {n : Int} {s : ByteArray} (ok : Ok8 X N) : Ok8 (wrX X n s) N := by
  unfold wrX
  split
  · rename_i he
    refine ok.set ?_
    unfold wrE at he
    split at he
    · rename_i hne; exact absurd he hne
    · split at he
      · cases he
      · rename_i hs; exact Classical.byContradiction fun hc => hs hc
  · exact ok
theorem f96_s {n : Int} {s : ByteArray} (h : R8 B w r vb vn vo vs X) (ok : Ok8 X N) (kk : ∀ w', R8 B w' r vb vn vo vs (wrX X n s) → ChgS (fun k => vn.ownBlock = some k) w w' → Q (.int .i64 (wrE X n s)) w') : f96 (pv r) (.int .i64 n) (.string s) w Q := by
  unfold f96
  have c3 := h.c3
  cases ho : X.ov with
  | true =>
    have t1 := thr8_t (n := n) ho
    have e1 : wrE X n s = 13 := (wrE_1 (by rw [t1]; decide)).trans t1
    rw [e1, wrX_1 (by rw [e1]; decide)] at kk
    rw [ho] at c3
    try simp only [↓reduceIte, ↓LL, LM, Value.cells, Nat.reduceAdd, Option.some.injEq, exists_eq_left', decide_true, decide_false, if_true, if_false, reduceCtorEq, cond_true, cond_false, c3]
    exact kk w h (ChgS.refl _ _)
  | false =>
    rw [ho] at c3
    try simp only [↓reduceIte, ↓LL, LM, Value.cells, Nat.reduceAdd, Option.some.injEq, exists_eq_left', decide_true, decide_false, if_true, if_false, reduceCtorEq, cond_true, cond_false, c3]
    refine f123_s h ok ?_
    have tf := thr8_f (n := n) ho
    by_cases c : 0 < n ∧ n < (X.now.length : Int) ∧ isB (U0 (n0 X)) n.toNat = true
    · rw [if_pos c] at tf
      rw [decide_eq_true c]
      have c1 := h.c1
      obtain ⟨n, rfl⟩ := Int.eq_ofNat_of_zero_le (show 0 ≤ n by omega)
      obtain ⟨g, hg, hc, hia⟩ := h.at (i := n) (by omega)
      by_cases cs : s.size = 256
      · have cs' : ((s.size : Nat) : Int) = 256 := by omega
        have e1 := wrE_0 tf cs
        rw [e1, wrX_0 e1, Int.toNat_natCast] at kk
        try simp only [↓reduceIte, ↓LL, LM, Value.cells, Nat.reduceAdd, Option.some.injEq, exists_eq_left', decide_true, decide_false, if_true, if_false, reduceCtorEq, cond_true, cond_false, ne_eq, cs', c1, hia]
        refine h.put (by omega) hg fun w2 h2 hc2 => ?_
        try simp only [↓reduceIte, ↓LL, LM, Value.cells, Nat.reduceAdd, Option.some.injEq, exists_eq_left', decide_true, decide_false, if_true, if_false, reduceCtorEq, cond_true, cond_false]
        exact kk w2 h2 hc2
      · have cs' : ¬ ((s.size : Nat) : Int) = 256 := by omega
        have e1 := wrE_2 tf cs
        rw [e1, wrX_1 (by rw [e1]; decide)] at kk
        try simp only [↓reduceIte, ↓LL, LM, Value.cells, Nat.reduceAdd, Option.some.injEq, exists_eq_left', decide_true, decide_false, if_true, if_false, reduceCtorEq, cond_true, cond_false, ne_eq, cs']
        exact kk w h (ChgS.refl _ _)
    · rw [if_neg c] at tf
      have e1 : wrE X n s = 7 := (wrE_1 (by rw [tf]; decide)).trans tf
      rw [e1, wrX_1 (by rw [e1]; decide)] at kk
      rw [decide_eq_false c]
      try simp only [↓reduceIte, ↓LL, LM, Value.cells, Nat.reduceAdd, Option.some.injEq, exists_eq_left', decide_true, decide_false, if_true, if_false, reduceCtorEq, cond_true, cond_false]
      exact kk w h (ChgS.refl _ _)
theorem drX_ok {n : Int} (ok : Ok8 X N) : Ok8 (drX X n) N := by
  unfold drX
  split
  · exact ok.set (trnS_size ok.n0.2 _)
  · exact ok
theorem f98_s {n : Int} (h : R8 B w r vb vn vo vs X) (ok : Ok8 X N) (kk : ∀ w', R8 B w' r vb vn vo vs (drX X n) → ChgS (fun k => vn.ownBlock = some k) w w' → Q (.int .i64 (thr8 X n)) w') : f98 (pv r) (.int .i64 n) w Q := by
  unfold f98
  have c3 := h.c3
  have len := ok.len
  have l2 := ok.l2
  cases ho : X.ov with
  | true =>
    have t1 := thr8_t (n := n) ho
    rw [drX_1 (by rw [t1]; decide), t1] at kk
    rw [ho] at c3
    try simp only [↓reduceIte, ↓LL, LM, Value.cells, Nat.reduceAdd, Option.some.injEq, exists_eq_left', decide_true, decide_false, if_true, if_false, reduceCtorEq, cond_true, cond_false, c3]
    exact kk w h (ChgS.refl _ _)
  | false =>
    rw [ho] at c3
    try simp only [↓reduceIte, ↓LL, LM, Value.cells, Nat.reduceAdd, Option.some.injEq, exists_eq_left', decide_true, decide_false, if_true, if_false, reduceCtorEq, cond_true, cond_false, c3]
    refine f123_s h ok ?_
    have tf := thr8_f (n := n) ho
    by_cases c : 0 < n ∧ n < (X.now.length : Int) ∧ isB (U0 (n0 X)) n.toNat = true
    · rw [if_pos c] at tf
      rw [drX_0 tf, tf] at kk
      rw [decide_eq_true c]
      obtain ⟨n, rfl⟩ := Int.eq_ofNat_of_zero_le (show 0 ≤ n by omega)
      rw [Int.toNat_natCast] at kk
      try simp only [↓reduceIte, ↓LL, LM, Value.cells, Nat.reduceAdd, Option.some.injEq, exists_eq_left', decide_true, decide_false, if_true, if_false, reduceCtorEq, cond_true, cond_false]
      refine f124_s h ok (by omega) fun w2 h2 hc2 => ?_
      try simp only [↓reduceIte, ↓LL, LM, Value.cells, Nat.reduceAdd, Option.some.injEq, exists_eq_left', decide_true, decide_false, if_true, if_false, reduceCtorEq, cond_true, cond_false]
      exact kk w2 h2 hc2
    · rw [if_neg c] at tf
      rw [drX_1 (by rw [tf]; decide), tf] at kk
      rw [decide_eq_false c]
      try simp only [↓reduceIte, ↓LL, LM, Value.cells, Nat.reduceAdd, Option.some.injEq, exists_eq_left', decide_true, decide_false, if_true, if_false, reduceCtorEq, cond_true, cond_false]
      exact kk w h (ChgS.refl _ _)
theorem shX_ok {s : ByteArray} (ok : Ok8 X N) : Ok8 (shX X s) N := by
  unfold shX
  split
  · rename_i he
    refine ok.set ?_
    have hs : s.size ≤ 236 := by
      unfold shE at he
      split at he
      · cases he
      · split at he
        · cases he
        · omega
    have h0 := ok.n0.2
    rw [ByteArray.size_append, ByteArray.size_append, ByteArray.size_extract, zs_size]
    omega
  · exact ok
theorem f99_s {s : ByteArray} (h : R8 B w r vb vn vo vs X) (ok : Ok8 X N) (kk : ∀ w', R8 B w' r vb vn vo vs (shX X s) → ChgS (fun k => vn.ownBlock = some k) w w' → Q (.int .i64 (shE X s)) w') : f99 (pv r) (.string s) w Q := by
  unfold f99
  have c3 := h.c3
  have len := ok.len
  have l1 := ok.l1
  cases ho : X.ov with
  | true =>
    rw [ho] at c3
    rw [shX_1 (by rw [shE_13 ho]; decide), shE_13 ho] at kk
    try simp only [↓reduceIte, ↓LL, LM, Value.cells, Nat.reduceAdd, Option.some.injEq, exists_eq_left', decide_true, decide_false, if_true, if_false, reduceCtorEq, cond_true, cond_false, c3]
    exact kk w h (ChgS.refl _ _)
  | false =>
    rw [ho] at c3
    by_cases c : 236 < s.size
    · have g1 : ((s.size : Nat) : Int) > 236 := by omega
      have g2 : (236 : Int) < ((s.size : Nat) : Int) := by omega
      rw [shX_1 (by rw [shE_3 ho c]; decide), shE_3 ho c] at kk
      try simp only [↓reduceIte, ↓LL, LM, Value.cells, Nat.reduceAdd, Option.some.injEq, exists_eq_left', decide_true, decide_false, if_true, if_false, reduceCtorEq, cond_true, cond_false, c3, g1, g2]
      exact kk w h (ChgS.refl _ _)
    · have g1 : ¬ ((s.size : Nat) : Int) > 236 := by omega
      have g2 : ¬ (236 : Int) < ((s.size : Nat) : Int) := by omega
      have e0 := shE_0 (s := s) ho (by omega)
      rw [shX_0 e0, e0] at kk
      have h1 := h.drw
      have c1 : (drw w).cell? ⟨r, 1, none⟩ = some vn := h1.c1
      have c1' : w.cell? ⟨r, 1, none⟩ = some vn := h.c1
      obtain ⟨g, hg, hc, hia⟩ := h.at (i := 0) (by omega)
      have hia0 : ∀ (k : IntKind) (K : Value → M) (w' : World) (Q : Value → World → Prop), ia 1 vn (.int k 0) K w' Q = K (.pointer (some ⟨g, 0, none⟩)) w' Q := hia
      have hc' : w.cell? ⟨g, 0, none⟩ = some (.string (n0 X)) := hc
      have hc'' : (drw w).cell? ⟨g, 0, none⟩ = some (.string (n0 X)) := hc
      have s0 := ok.n0.2
      have ew : IntKind.i64.wrap (236 - ((s.size : Nat) : Int)) = ((236 - s.size : Nat) : Int) := by rw [w64 (by omega) (by omega)]; omega
      try simp only [↓reduceIte, ↓LL, LM, Value.cells, Nat.reduceAdd, Option.some.injEq, exists_eq_left', decide_true, decide_false, if_true, if_false, reduceCtorEq, cond_true, cond_false, c3, g1, g2, c1, c1', hia0, hc', hc'']
      refine sls_to (k := 20) (by omega) ?_
      have z1 : ((n0 X).extract 0 20).size + s.size ≤ 9223372036854775807 := by rw [ByteArray.size_extract]; omega
      try simp only [↓reduceIte, ↓LL, LM, Value.cells, Nat.reduceAdd, Option.some.injEq, exists_eq_left', decide_true, decide_false, if_true, if_false, reduceCtorEq, cond_true, cond_false, cat_e]
      refine ⟨z1, ?_⟩
      try simp only [↓reduceIte, ↓LL, LM, Value.cells, Nat.reduceAdd, Option.some.injEq, exists_eq_left', decide_true, decide_false, if_true, if_false, reduceCtorEq, cond_true, cond_false, ew]
      refine f88_s fun w2 b2 => ?_
      have h2 := h1.below b2
      refine ⟨by rw [Kld_e]; exact cell_below b2 hc'', ?_⟩
      refine ⟨by rw [Kld_e]; exact cell_below b2 c1, ?_⟩
      refine ⟨by rw [Kld_e]; exact cell_below b2 c1, ?_⟩
      refine sls_to (k := 236 - s.size) (by rw [zs_size]; omega) ?_
      have ez : (zs 256).extract 0 (236 - s.size) = zs (236 - s.size) := by
        apply byL_inj
        rw [byL_take, byL_zs, byL_zs, List.drop_zero, List.take_replicate]
        congr 1
        omega
      rw [ez]
      have z2 : ((n0 X).extract 0 20 ++ s).size + (zs (236 - s.size)).size ≤ 9223372036854775807 := by rw [ByteArray.size_append, ByteArray.size_extract, zs_size]; omega
      try simp only [↓reduceIte, ↓LL, LM, Value.cells, Nat.reduceAdd, Option.some.injEq, exists_eq_left', decide_true, decide_false, if_true, if_false, reduceCtorEq, cond_true, cond_false, cat_e]
      refine ⟨z2, ?_⟩
      try simp only [↓reduceIte, ↓LL, LM, Value.cells, Nat.reduceAdd, Option.some.injEq, exists_eq_left', decide_true, decide_false, if_true, if_false, reduceCtorEq, cond_true, cond_false, hia0]
      refine h2.put (by omega) hg fun w3 h3 hc3 => ?_
      try simp only [↓reduceIte, ↓LL, LM, Value.cells, Nat.reduceAdd, Option.some.injEq, exists_eq_left', decide_true, decide_false, if_true, if_false, reduceCtorEq, cond_true, cond_false]
      exact kk w3 h3 ((ChgS.of_below (of_drw' b2)).trans hc3 fun _ _ h => h)
end
end Go.Proofs.YtongpnolikkknaaGreatDoor

set_option maxRecDepth 20000
set_option maxHeartbeats 4000000
namespace Go.Proofs.YtongpnolikkknaaGreatDoor
open Sh RowKit Go.MapKept
theorem slN8 : slT Tryz.prog 149 100 (.slice none 0 0) 1 24 := ⟨by kernel_rfl, by kernel_rfl⟩
def svE (X : P8) : Int := if X.ov = true then 0 else (X.nts.length : Nat)
def svX (X : P8) : P8 := if X.ov = true then X else { X with nts := X.nts ++ [X.now] }
def bkE (X : P8) (k : Int) : Int := if X.ov = true then 13 else if k < 0 ∨ (X.nts.length : Int) ≤ k then 7 else 0
def bkX (X : P8) (k : Int) : P8 := if bkE X k = 0 then { X with now := X.nts.getD k.toNat [], nts := X.nts.take (k.toNat + 1) } else X
def us8 (X : P8) : Nat := if X.ov = true then 0 else 1 + cntB (U0 (n0 X)) X.now.length
def chP (X : P8) (j : Nat) : Bool := (decide (j = 0) || isB (U0 (n0 X)) j) && decide (X.now.getD j ⟨#[]⟩ ≠ X.base.getD j ⟨#[]⟩)
def chL (X : P8) (i : Nat) : List Nat := (List.range i).filter (chP X)
def ch8 (X : P8) : List Nat := if X.ov = true then [] else chL X X.now.length
def cmE8 (X : P8) : Int := if X.ov = true then 13 else if 31 < (ch8 X).length then 3 else 0
def cmX (X : P8) : P8 := if cmE8 X = 0 then { X with ov := true } else X
def stD (X : P8) (L : List ByteArray) (l : List Nat) : List ByteArray := l.foldl (fun L j => L.set j (X.now.getD j ⟨#[]⟩)) L
def cmL (X : P8) (L : List ByteArray) : List ByteArray := if cmE8 X = 0 then stD X L (ch8 X) else L
theorem stD_len (X : P8) (l : List Nat) : ∀ L : List ByteArray, (stD X L l).length = L.length := by
  induction l with
  | nil => intro L; rfl
  | cons a l ih => intro L; show (stD X (L.set a _) l).length = _; rw [ih, List.length_set]
theorem stD_snoc (X : P8) (L : List ByteArray) (l : List Nat) (a : Nat) : stD X L (l ++ [a]) = (stD X L l).set a (X.now.getD a ⟨#[]⟩) := by unfold stD; rw [List.foldl_append]; rfl
theorem stD_setL (X : P8) (l : List Nat) : ∀ L : List ByteArray, stD X L l = setL L (l.map fun (j : Nat) => ((j : Int), X.now.getD j ⟨#[]⟩)) := by
  induction l with
  | nil => intro L; rfl
  | cons a l ih => intro L; exact ih _
theorem chL_succ (X : P8) (i : Nat) : chL X (i + 1) = if chP X i = true then chL X i ++ [i] else chL X i := by
  unfold chL
  rw [List.range_succ, List.filter_append]
  by_cases h : chP X i = true
  · rw [if_pos h, List.filter_cons_of_pos h]; rfl
  · rw [if_neg h, List.filter_cons_of_neg h]; simp
theorem chL_le (X : P8) (i : Nat) : (chL X i).length ≤ i := by
  have := List.length_filter_le (chP X) (List.range i)
  rw [List.length_range] at this
  exact this
theorem chL_lt (X : P8) (i : Nat) : ∀ j ∈ chL X i, j < i := fun j hj => by
  have := (List.mem_filter.1 hj).1
  exact List.mem_range.1 this
section
variable {B : Nat} {W w w' : World} {r rp : Nat} {vb vn vo v u up : Value} {vs : List Value} {X : P8} {N : Nat} {Q : Value → World → Prop} {K : Value → M} {K0 : M} {xs : List Value} {L : List ByteArray}
theorem ap_Vk {F : World → Prop} {t e : TypeId} {z x : Value} {b : Nat} (ht : slT Tryz.prog t e z 1 b) (hz : z.cells.size = 1) (hx : x.oneCell' = true) (hxc : x.cells = #[x]) (hF : F (psh w (.cells #[x] e))) (h : ownV B e w v xs) (h63 : xs.length + 1 ≤ maxLen) (hbytes : (xs.length + 1) * b ≤ 140737488355328) (hB : B ≤ w.heap.size)
    (kk : ∀ w' v', ownV B e w' v' (xs ++ [x]) → ChgS (fun k => v.ownBlock = some k) w w' → (∀ g, v'.ownBlock = some g → v.ownBlock = some g ∨ w.heap.size ≤ g) → K v' w' Q) :
    sm Tryz.prog (Instr.buildSlice t 1 #[(0, x)]) (fun u => kp F (sm Tryz.prog (Builtin.append_ #[t, t] t #[v, u]) K)) w Q := by
  refine bsl1 ht hz hxc ?_
  refine ⟨hF, ?_⟩
  have h1 : (psh w (.cells #[x] e)).ownsRow B e 1 v xs.length xs := World.ownsRow.alloc h _
  obtain ⟨i, g1, g2, g3, g4, g5⟩ := slT_info ht
  obtain ⟨v', w', hr, ho, hg, _, hf⟩ := run_append_own_at (P := Tryz.prog) (psh w (.cells #[x] e)) B t t e i z 1 b g1 g2 g3 g4 g5 hz (by decide) v xs.length xs h1 ⟨w.heap.size, 0, none⟩ 1 1 [x] rfl (by
    intro j u hj
    cases j with
    | zero => simp at hj; subst hj; rw [add_lit, cell_psh_new]; rfl
    | succ j => simp at hj) (by intro u hu; simp at hu; subst hu; exact hx) h63 hbytes (by rw [size_psh]; omega)
  refine ⟨v', w', hr, kk w' v' ?_ ⟨hg.os, hg.tape, hg.output, by have := hg.size; rw [size_psh] at this; omega, fun k hk hne => ?_⟩ ?_⟩
  · unfold ownV; rw [List.length_append]; exact ho
  · rw [hg.block k (by rw [size_psh]; omega) (fun e => hne e.symm), blk_psh_old hk]
  · intro g hgv
    rcases hf with hf | hf
    · left; rw [← hf]; exact hgv
    · right
      rw [hf, size_psh] at hgv
      cases hgv; omega
/-- a row of texts copied -/
theorem cpS {l : List ByteArray} (h : ownV B 9 w v (l.map .string)) (hl : l.length ≤ 1000000) (kk : ∀ v' w', ownV w.heap.size 9 w' v' (l.map .string) → Below w.heap.size w w' → K v' w' Q) : sm Tryz.prog (Builtin.append_ #[100, 100] 100 #[.slice none 0 0, v]) K w Q := by
  refine ap_E (B := w.heap.size) (l := []) slS rfl (by decide) encT_len (fun x => encT_one x) ownE_nil (ownE_rd encT_len (by decide) (ownV_T h)) (by rw [List.length_nil, Nat.zero_add]; unfold maxLen; omega) (by rw [List.length_nil, Nat.zero_add]; omega) (Nat.le_refl _) fun v2 w2 o2 g2 _ => ?_
  rw [List.nil_append] at o2
  exact kk v2 w2 (ownT_V o2) (Below_nil g2)
theorem sll_ownV {e : TypeId} {i : Nat} {j : IntKind} (h : ownV B e w v xs) (hi : i ≤ xs.length) (kk : ∀ v', ownV B e w v' (xs.take i) → v'.ownBlock = v.ownBlock → K v' w Q) : sll 1 v none (some (.int j (i : Int))) K w Q := by
  rcases ownV_cases h with ⟨rfl, rfl⟩ | ⟨g, cap, cur, rfl, hg, hb, hn, hm, hs, ht⟩
  · have : i = 0 := by simpa using hi
    subst this
    refine ⟨none, 0, 0, 0, 0, rfl, ⟨_, _, rfl, by omega, by omega, by omega⟩, rfl, ?_⟩
    exact kk _ (by simpa using ownV_nil) rfl
  · refine ⟨some ⟨g, 0, none⟩, xs.length, cap, 0, i, rfl, ⟨_, _, rfl, by omega, by omega, by omega⟩, rfl, ?_⟩
    have ev : (if cap = 0 then some (⟨g, 0, none⟩ : Addr) else (some (⟨g, 0, none⟩ : Addr)).map (·.add (0 * 1))) = some ⟨g, 0, none⟩ := by split <;> simp [add_zero']
    rw [ev, Nat.sub_zero, Nat.sub_zero]
    refine kk _ ?_ rfl
    have := ownV_mk (xs := xs.take i) (cap := cap) hg hb (by rw [List.length_take]; omega) hm hs (by
      rw [List.length_take, Nat.min_eq_left hi]
      have : cur.toList.take i = (cur.toList.take xs.length).take i := by rw [List.take_take, Nat.min_eq_left hi]
      rw [this, ht])
    rw [List.length_take, Nat.min_eq_left hi] at this
    exact this
theorem ownV_fresh {e : TypeId} {B' : Nat} (h : ownV B e w v xs) (hB : ∀ g, v.ownBlock = some g → B' ≤ g) : ownV B' e w v xs := by
  rcases ownV_cases h with ⟨rfl, rfl⟩ | ⟨g, cap, cur, rfl, hg, hb, hn, hm, hs, ht⟩
  · exact ownV_nil
  · exact ownV_mk (hB g rfl) hb hn hm hs ht
theorem take8_loop (h : R8 B w r vb vn vo vs X) (ok : Ok8 X N)
    (k0 : ∀ n, Fre (U0 (n0 X)) N n → ∀ w', R8 B w' r vb vn vo vs (tkX X n) → ChgS (fun k => vn.ownBlock = some k) w w' → Q (.tuple #[.int .i64 ((n : Nat) : Int), .int .i64 0]) w')
    (k8 : (∀ j, 1 ≤ j → j < N → isB (U0 (n0 X)) j = true) → Q (.tuple #[.int .i64 0, .int .i64 8]) w) :
    ∀ (d m i : Nat), i + d = N → d < m → 1 ≤ i → (∀ j, 1 ≤ j → j < i → isB (U0 (n0 X)) j = true) → itr (fun _ _ => bot) (f97_b2 f97_j1) m (pv r) (.int .i64 ((i : Nat) : Int)) w Q := by
  have c1 := h.c1
  have lv := h.lnl
  have len := ok.len
  have l2 := ok.l2
  intro d
  induction d with
  | zero =>
    intro m i hi hm h1 hall
    obtain ⟨m, rfl⟩ : ∃ x, m = x + 1 := ⟨m - 1, by omega⟩
    show f97_b2 f97_j1 _ _ _ w Q
    unfold f97_b2
    have cc : ¬ (i : Int) < ((X.now.length : Nat) : Int) := by omega
    try simp only [↓reduceIte, ↓LL, LM, Value.cells, Nat.reduceAdd, Option.some.injEq, exists_eq_left', decide_true, decide_false, if_true, if_false, reduceCtorEq, cond_true, cond_false, c1, lv, cc]
    unfold f97_j1
    try simp only [↓reduceIte, ↓LL, LM, Value.cells, Nat.reduceAdd, Option.some.injEq, exists_eq_left', decide_true, decide_false, if_true, if_false, reduceCtorEq, cond_true, cond_false]
    exact k8 fun j hj hl => hall j hj (by omega)
  | succ d ih =>
    intro m i hi hm h1 hall
    obtain ⟨m, rfl⟩ : ∃ x, m = x + 1 := ⟨m - 1, by omega⟩
    show f97_b2 f97_j1 _ _ _ w Q
    unfold f97_b2
    have cc : (i : Int) < ((X.now.length : Nat) : Int) := by omega
    have h3 : IntKind.i64.wrap ((i : Int) + 1) = ((i + 1 : Nat) : Int) := by rw [w64 (by omega) (by omega)]; rfl
    try simp only [↓reduceIte, ↓LL, LM, Value.cells, Nat.reduceAdd, Option.some.injEq, exists_eq_left', decide_true, decide_false, if_true, if_false, reduceCtorEq, cond_true, cond_false, c1, lv, cc]
    refine f103_s h ok (by omega) ?_
    rw [decide_eq_false (show ¬ i = 0 by omega), Bool.false_or]
    cases hu : isB (U0 (n0 X)) i with
    | true =>
      try simp only [↓reduceIte, ↓LL, LM, Value.cells, Nat.reduceAdd, Option.some.injEq, exists_eq_left', decide_true, decide_false, if_true, if_false, reduceCtorEq, cond_true, cond_false, h3]
      exact ih m (i + 1) (by omega) (by omega) (by omega) fun j hj hl => by
        rcases Nat.lt_or_ge j i with hlt | hge
        · exact hall j hj hlt
        · have : j = i := by omega
          rw [this]; exact hu
    | false =>
      try simp only [↓reduceIte, ↓LL, LM, Value.cells, Nat.reduceAdd, Option.some.injEq, exists_eq_left', decide_true, decide_false, if_true, if_false, reduceCtorEq, cond_true, cond_false]
      refine f124_s h ok (by omega) fun w2 h2 hc2 => ?_
      have h2d := h2.drw
      have d1 : (drw w2).cell? ⟨r, 1, none⟩ = some vn := h2d.c1
      have d1' : w2.cell? ⟨r, 1, none⟩ = some vn := h2d.c1
      try simp only [↓reduceIte, ↓LL, LM, Value.cells, Nat.reduceAdd, Option.some.injEq, exists_eq_left', decide_true, decide_false, if_true, if_false, reduceCtorEq, cond_true, cond_false, d1, d1']
      refine f88_s fun w3 b3 => ?_
      have h3' := h2d.below b3
      refine ⟨by rw [Kld_e]; exact h3'.c1, ?_⟩
      have hil : i < (X.now.set 0 (trnS (n0 X) i)).length := by rw [List.length_set]; omega
      obtain ⟨g, hg, hc, hia⟩ := h3'.at (i := i) hil
      try simp only [↓reduceIte, ↓LL, LM, Value.cells, Nat.reduceAdd, Option.some.injEq, exists_eq_left', decide_true, decide_false, if_true, if_false, reduceCtorEq, cond_true, cond_false, hia]
      refine h3'.put hil hg fun w4 h4 hc4 => ?_
      try simp only [↓reduceIte, ↓LL, LM, Value.cells, Nat.reduceAdd, Option.some.injEq, exists_eq_left', decide_true, decide_false, if_true, if_false, reduceCtorEq, cond_true, cond_false]
      exact k0 i ⟨h1, by omega, hu, hall⟩ w4 h4 ((hc2.trans (ChgS.of_below (of_drw' b3)) fun _ _ h => h).trans hc4 fun _ _ h => h)
theorem f97_s (h : R8 B w r vb vn vo vs X) (ok : Ok8 X N) (k13 : X.ov = true → Q (.tuple #[.int .i64 0, .int .i64 13]) w)
    (k0 : X.ov = false → ∀ n, Fre (U0 (n0 X)) N n → ∀ w', R8 B w' r vb vn vo vs (tkX X n) → ChgS (fun k => vn.ownBlock = some k) w w' → Q (.tuple #[.int .i64 ((n : Nat) : Int), .int .i64 0]) w')
    (k8 : X.ov = false → (∀ j, 1 ≤ j → j < N → isB (U0 (n0 X)) j = true) → Q (.tuple #[.int .i64 0, .int .i64 8]) w) : f97 (pv r) w Q := by
  unfold f97
  have c3 := h.c3
  have l1 := ok.l1
  cases ho : X.ov with
  | true =>
    rw [ho] at c3
    try simp only [↓reduceIte, ↓LL, LM, Value.cells, Nat.reduceAdd, Option.some.injEq, exists_eq_left', decide_true, decide_false, if_true, if_false, reduceCtorEq, cond_true, cond_false, c3]
    exact k13 ho
  | false =>
    rw [ho] at c3
    try simp only [↓reduceIte, ↓LL, LM, Value.cells, Nat.reduceAdd, Option.some.injEq, exists_eq_left', decide_true, decide_false, if_true, if_false, reduceCtorEq, cond_true, cond_false, c3]
    exact ⟨_, take8_loop h ok (k0 ho) (k8 ho) (N - 1) N 1 (by omega) (by omega) (Nat.le_refl _) fun j hj hl => by omega⟩
theorem tkX_ok {n : Nat} (ok : Ok8 X N) : Ok8 (tkX X n) N := (ok.set (i := 0) (trnS_size ok.n0.2 n)).set (X := { X with now := X.now.set 0 (trnS (n0 X) n) }) (zs_size 256)
theorem R8.hrlt (h : R8 B w r vb vn vo vs X) : r < w.heap.size := blk_lt h.hr
theorem f100_s (h : R8 B w r vb vn vo vs X) (ok : Ok8 X N) (hB : B ≤ w.heap.size) (hn : X.nts.length ≤ 100000)
    (kk : ∀ w' vo' vs', R8 B w' r vb vn vo' vs' (svX X) → (∀ k, fp8 r vb vn vo' vs' k → fp8 r vb vn vo vs k ∨ w.heap.size ≤ k) → ChgS (fp8 r vb vn vo vs) w w' → Q (.int .i64 (svE X)) w') : f100 (pv r) w Q := by
  unfold f100
  have c3 := h.c3
  unfold svE svX at kk
  have len := ok.len
  have l2 := ok.l2
  cases ho : X.ov with
  | true =>
    rw [ho] at c3
    rw [if_pos ho, if_pos ho] at kk
    try simp only [↓reduceIte, ↓LL, LM, Value.cells, Nat.reduceAdd, Option.some.injEq, exists_eq_left', decide_true, decide_false, if_true, if_false, reduceCtorEq, cond_true, cond_false, c3]
    exact kk w vo vs h (fun k hk => .inl hk) (ChgS.refl _ _)
  | false =>
    rw [ho] at c3
    rw [if_neg (by rw [ho]; intro h; cases h), if_neg (by rw [ho]; intro h; cases h)] at kk
    have h1 := h.drw
    have c1 : (drw w).cell? ⟨r, 1, none⟩ = some vn := h1.c1
    have c2 : (drw w).cell? ⟨r, 2, none⟩ = some vo := h1.c2
    have c1' : w.cell? ⟨r, 1, none⟩ = some vn := h1.c1
    have c2' : w.cell? ⟨r, 2, none⟩ = some vo := h1.c2
    try simp only [↓reduceIte, ↓LL, LM, Value.cells, Nat.reduceAdd, Option.some.injEq, exists_eq_left', decide_true, decide_false, if_true, if_false, reduceCtorEq, cond_true, cond_false, c3, c1, c2, c1', c2']
    refine cpS h1.hn (by omega) fun v2 w2 o2 b2 => ?_
    have h2 := h1.below b2
    have zz : w.heap.size ≤ w2.heap.size := b2.size
    refine ⟨by rw [Kld_e]; exact cell_below b2 c2, ?_⟩
    obtain ⟨p2, cc2, e2⟩ := ownV_len o2
    have f2 : ∀ g, v2.ownBlock = some g → w.heap.size ≤ g ∧ g < w2.heap.size := fun g hg => ⟨(ownV_lt o2 g hg).1, (ownV_lt o2 g hg).2.1⟩
    refine ap_Vk slN8 rfl (by rw [e2]; rfl) (by rw [e2]; rfl) (by rw [Kld_e]; exact cell_below (b_psh _ _) h2.c2) h2.ho (by rw [h.hl]; unfold maxLen; omega) (by rw [h.hl]; omega) (Nat.le_trans hB zz) fun w3 vo3 o3 hc3 fr3 => ?_
    have lo3 := ownV_lt o3
    have von : ∀ g, vo.ownBlock = some g → g ≠ r ∧ vn.ownBlock ≠ some g ∧ vb.ownBlock ≠ some g ∧ v2.ownBlock ≠ some g ∧ ∀ v ∈ vs, v.ownBlock ≠ some g := fun g hg => by
      obtain ⟨_, hlt, cur, hcur⟩ := ownV_lt h2.ho g hg
      refine ⟨?_, fun hv => ?_, fun hv => ?_, fun hv => ?_, fun v hvm hv => ?_⟩
      · rintro rfl
        exact absurd (ty_ne hcur h2.hr) (by decide)
      · obtain ⟨_, _, cur', hcur'⟩ := ownV_lt h2.hn g hv
        exact absurd (ty_ne hcur hcur') (by decide)
      · obtain ⟨_, _, cur', hcur'⟩ := ownV_lt h2.hb g hv
        exact absurd (ty_ne hcur hcur') (by decide)
      · obtain ⟨_, _, cur', hcur'⟩ := ownV_lt o2 g hv
        exact absurd (ty_ne hcur hcur') (by decide)
      · obtain ⟨_, _, cur', hcur'⟩ := h2.vsB v hvm g hv
        exact absurd (ty_ne hcur hcur') (by decide)
    have hr3 := hc3.keep h2.hr fun e => (von r e).1 rfl
    rw [ho] at hr3
    try simp only [↓reduceIte, ↓LL, LM, Value.cells, Nat.reduceAdd, Option.some.injEq, exists_eq_left', decide_true, decide_false, if_true, if_false, reduceCtorEq, cond_true, cond_false]
    refine st_box (o := 2) (v := vo3) hr3 (by show 2 < 4; decide) (by obtain ⟨x, y, hx⟩ := ownV_len o3; rw [hx]; rfl) fun w4 hr4 u4 => ?_
    have hr4 : w4.heap[r]? = some (.cells #[vb, vn, vo3, .bool false] 151 (0, 0)) := hr4
    have c24 : w4.cell? ⟨r, 2, none⟩ = some vo3 := by rw [cell_of_blk hr4]; rfl
    have hc4 : ChgS (fun k => k = r) w3 w4 := ChgS.of_upd u4 rfl
    have vo3n : ∀ g, vo3.ownBlock = some g → g ≠ r := fun g hg e => by
      obtain ⟨_, _, cur, hcur⟩ := lo3 g hg
      rw [e] at hcur
      exact absurd (ty_ne hcur hr3) (by decide)
    have nr : ∀ {e : TypeId} {v : Value} {ys : List Value}, e ≠ 151 → ownV B e w3 v ys → ∀ g, v.ownBlock = some g → ¬ g = r := fun he ho g hg e => by
      obtain ⟨_, _, cur, hcur⟩ := ownV_lt ho g hg
      rw [e] at hcur
      exact he (ty_ne hcur hr3)
    have hb3 := ownV_chg h2.hb hc3 fun g hg hn => (von g hn).2.2.1 hg
    have hn3 := ownV_chg h2.hn hc3 fun g hg hn => (von g hn).2.1 hg
    have o23 : ownV B 9 w3 v2 (X.now.map .string) := ownV_chg (ownV_fresh o2 fun g hg => Nat.le_trans hB (f2 g hg).1) hc3 fun g hg hn => (von g hn).2.2.2.1 hg
    have hv3 : ∀ (i : Nat) v l, vs[i]? = some v → X.nts[i]? = some l → ownV B 9 w3 v (l.map .string) := fun i v l e1 e2 => ownV_chg (h2.hv i v l e1 e2) hc3 fun g hg hn => (von g hn).2.2.2.2 v (List.mem_of_getElem? e1) hg
    have ho4 := ownV_chg o3 hc4 fun g hg => vo3n g hg
    have lv := lnl_own o3
    have ll : (vs ++ [v2]).length = X.nts.length + 1 := by rw [List.length_append, h.hl]; rfl
    rw [ll] at lv
    have ew : IntKind.i64.wrap (((X.nts.length + 1 : Nat) : Int) - 1) = ((X.nts.length : Nat) : Int) := by rw [w64 (by omega) (by omega)]; omega
    try simp only [↓reduceIte, ↓LL, LM, Value.cells, Nat.reduceAdd, Option.some.injEq, exists_eq_left', decide_true, decide_false, if_true, if_false, reduceCtorEq, cond_true, cond_false, c24, lv, ew]
    refine kk w4 vo3 (vs ++ [v2]) ⟨h.rB, by show _ = some (Obj.cells #[vb, vn, vo3, .bool X.ov] _ _); rw [ho]; exact hr4, ownV_chg hb3 hc4 (nr (by decide) hb3), ownV_chg hn3 hc4 (nr (by decide) hn3), ho4, ?_, fun i v l e1 e2 => ?_, h.sb, fun v hv g hg => ?_⟩ (fun k hk => ?_) ?_
    · show (vs ++ [v2]).length = (X.nts ++ [X.now]).length
      rw [ll, List.length_append]; rfl
    · have e2 : (X.nts ++ [X.now])[i]? = some l := e2
      have hw : ownV B 9 w3 v (l.map .string) := by
        rcases Nat.lt_or_ge i vs.length with hlt | hge
        · rw [List.getElem?_append_left hlt] at e1
          rw [List.getElem?_append_left (by rw [← h.hl]; exact hlt)] at e2
          exact hv3 i v l e1 e2
        · rw [List.getElem?_append_right hge] at e1
          rw [List.getElem?_append_right (by rw [← h.hl]; exact hge)] at e2
          rw [← h.hl] at e2
          have : i - vs.length = 0 := by
            rcases Nat.eq_zero_or_pos (i - vs.length) with hz | hp
            · exact hz
            · rw [List.getElem?_eq_none (by simp only [List.length_cons, List.length_nil]; omega)] at e1
              cases e1
          rw [this] at e1 e2
          cases e1; cases e2
          exact o23
      exact ownV_chg hw hc4 (nr (by decide) hw)
    · rcases List.mem_append.1 hv with hv | hv
      · exact h.sv v hv g hg
      · rw [List.mem_singleton.1 hv] at hg
        intro hx
        have := (ownV_lt h1.hn g hx).2.1
        have := (f2 g hg).1
        have e : (drw w).heap.size = w.heap.size := rfl
        omega
    · rcases hk with hk | hk | hk | hk | ⟨v, hv, hk⟩
      · exact .inl (.inl hk)
      · exact .inl (.inr (.inl hk))
      · exact .inl (.inr (.inr (.inl hk)))
      · rcases fr3 k hk with hk | hk
        · exact .inl (.inr (.inr (.inr (.inl hk))))
        · exact .inr (by omega)
      · rcases List.mem_append.1 hv with hv | hv
        · exact .inl (.inr (.inr (.inr (.inr ⟨v, hv, hk⟩))))
        · rw [List.mem_singleton.1 hv] at hk
          exact .inr (f2 k hk).1
    · refine ((ChgS.of_below (of_drw' b2)).trans (T := fp8 r vb vn vo vs) ?_ fun _ _ h => h).trans (T := fp8 r vb vn vo vs) (hc4.mono fun k hk => .inl hk) fun _ _ h => h
      exact hc3.mono fun k hk => .inr (.inr (.inr (.inl hk)))
theorem bkE_13 {k : Int} (ho : X.ov = true) : bkE X k = 13 := by unfold bkE; rw [if_pos ho]
theorem bkE_7 {k : Int} (ho : X.ov = false) (hk : k < 0 ∨ (X.nts.length : Int) ≤ k) : bkE X k = 7 := by unfold bkE; rw [if_neg (by rw [ho]; intro h; cases h), if_pos hk]
theorem bkE_0 {k : Int} (ho : X.ov = false) (h0 : 0 ≤ k) (h1 : k < (X.nts.length : Int)) : bkE X k = 0 := by unfold bkE; rw [if_neg (by rw [ho]; intro h; cases h), if_neg (by omega)]
theorem bkX_1 {k : Int} (h : bkE X k ≠ 0) : bkX X k = X := by unfold bkX; rw [if_neg h]
theorem bkX_0 {k : Int} (h : bkE X k = 0) : bkX X k = { X with now := X.nts.getD k.toNat [], nts := X.nts.take (k.toNat + 1) } := by unfold bkX; rw [if_pos h]
theorem f101_s {k : Int} (h : R8 B w r vb vn vo vs X) (hB : B ≤ w.heap.size) (hN : ∀ l ∈ X.nts, l.length ≤ 1000000) (hn : X.nts.length ≤ 100000)
    (kk : ∀ w' vn' vo' vs', R8 B w' r vb vn' vo' vs' (bkX X k) → (∀ j, fp8 r vb vn' vo' vs' j → fp8 r vb vn vo vs j ∨ w.heap.size ≤ j) → ChgS (fp8 r vb vn vo vs) w w' → Q (.int .i64 (bkE X k)) w') : f101 (pv r) (.int .i64 k) w Q := by
  unfold f101
  have c3 := h.c3
  cases ho : X.ov with
  | true =>
    rw [ho] at c3
    have e1 := bkE_13 (k := k) ho
    rw [bkX_1 (by rw [e1]; decide), e1] at kk
    try simp only [↓reduceIte, ↓LL, LM, Value.cells, Nat.reduceAdd, Option.some.injEq, exists_eq_left', decide_true, decide_false, if_true, if_false, reduceCtorEq, cond_true, cond_false, c3]
    exact kk w vn vo vs h (fun k hk => .inl hk) (ChgS.refl _ _)
  | false =>
    rw [ho] at c3
    have c2 := h.c2
    have lv := lnl_own h.ho
    rw [h.hl] at lv
    by_cases g1 : k < 0
    · have e1 := bkE_7 (k := k) ho (.inl g1)
      rw [bkX_1 (by rw [e1]; decide), e1] at kk
      try simp only [↓reduceIte, ↓LL, LM, Value.cells, Nat.reduceAdd, Option.some.injEq, exists_eq_left', decide_true, decide_false, if_true, if_false, reduceCtorEq, cond_true, cond_false, c3, g1]
      exact kk w vn vo vs h (fun k hk => .inl hk) (ChgS.refl _ _)
    · by_cases g2 : (X.nts.length : Int) ≤ k
      · have g2' : k ≥ ((X.nts.length : Nat) : Int) := g2
        have e1 := bkE_7 (k := k) ho (.inr g2)
        rw [bkX_1 (by rw [e1]; decide), e1] at kk
        try simp only [↓reduceIte, ↓LL, LM, Value.cells, Nat.reduceAdd, Option.some.injEq, exists_eq_left', decide_true, decide_false, if_true, if_false, reduceCtorEq, cond_true, cond_false, c3, g1, c2, lv, g2, g2']
        exact kk w vn vo vs h (fun k hk => .inl hk) (ChgS.refl _ _)
      · have g2' : ¬ k ≥ ((X.nts.length : Nat) : Int) := g2
        have e1 := bkE_0 (k := k) ho (by omega) (by omega)
        rw [bkX_0 e1, e1] at kk
        obtain ⟨k, rfl⟩ := Int.eq_ofNat_of_zero_le (show 0 ≤ k by omega)
        rw [Int.toNat_natCast] at kk
        have hkl : k < X.nts.length := by omega
        have hkv : k < vs.length := by rw [h.hl]; exact hkl
        have ew : IntKind.i64.wrap ((k : Int) + 1) = ((k + 1 : Nat) : Int) := by rw [w64 (by omega) (by omega)]; rfl
        obtain ⟨gv, capv, hvo, hgv, hgB, _, hcell⟩ := ownV_blk h.ho (by intro e; rw [e] at hkv; simp at hkv)
        have hia : ∀ (K : Value → M) (w' : World) (Q : Value → World → Prop), ia 1 vo (.int .i64 ((k : Nat) : Int)) K w' Q = K (.pointer (some ⟨gv, k, none⟩)) w' Q := fun K w' Q => by rw [hvo]; exact ia_at hkv
        have hck := hcell k hkv
        have hvk := h.hv k vs[k] X.nts[k] (List.getElem?_eq_getElem hkv) (List.getElem?_eq_getElem hkl)
        have eN : X.nts.getD k [] = X.nts[k] := by rw [List.getD_eq_getElem?_getD, List.getElem?_eq_getElem hkl]; rfl
        rw [eN] at kk
        have hmem : vs[k] ∈ vs := List.getElem_mem hkv
        try simp only [↓reduceIte, ↓LL, LM, Value.cells, Nat.reduceAdd, Option.some.injEq, exists_eq_left', decide_true, decide_false, if_true, if_false, reduceCtorEq, cond_true, cond_false, c3, g1, c2, lv, g2, g2', hia, hck]
        refine cpS hvk (hN _ (List.getElem_mem hkl)) fun v2 w2 o2 b2 => ?_
        have h2 := h.below b2
        have f2 : ∀ g, v2.ownBlock = some g → w.heap.size ≤ g ∧ g < w2.heap.size := fun g hg => ⟨(ownV_lt o2 g hg).1, (ownV_lt o2 g hg).2.1⟩
        have hr2 := h2.hr
        rw [ho] at hr2
        try simp only [↓reduceIte, ↓LL, LM, Value.cells, Nat.reduceAdd, Option.some.injEq, exists_eq_left', decide_true, decide_false, if_true, if_false, reduceCtorEq, cond_true, cond_false]
        refine st_box (o := 1) (v := v2) hr2 (by show 1 < 4; decide) (by obtain ⟨x, y, hx⟩ := ownV_len o2; rw [hx]; rfl) fun w3 hr3 u3 => ?_
        have hr3 : w3.heap[r]? = some (.cells #[vb, v2, vo, .bool false] 151 (0, 0)) := hr3
        have hc3 : ChgS (fun k => k = r) w2 w3 := ChgS.of_upd u3 rfl
        have c23 : w3.cell? ⟨r, 2, none⟩ = some vo := by rw [cell_of_blk hr3]; rfl
        have nr : ∀ {e : TypeId} {v : Value} {ys : List Value} {B' : Nat}, e ≠ 151 → ownV B' e w2 v ys → ∀ g, v.ownBlock = some g → ¬ g = r := fun he ho g hg e => by
          obtain ⟨_, _, cur, hcur⟩ := ownV_lt ho g hg
          rw [e] at hcur
          exact he (ty_ne hcur hr2)
        have ho3 := ownV_chg h2.ho hc3 (nr (by decide) h2.ho)
        try simp only [↓reduceIte, ↓LL, LM, Value.cells, Nat.reduceAdd, Option.some.injEq, exists_eq_left', decide_true, decide_false, if_true, if_false, reduceCtorEq, cond_true, cond_false, c23, ew]
        refine sll_ownV ho3 (i := k + 1) (by omega) fun vo4 o4 eb4 => ?_
        try simp only [↓reduceIte, ↓LL, LM, Value.cells, Nat.reduceAdd, Option.some.injEq, exists_eq_left', decide_true, decide_false, if_true, if_false, reduceCtorEq, cond_true, cond_false]
        refine st_box (o := 2) (v := vo4) hr3 (by show 2 < 4; decide) (by obtain ⟨x, y, hx⟩ := ownV_len o4; rw [hx]; rfl) fun w5 hr5 u5 => ?_
        have hr5 : w5.heap[r]? = some (.cells #[vb, v2, vo4, .bool false] 151 (0, 0)) := hr5
        have hc5 : ChgS (fun k => k = r) w3 w5 := ChgS.of_upd u5 rfl
        have hc25 : ChgS (fun k => k = r) w2 w5 := hc3.trans hc5 fun _ _ h => h
        try simp only [↓reduceIte, ↓LL, LM, Value.cells, Nat.reduceAdd, Option.some.injEq, exists_eq_left', decide_true, decide_false, if_true, if_false, reduceCtorEq, cond_true, cond_false]
        refine kk w5 v2 vo4 (vs.take (k + 1)) ⟨h.rB, by show _ = some (Obj.cells #[vb, v2, vo4, .bool X.ov] _ _); rw [ho]; exact hr5, ownV_chg h2.hb hc25 (nr (by decide) h2.hb), ?_, ownV_chg o4 hc5 (fun g hg => nr (by decide) h2.ho g (by rw [← eb4]; exact hg)), ?_, fun i v l e1 e2 => ?_, fun g hg hx => ?_, fun v hv g hg hx => ?_⟩ (fun j hj => ?_) ?_
        · exact ownV_chg (ownV_fresh o2 fun g hg => Nat.le_trans hB (f2 g hg).1) hc25 (nr (by decide) o2)
        · show (vs.take (k + 1)).length = (X.nts.take (k + 1)).length
          rw [List.length_take, List.length_take, h.hl]
        · have e2 : (X.nts.take (k + 1))[i]? = some l := e2
          rw [List.getElem?_take] at e1 e2
          split at e1
          · rename_i hik
            rw [if_pos hik] at e2
            have := h2.hv i v l e1 e2
            exact ownV_chg this hc25 (nr (by decide) this)
          · cases e1
        · have := (f2 g hx).1
          have := (ownV_lt h.hb g hg).2.1
          omega
        · have := (f2 g hx).1
          have := (h.vsB v (List.mem_of_mem_take hv) g hg).2.1
          omega
        · rcases hj with hj | hj | hj | hj | ⟨v, hv, hj⟩
          · exact .inl (.inl hj)
          · exact .inl (.inr (.inl hj))
          · exact .inr (f2 j hj).1
          · exact .inl (.inr (.inr (.inr (.inl (by rw [← eb4]; exact hj)))))
          · exact .inl (.inr (.inr (.inr (.inr ⟨v, List.mem_of_mem_take hv, hj⟩))))
        · exact (ChgS.of_below b2).trans (T := fp8 r vb vn _ vs) (hc25.mono fun k hk => .inl hk) fun _ _ h => h
theorem changed8_loop (h : R8 B w r vb vn vo vs X) (ok : Ok8 X N) (ho : X.ov = false) (kk : ∀ w' v, Below w.heap.size w w' → ownI w.heap.size 3 .i64 w' v ((chL X N).map fun (j : Nat) => (j : Int)) → Q v w') :
    ∀ (d m i : Nat) (w1 : World) (v : Value), i + d = N → d < m → Below w.heap.size w w1 → ownI w.heap.size 3 .i64 w1 v ((chL X i).map fun (j : Nat) => (j : Int)) → itr (fun _ _ _ => bot) (f63_b2 f63_j1) m (pv r) v (.int .i64 ((i : Nat) : Int)) w1 Q := by
  have lv := h.lnl
  have len := ok.len
  have l1 := ok.l1
  have l2 := ok.l2
  have bl := ok.bl
  intro d
  induction d with
  | zero =>
    intro m i w1 v hi hm hb hv
    obtain ⟨m, rfl⟩ : ∃ x, m = x + 1 := ⟨m - 1, by omega⟩
    show f63_b2 f63_j1 _ _ _ _ w1 Q
    unfold f63_b2
    have c1 := (h.below hb).c1
    have cc : ¬ (i : Int) < ((X.now.length : Nat) : Int) := by omega
    have : i = N := by omega
    subst this
    try simp only [↓reduceIte, ↓LL, LM, Value.cells, Nat.reduceAdd, Option.some.injEq, exists_eq_left', decide_true, decide_false, if_true, if_false, reduceCtorEq, cond_true, cond_false, c1, lv, cc]
    unfold f63_j1
    try simp only [↓reduceIte, ↓LL, LM, Value.cells, Nat.reduceAdd, Option.some.injEq, exists_eq_left', decide_true, decide_false, if_true, if_false, reduceCtorEq, cond_true, cond_false]
    exact kk w1 v hb hv
  | succ d ih =>
    intro m i w1 v hi hm hb hv
    obtain ⟨m, rfl⟩ : ∃ x, m = x + 1 := ⟨m - 1, by omega⟩
    show f63_b2 f63_j1 _ _ _ _ w1 Q
    unfold f63_b2
    have h1 := h.below hb
    have h1d := h1.drw
    have c1 := h1.c1
    have c3 := h1.c3
    rw [ho] at c3
    have c0d : (drw w1).cell? ⟨r, 0, none⟩ = some vb := h1d.c0
    have c1d : (drw w1).cell? ⟨r, 1, none⟩ = some vn := h1d.c1
    have c0 : w1.cell? ⟨r, 0, none⟩ = some vb := h1d.c0
    have cc : (i : Int) < ((X.now.length : Nat) : Int) := by omega
    have h3 : IntKind.i64.wrap ((i : Int) + 1) = ((i + 1 : Nat) : Int) := by rw [w64 (by omega) (by omega)]; rfl
    obtain ⟨ga, ha1, ha2, ha3⟩ := h1.at (i := i) (by omega)
    obtain ⟨gb, hb1, hb2, hb3⟩ := ownS_at h1.hb (i := i) (by omega)
    have eb : X.base[i]'(by omega) = X.base.getD i ⟨#[]⟩ := by rw [List.getD_eq_getElem?_getD, List.getElem?_eq_getElem (by omega)]; rfl
    rw [eb] at hb2
    have ha2' : (drw w1).cell? ⟨ga, i, none⟩ = some (.string (X.now.getD i ⟨#[]⟩)) := ha2
    have hb2' : (drw w1).cell? ⟨gb, i, none⟩ = some (.string (X.base.getD i ⟨#[]⟩)) := hb2
    have hcl := chL_le X i
    have bd : Below w.heap.size w (drw w1) := ⟨hb.os, hb.tape, hb.output, hb.size, hb.block⟩
    have hvd : ownI w.heap.size 3 .i64 (drw w1) v ((chL X i).map fun (j : Nat) => (j : Int)) := hv
    have hnx := chL_succ X i
    have fin0 : chP X i = false → itr (fun _ _ _ => bot) (f63_b2 f63_j1) m (pv r) v (.int .i64 ((i + 1 : Nat) : Int)) (drw w1) Q := fun hp => by
      rw [if_neg (by rw [hp]; decide)] at hnx
      exact ih m (i + 1) _ v (by omega) (by omega) bd (by rw [hnx]; exact hvd)
    try simp only [↓reduceIte, ↓LL, LM, Value.cells, Nat.reduceAdd, Option.some.injEq, exists_eq_left', decide_true, decide_false, if_true, if_false, reduceCtorEq, cond_true, cond_false, c1, lv, cc, c3]
    refine f103_s h1d ok (by omega) ?_
    by_cases hu : (decide (i = 0) || isB (U0 (n0 X)) i) = true
    · rw [hu]
      by_cases hd : X.now.getD i ⟨#[]⟩ = X.base.getD i ⟨#[]⟩
      · have hp : chP X i = false := by unfold chP; rw [hu, Bool.true_and]; exact decide_eq_false fun hne => hne hd
        have hd' : decide (X.now.getD i ⟨#[]⟩ ≠ X.base.getD i ⟨#[]⟩) = false := decide_eq_false fun hne => hne hd
        try simp only [↓reduceIte, ↓LL, LM, Value.cells, Nat.reduceAdd, Option.some.injEq, exists_eq_left', decide_true, decide_false, if_true, if_false, reduceCtorEq, cond_true, cond_false, c1d, c0d, c0, c1, ha3, hb3, ha2, hb2, ha2', hb2', hd']
        unfold f63_j3
        try simp only [↓reduceIte, ↓LL, LM, Value.cells, Nat.reduceAdd, Option.some.injEq, exists_eq_left', decide_true, decide_false, if_true, if_false, reduceCtorEq, cond_true, cond_false, h3]
        exact fin0 hp
      · have hp : chP X i = true := by unfold chP; rw [hu, Bool.true_and]; exact decide_eq_true hd
        have hd' : decide (X.now.getD i ⟨#[]⟩ ≠ X.base.getD i ⟨#[]⟩) = true := decide_eq_true hd
        rw [if_pos hp] at hnx
        try simp only [↓reduceIte, ↓LL, LM, Value.cells, Nat.reduceAdd, Option.some.injEq, exists_eq_left', decide_true, decide_false, if_true, if_false, reduceCtorEq, cond_true, cond_false, c1d, c0d, c0, c1, ha3, hb3, ha2, hb2, ha2', hb2', hd']
        refine ap_one slI hvd (by rw [List.length_map]; omega) (by rw [List.length_map]; omega) bd.size fun v2 w2 o2 b2 _ _ => ?_
        unfold f63_j3
        try simp only [↓reduceIte, ↓LL, LM, Value.cells, Nat.reduceAdd, Option.some.injEq, exists_eq_left', decide_true, decide_false, if_true, if_false, reduceCtorEq, cond_true, cond_false, h3]
        refine ih m (i + 1) w2 v2 (by omega) (by omega) (bd.trans b2) ?_
        rw [hnx, List.map_append]
        exact o2
    · have hu' : (decide (i = 0) || isB (U0 (n0 X)) i) = false := by cases hx : (decide (i = 0) || isB (U0 (n0 X)) i) with
        | true => exact absurd hx hu
        | false => rfl
      rw [hu']
      have hp : chP X i = false := by unfold chP; rw [hu', Bool.false_and]
      try simp only [↓reduceIte, ↓LL, LM, Value.cells, Nat.reduceAdd, Option.some.injEq, exists_eq_left', decide_true, decide_false, if_true, if_false, reduceCtorEq, cond_true, cond_false]
      unfold f63_j3
      try simp only [↓reduceIte, ↓LL, LM, Value.cells, Nat.reduceAdd, Option.some.injEq, exists_eq_left', decide_true, decide_false, if_true, if_false, reduceCtorEq, cond_true, cond_false, h3]
      exact fin0 hp
theorem f63_s (h : R8 B w r vb vn vo vs X) (ok : Ok8 X N) (kk : ∀ w' v, Below w.heap.size w w' → ownI w.heap.size 3 .i64 w' v ((ch8 X).map fun (j : Nat) => (j : Int)) → Q v w') : f63 (pv r) w Q := by
  unfold f63
  unfold ch8 at kk
  have len := ok.len
  have l1 := ok.l1
  cases ho : X.ov with
  | true =>
    rw [if_pos ho] at kk
    refine ⟨1, ?_⟩
    show f63_b2 f63_j1 _ _ _ _ w Q
    unfold f63_b2
    have c1 := h.c1
    have c3 := h.c3
    rw [ho] at c3
    have lv := h.lnl
    have cc : (0 : Int) < ((X.now.length : Nat) : Int) := by omega
    try simp only [↓reduceIte, ↓LL, LM, Value.cells, Nat.reduceAdd, Option.some.injEq, exists_eq_left', decide_true, decide_false, if_true, if_false, reduceCtorEq, cond_true, cond_false, c1, lv, cc, c3]
    unfold f63_j1
    try simp only [↓reduceIte, ↓LL, LM, Value.cells, Nat.reduceAdd, Option.some.injEq, exists_eq_left', decide_true, decide_false, if_true, if_false, reduceCtorEq, cond_true, cond_false]
    exact kk w _ (Below.refl _ _) ownI_nil
  | false =>
    rw [if_neg (by rw [ho]; intro h; cases h), len] at kk
    exact ⟨_, changed8_loop h ok ho kk N (N + 1) 0 w _ (by omega) (by omega) (Below.refl _ _) ownI_nil⟩
theorem buildR6 (p : Option Addr) (l c : Nat) (w : World) : (Instr.build 102 #[(0, .slice p l c)]).run Tryz.prog w = .ok (.agg #[.slice p l c]) w := by
  kernel_rfl
theorem cmt8_loop {l : List Nat} {rq : Nat} {uq : Value} (h : R8 B W r vb vn vo vs X) (ok : Ok8 X N) (hl : rdI .i64 W v (l.map fun (j : Nat) => (j : Int))) (hlt : ∀ j ∈ l, j < N) (hll : l.length ≤ 1000) (hL : L.length = N) (hq : ∀ g, uq.ownBlock = some g → W.heap.size ≤ g ∧ g ≠ rq) (hrq : W.heap.size ≤ rq)
    (kk : ∀ w', Below W.heap.size W w' → RfAt W.heap.size w' rq uq (stD X L l) → f102_j1 (pv r) (pv rq) w' Q) :
    ∀ (d m i : Nat) (w1 : World), i + d = l.length → d < m → Below W.heap.size W w1 → RfAt W.heap.size w1 rq uq (stD X L (l.take i)) → itr (fun _ _ _ _ => bot) (f102_b2 f102_j1) m (pv r) v (pv rq) (.int .i64 ((i : Nat) : Int)) w1 Q := by
  have len := ok.len
  intro d
  induction d with
  | zero =>
    intro m i w1 hi hm hb hr
    obtain ⟨m, rfl⟩ : ∃ x, m = x + 1 := ⟨m - 1, by omega⟩
    show f102_b2 f102_j1 _ _ _ _ _ w1 Q
    unfold f102_b2
    have lv := rdI_lnl hl
    rw [List.length_map] at lv
    have cc : ¬ (i : Int) < (l.length : Nat) := by omega
    try simp only [↓reduceIte, ↓LL, LM, Value.cells, Nat.reduceAdd, Option.some.injEq, exists_eq_left', decide_true, decide_false, if_true, if_false, reduceCtorEq, cond_true, cond_false, lv, cc]
    rw [List.take_of_length_le (by omega)] at hr
    exact kk w1 hb hr
  | succ d ih =>
    intro m i w1 hi hm hb hr
    obtain ⟨m, rfl⟩ : ∃ x, m = x + 1 := ⟨m - 1, by omega⟩
    show f102_b2 f102_j1 _ _ _ _ _ w1 Q
    unfold f102_b2
    have lv := rdI_lnl hl
    rw [List.length_map] at lv
    have cc : (i : Int) < (l.length : Nat) := by omega
    have hil : i < l.length := by omega
    have h3 : IntKind.i64.wrap ((i : Int) + 1) = ((i + 1 : Nat) : Int) := by rw [w64 (by omega) (by omega)]; rfl
    obtain ⟨a1, j1', ja1⟩ := rdI_at (rdI_below hb hl) (i := i) (by rw [List.length_map]; exact hil)
    rw [List.getElem_map] at j1'
    have j1'' : (drw w1).cell? a1 = some (.int .i64 ((l[i] : Nat) : Int)) := j1'
    have hln : l[i] < N := hlt _ (List.getElem_mem hil)
    have hts : l.take (i + 1) = l.take i ++ [l[i]] := List.take_succ_eq_append_getElem hil
    generalize l[i] = n at *
    have h1 := (h.below hb).drw
    obtain ⟨ga, ha1, ha2, ha3⟩ := h1.at (i := n) (by omega)
    have c1 : (drw w1).cell? ⟨r, 1, none⟩ = some vn := h1.c1
    have c1' : w1.cell? ⟨r, 1, none⟩ = some vn := h1.c1
    have q0 : (drw w1).cell? ⟨rq, 0, none⟩ = some uq := hr.c0
    have q0' : w1.cell? ⟨rq, 0, none⟩ = some uq := hr.c0
    have ha2' : w1.cell? ⟨ga, n, none⟩ = some (.string (X.now.getD n ⟨#[]⟩)) := ha2
    try simp only [↓reduceIte, ↓LL, LM, Value.cells, Nat.reduceAdd, Option.some.injEq, exists_eq_left', decide_true, decide_false, if_true, if_false, reduceCtorEq, cond_true, cond_false, lv, cc, q0, q0', ja1, j1', j1'', c1, c1', ha3, ha2, ha2']
    refine ia_stV (w := drw w1) (show ownV W.heap.size 9 (drw w1) uq _ from hr.hu) (i := n) (by rw [List.length_map, stD_len]; omega) rfl fun w3 g3 hg3 o3 up3 => ?_
    have es3 : ((stD X L (l.take i)).map Value.string).set n (.string (X.now.getD n ⟨#[]⟩)) = (stD X L (l.take (i + 1))).map .string := by rw [hts, stD_snoc, List.map_set]
    rw [es3] at o3
    have hr3 : w3.heap[rq]? = some (.cells #[uq] 102 (0, 0)) := by rw [up3.block rq (fun e => (hq g3 hg3).2 e.symm)]; exact hr.hr
    try simp only [↓reduceIte, ↓LL, LM, Value.cells, Nat.reduceAdd, Option.some.injEq, exists_eq_left', decide_true, decide_false, if_true, if_false, reduceCtorEq, cond_true, cond_false, h3]
    refine ih m (i + 1) w3 (by omega) (by omega) ?_ ⟨hrq, hr3, o3⟩
    have bd : Below W.heap.size W (drw w1) := ⟨hb.os, hb.tape, hb.output, hb.size, hb.block⟩
    exact bd.trans (up3.below (hq g3 hg3).1)
theorem f102_s (h : R8 B w r vb vn vo vs X) (ok : Ok8 X N) (hp : RfAt B w rp up L) (hL : L.length = N) (hB : B ≤ w.heap.size)
    (kk : ∀ w' rp' up', R8 B w' r vb vn vo vs (cmX X) → RfAt B w' rp' up' (cmL X L) → (∀ k, fpR rp' up' k → fpR rp up k ∨ w.heap.size ≤ k) → ChgS (fp8 r vb vn vo vs) w w' → (cmE8 X ≠ 0 → rp' = rp) → Q (.tuple #[pv rp', .int .i64 (cmE8 X)]) w') : f102 (pv r) (pv rp) w Q := by
  unfold f102
  have c3 := h.c3
  have len := ok.len
  have l1 := ok.l1
  have l2 := ok.l2
  cases ho : X.ov with
  | true =>
    rw [ho] at c3
    have e1 : cmE8 X = 13 := by unfold cmE8; rw [if_pos ho]
    have e2 : cmX X = X := by unfold cmX; rw [if_neg (by rw [e1]; decide)]
    have e3 : cmL X L = L := by unfold cmL; rw [if_neg (by rw [e1]; decide)]
    rw [e1, e2, e3] at kk
    try simp only [↓reduceIte, ↓LL, LM, Value.cells, Nat.reduceAdd, Option.some.injEq, exists_eq_left', decide_true, decide_false, if_true, if_false, reduceCtorEq, cond_true, cond_false, c3]
    exact kk w rp up h hp (fun k hk => .inl hk) (ChgS.refl _ _) (fun _ => rfl)
  | false =>
    rw [ho] at c3
    have hov : ¬ X.ov = true := by rw [ho]; intro h; cases h
    try simp only [↓reduceIte, ↓LL, LM, Value.cells, Nat.reduceAdd, Option.some.injEq, exists_eq_left', decide_true, decide_false, if_true, if_false, reduceCtorEq, cond_true, cond_false, c3]
    refine f63_s h ok fun w2 v2 b2 o2 => ?_
    have h2 := h.below b2
    have hp2 := hp.below b2
    have lv := rdI_lnl (ownI_rd o2)
    rw [List.length_map] at lv
    have ech : ch8 X = chL X N := by unfold ch8; rw [if_neg hov, len]
    by_cases cg : 31 < (ch8 X).length
    · have e1 : cmE8 X = 3 := by unfold cmE8; rw [if_neg hov, if_pos cg]
      have e2 : cmX X = X := by unfold cmX; rw [if_neg (by rw [e1]; decide)]
      have e3 : cmL X L = L := by unfold cmL; rw [if_neg (by rw [e1]; decide)]
      rw [e1, e2, e3] at kk
      have g1 : (((ch8 X).length : Nat) : Int) > 31 := by omega
      have g2 : (31 : Int) < (((ch8 X).length : Nat) : Int) := by omega
      try simp only [↓reduceIte, ↓LL, LM, Value.cells, Nat.reduceAdd, Option.some.injEq, exists_eq_left', decide_true, decide_false, if_true, if_false, reduceCtorEq, cond_true, cond_false, lv, g1, g2]
      exact kk w2 rp up h2 hp2 (fun k hk => .inl hk) (ChgS.of_below b2) (fun _ => rfl)
    · have e1 : cmE8 X = 0 := by unfold cmE8; rw [if_neg hov, if_neg cg]
      have e2 : cmX X = { X with ov := true } := by unfold cmX; rw [if_pos e1]
      have e3 : cmL X L = stD X L (ch8 X) := by unfold cmL; rw [if_pos e1]
      rw [e1, e2, e3] at kk
      have g1 : ¬ (((ch8 X).length : Nat) : Int) > 31 := by omega
      have g2 : ¬ (31 : Int) < (((ch8 X).length : Nat) : Int) := by omega
      have p0 := hp2.c0
      try simp only [↓reduceIte, ↓LL, LM, Value.cells, Nat.reduceAdd, Option.some.injEq, exists_eq_left', decide_true, decide_false, if_true, if_false, reduceCtorEq, cond_true, cond_false, lv, g1, g2, p0]
      refine cpS hp2.hu (by omega) fun v3 w3 o3 b3 => ?_
      obtain ⟨p3, cc3, e3⟩ := ownV_len o3
      subst e3
      rw [smr_run (buildR6 _ _ _ w3)]
      have b4 := b_psh w3 (.cells #[.slice p3 (L.map Value.string).length cc3] 102)
      have k4 := blk_psh_new (w := w3) (o := .cells #[.slice p3 (L.map Value.string).length cc3] 102)
      try simp only [↓reduceIte, ↓LL, LM, Value.cells, Nat.reduceAdd, Option.some.injEq, exists_eq_left', decide_true, decide_false, if_true, if_false, reduceCtorEq, cond_true, cond_false]
      generalize psh w3 (.cells #[.slice p3 (L.map Value.string).length cc3] 102) = w4 at *
      have o4 := ownV_below o3 b4
      have b24 := bt b3 b4
      have h4 := h2.below b24
      have z23 := b3.size
      have z34 := b4.size
      have f3 := ownV_lt o3
      have rd4 : rdI .i64 w4 v2 ((ch8 X).map fun (j : Nat) => (j : Int)) := rdI_below b24 (ownI_rd o2)
      -- the row made here lies above w2: a world cut there
      have hall : ∀ j ∈ ch8 X, j < N := by rw [ech]; exact chL_lt X N
      generalize hvq : (Value.slice p3 (L.map Value.string).length cc3) = uq at *
      have hcl : (ch8 X).length ≤ 1000 := by omega
      exact ⟨_, cmt8_loop h2 ok (ownI_rd o2) hall hcl hL (fun g hg => ⟨(f3 g hg).1, by have := (f3 g hg).2.1; omega⟩) z23 (fun w5 b5 hr5 => by
        unfold f102_j1
        try simp only [↓reduceIte, ↓LL, LM, Value.cells, Nat.reduceAdd, Option.some.injEq, exists_eq_left', decide_true, decide_false, if_true, if_false, reduceCtorEq, cond_true, cond_false]
        have h5 := h2.below b5
        have hr := h5.hr
        rw [ho] at hr
        refine st_box (o := 3) (v := .bool true) hr (by show 3 < 4; decide) rfl fun w6 hr6 u6 => ?_
        have hr6 : w6.heap[r]? = some (.cells #[vb, vn, vo, .bool true] 151 (0, 0)) := hr6
        have hc6 : ChgS (fun k => k = r) w5 w6 := ChgS.of_upd u6 rfl
        have nr : ∀ {e : TypeId} {v : Value} {ys : List Value} {B' : Nat}, e ≠ 151 → ownV B' e w5 v ys → ∀ g, v.ownBlock = some g → ¬ g = r := fun he ho g hg e => by
          obtain ⟨_, _, cur, hcur⟩ := ownV_lt ho g hg
          rw [e] at hcur
          exact he (ty_ne hcur hr)
        try simp only [↓reduceIte, ↓LL, LM, Value.cells, Nat.reduceAdd, Option.some.injEq, exists_eq_left', decide_true, decide_false, if_true, if_false, reduceCtorEq, cond_true, cond_false]
        have rlt := h2.hrlt
        refine kk w6 w3.heap.size uq ⟨h.rB, hr6, ownV_chg h5.hb hc6 (nr (by decide) h5.hb), ownV_chg h5.hn hc6 (nr (by decide) h5.hn), ownV_chg h5.ho hc6 (nr (by decide) h5.ho), h5.hl, fun i v l e1 e2 => ownV_chg (h5.hv i v l e1 e2) hc6 (nr (by decide) (h5.hv i v l e1 e2)), h5.sb, h5.sv⟩ ((hr5.weak (Nat.le_trans hB b2.size)).chg hc6 fun k hk e => ?_) (fun k hk => ?_) ?_ (fun hne => absurd rfl hne)
        · rw [e] at hk
          rcases hk with hk | hk
          · omega
          · have := (f3 r hk).1
            omega
        · have z2 := b2.size
          rcases hk with hk | hk
          · exact .inr (by omega)
          · have := (f3 k hk).1
            exact .inr (by omega)
        · exact ((ChgS.of_below b2).trans (ChgS.of_below b5) fun _ _ h => h).trans (T := fp8 r vb vn vo vs) (hc6.mono fun k hk => .inl hk) fun _ _ h => h) (ch8 X).length ((ch8 X).length + 1) 0 w4 (by omega) (by omega) b24 ⟨by omega, k4, o4⟩⟩
end
end Go.Proofs.YtongpnolikkknaaGreatDoor
