/- The layer undo: which pages may be a directory's; a directory written. -/
import Derived.Test.YtongpnolikkknaaDoorZ1
import Derived.Shelf.Abstract
import Derived.SizedLaws
import Derived.Carry
import Derived.ProofKit
import Derived.JoinedCond
import Derived.Deep.CondSized
import Derived.OpenShut
import Derived.Test.YtongpnolikkknaaDoorTie
import Derived.LaidLaws
import Derived.LaidHandle
import Derived.SevenTiedAt
import Derived.Test.YtongpnolikkknaaDoorCards
import GoSem.PinnedTables
import Derived.LaidEqlPtr
set_option linter.unusedVariables false
set_option linter.unusedSimpArgs false
set_option linter.unusedSectionVars false
set_option maxRecDepth 20000
set_option maxHeartbeats 4000000
namespace Go.Proofs.YtongpnolikkknaaDoor
open Sh RowKit Go.MapKept
theorem rightB_f {l : List Int} {i : Nat} (hi : i < l.length) (h : l[i] < 0 ∨ 65535 < l[i] ∨ l[i] ∈ l.take i) : rightB l = false := by
  refine decide_eq_false fun ⟨h1, h2⟩ => ?_
  have h3 := h2 _ (List.getElem_mem hi)
  rcases h with h | h | h
  · omega
  · omega
  · rw [← List.take_append_drop i l, List.nodup_append, List.drop_eq_getElem_cons hi] at h1
    exact h1.2.2 _ h _ List.mem_cons_self rfl
theorem rightB_t {l : List Int} (h : ∀ i (hi : i < l.length), 0 ≤ l[i] ∧ l[i] ≤ 65535 ∧ ¬ l[i] ∈ l.take i) : rightB l = true := by
  refine decide_eq_true ⟨?_, fun x hx => ?_⟩
  · rw [List.nodup_iff_pairwise_ne, List.pairwise_iff_getElem]
    intro i j hi hj hij e
    refine (h j hj).2.2 ?_
    rw [← e]
    exact List.mem_take_iff_getElem.2 ⟨i, by omega, rfl⟩
  · obtain ⟨i, hi, rfl⟩ := List.mem_iff_getElem.1 hx
    exact ⟨(h i hi).1, (h i hi).2.1⟩
section
variable {W w : World} {Q : Value → World → Prop}
theorem right_loop {v : Value} {l : List Int} {b : Nat} (h : rdI .i64 W v l) (hl : l.length ≤ 140737488355328) (hwf : ∀ x ∈ l, x ≤ 9223372036854775807) (hbB : W.heap.size ≤ b) : ∀ (d m i : Nat) (w : World) (L : List (Int × Value)), i + d = l.length → d < m → Below W.heap.size W w → MapAt kI w b L →
    (∀ k, lk L k = if k ∈ l.take i then some (.int .i64 1) else none) → (∀ j (hj : j < l.length), j < i → 0 ≤ l[j] ∧ l[j] ≤ 65535 ∧ ¬ l[j] ∈ l.take j) →
    (∀ w', Below W.heap.size W w' → Q (.bool (rightB l)) w') →
    itr (fun _ _ _ _ => bot) (f48_b2 f48_j1) m (.map (some b)) v (.int .i64 (l.length : Nat)) (.int .i64 (i : Int)) w Q := by
  intro d
  induction d with
  | zero =>
    intro m i w L hi hm hb hM hL hp kk
    obtain ⟨m, rfl⟩ : ∃ x, m = x + 1 := ⟨m - 1, by omega⟩
    show f48_b2 f48_j1 _ _ _ _ _ w Q
    unfold f48_b2
    have cc : ¬ (i : Int) < (l.length : Nat) := by omega
    try simp only [↓reduceIte, ↓LL, LM, Value.cells, Nat.reduceAdd, Option.some.injEq, exists_eq_left', decide_true, decide_false, if_true, if_false, reduceCtorEq, cond_true, cond_false, cc]
    unfold f48_j1
    try simp only [↓reduceIte, ↓LL, LM, Value.cells, Nat.reduceAdd, Option.some.injEq, exists_eq_left', decide_true, decide_false, if_true, if_false, reduceCtorEq, cond_true, cond_false]
    have := kk w hb
    rw [rightB_t fun j hj => hp j hj (by omega)] at this
    exact this
  | succ d ih =>
    intro m i w L hi hm hb hM hL hp kk
    obtain ⟨m, rfl⟩ : ∃ x, m = x + 1 := ⟨m - 1, by omega⟩
    show f48_b2 f48_j1 _ _ _ _ _ w Q
    unfold f48_b2
    have cc : (i : Int) < (l.length : Nat) := by omega
    have hil : i < l.length := by omega
    have h3 : IntKind.i64.wrap ((i : Int) + 1) = ((i + 1 : Nat) : Int) := by rw [w64 (by omega) (by omega)]; rfl
    try simp only [↓reduceIte, ↓LL, LM, Value.cells, Nat.reduceAdd, Option.some.injEq, exists_eq_left', decide_true, decide_false, if_true, if_false, reduceCtorEq, cond_true, cond_false, cc]
    refine ia_ld (rdI_below hb h) (by omega) (by omega) fun hh => ?_
    have ek : l[((i : Nat) : Int).toNat] = l[i] := by simp
    rw [ek]
    have fal := fun hx => rightB_f hil hx
    have hpi : ∀ (h1 : 0 ≤ l[i] ∧ l[i] ≤ 65535 ∧ ¬ l[i] ∈ l.take i), ∀ j (hj : j < l.length), j < i + 1 → 0 ≤ l[j] ∧ l[j] ≤ 65535 ∧ ¬ l[j] ∈ l.take j := fun h1 j hj hji => by
      rcases Nat.lt_or_ge j i with c | c
      · exact hp j hj c
      · have : j = i := by omega
        subst this; exact h1
    have hts : l.take (i + 1) = l.take i ++ [l[i]] := List.take_succ_eq_append_getElem hil
    have hwx := hwf _ (List.getElem_mem hil)
    generalize l[i] = x at *
    have hlx := hL x
    rw [show (Value.int .i64 x) = kI x from rfl, look_v KKi hM z3 x]
    -- what was counted, one more
    obtain ⟨c, hc1, hc2, hcv⟩ : ∃ c : Int, (lk L x).getD (.int .i64 0) = .int .i64 c ∧ IntKind.i64.wrap (c + 1) = c + 1 ∧ (c = if x ∈ l.take i then 1 else 0) := by
      by_cases hm : x ∈ l.take i
      · rw [if_pos hm] at hlx; exact ⟨1, by rw [hlx]; rfl, rfl, by rw [if_pos hm]⟩
      · rw [if_neg hm] at hlx; exact ⟨0, by rw [hlx]; rfl, rfl, by rw [if_neg hm]⟩
    rw [hc1]
    try simp only [↓reduceIte, ↓LL, LM, Value.cells, Nat.reduceAdd, Option.some.injEq, exists_eq_left', decide_true, decide_false, if_true, if_false, reduceCtorEq, cond_true, cond_false, hc2]
    refine upd_map KKi hM x _ fun w2 hM2 u2 => ?_
    have b2 : Below W.heap.size W w2 := hb.trans (u2.below hbB)
    have f0 := fun hx => by have := kk w2 b2; rw [fal hx] at this; exact this
    have hl2 : lk (put L x (.int .i64 (c + 1))) x = some (.int .i64 (c + 1)) := by rw [lk_put, if_pos rfl]
    have hlook : ∀ (K : Value → M), smr Tryd.prog (Instr.lookup 118 (.map (some b)) (.int .i64 x) false) K w2 Q = K (.int .i64 (c + 1)) w2 Q := fun K => by
      rw [show (Value.int .i64 x) = kI x from rfl, look_v KKi hM2 z3 x, hl2]; rfl
    unfold kI
    by_cases c1 : x < 0
    · try simp only [↓reduceIte, ↓LL, LM, Value.cells, Nat.reduceAdd, Option.some.injEq, exists_eq_left', decide_true, decide_false, if_true, if_false, reduceCtorEq, cond_true, cond_false, c1]
      exact f0 (.inl c1)
    have ex : IntKind.u64.wrap x = ((x.toNat : Nat) : Int) := by rw [wu64 (by omega) (by omega)]; omega
    try simp only [↓reduceIte, ↓LL, LM, Value.cells, Nat.reduceAdd, Option.some.injEq, exists_eq_left', decide_true, decide_false, if_true, if_false, reduceCtorEq, cond_true, cond_false, c1, ex]
    refine f76_s _ (by omega) 2 _ _ ?_
    by_cases c2 : x.toNat < 256 ^ 2
    · have e2 : fitB x.toNat 2 = true := decide_eq_true (by rw [wd2]; exact c2)
      rw [e2]
      by_cases hm : x ∈ l.take i
      · rw [if_pos hm] at hcv
        subst hcv
        have g2 : (1 : Int) < 1 + 1 := by decide
        try simp only [↓reduceIte, ↓LL, LM, Value.cells, Nat.reduceAdd, Option.some.injEq, exists_eq_left', decide_true, decide_false, if_true, if_false, reduceCtorEq, cond_true, cond_false, hlook, g2]
        exact f0 (.inr (.inr hm))
      · rw [if_neg hm] at hcv
        subst hcv
        have g2 : ¬ (1 : Int) < 0 + 1 := by decide
        try simp only [↓reduceIte, ↓LL, LM, Value.cells, Nat.reduceAdd, Option.some.injEq, exists_eq_left', decide_true, decide_false, if_true, if_false, reduceCtorEq, cond_true, cond_false, hlook, g2, h3]
        refine ih m (i + 1) w2 _ (by omega) (by omega) b2 hM2 (fun k => ?_) (hpi ⟨by omega, by omega, hm⟩) kk
        rw [lk_put, hts, hL]
        by_cases hk : k = x
        · subst hk; simp
        · simp [hk]
    · have e2 : fitB x.toNat 2 = false := decide_eq_false (by rw [wd2]; exact c2)
      rw [e2]
      try simp only [↓reduceIte, ↓LL, LM, Value.cells, Nat.reduceAdd, Option.some.injEq, exists_eq_left', decide_true, decide_false, if_true, if_false, reduceCtorEq, cond_true, cond_false]
      exact f0 (.inr (.inl (by omega)))
theorem f48_s {v : Value} {l : List Int} (h : rdI .i64 w v l) (hl : l.length ≤ 140737488355328) (hwf : ∀ x ∈ l, x ≤ 9223372036854775807) (kk : ∀ w', Below w.heap.size w w' → Q (.bool (rightB l)) w') : f48 v w Q := by
  unfold f48
  refine mm_map (kv := kI) fun w1 hM b1 => ?_
  refine lnl_rd h ?_
  try simp only [↓reduceIte, ↓LL, LM, Value.cells, Nat.reduceAdd, Option.some.injEq, exists_eq_left', decide_true, decide_false, if_true, if_false, reduceCtorEq, cond_true, cond_false]
  exact ⟨_, right_loop (W := w) h hl hwf (Nat.le_refl _) l.length (l.length + 1) 0 w1 [] (by omega) (by omega) b1 hM (fun k => by simp [lk]) (fun j hj h => by omega) kk⟩
/-- a directory's bytes -/
def dirL (l : List Int) : List Int := (l.length : Int) :: l.flatMap fun x => nb x.toNat 2
theorem dirL_len (l : List Int) : (dirL l).length = 1 + 2 * l.length := by
  unfold dirL
  rw [List.length_cons]
  have : ∀ l : List Int, (l.flatMap fun x => nb x.toNat 2).length = 2 * l.length := by
    intro l
    induction l with
    | nil => rfl
    | cons x l ih => rw [List.flatMap_cons, List.length_append, nb_len, ih, List.length_cons]; omega
  rw [this]; omega
/-- a directory as a sector, or why not -/
def dirW (l : List Int) : ByteArray × Int := if 31 < l.length then (⟨#[]⟩, 3) else if rightB l = true then ((pad (strOfNums (dirL l))).1, 0) else (⟨#[]⟩, 1)
end
end Go.Proofs.YtongpnolikkknaaDoor

set_option maxRecDepth 20000
set_option maxHeartbeats 4000000
namespace Go.Proofs.YtongpnolikkknaaDoor
open Sh RowKit Go.MapKept
theorem own_ne {w : World} {k : IntKind} {e e2 : TypeId} {B2 : Nat} {u : Value} {l : List Int} {g : Nat} {cur : Array Value} (h : ownI B2 e2 k w u l) (hg : w.heap[g]? = some (.cells cur e (0, 0))) (he : e ≠ e2) : u.ownBlock ≠ some g := by
  intro e'
  obtain ⟨_, h2⟩ := h
  rcases h2 with ⟨rfl, _⟩ | ⟨g', cap, cur', rfl, _, hb, _⟩
  · cases e'
  · cases e'
    rw [hg] at hb
    cases hb
    exact he rfl
/-- so many numbers of two bytes, read -/
def rdN : Nat → ByteArray → Int → List Int × ByteArray × Int
  | 0, t, e => ([], t, e)
  | n + 1, t, e => (((ofB (byL (take t e 2).1) 0 : Nat) : Int) :: (rdN n (take t e 2).2.2.1 (take t e 2).2.2.2).1, (rdN n (take t e 2).2.2.1 (take t e 2).2.2.2).2)
def n1 (s : ByteArray) : Nat := ofB (byL (take s 0 1).1) 0
def rdA (s : ByteArray) : List Int × ByteArray × Int := rdN (n1 s) (take s 0 1).2.2.1 (take s 0 1).2.2.2
def blank (s : ByteArray) : Bool := (byL s).all fun x => decide (x = 0)
/-- is it a directory? -/
def dirB (s : ByteArray) : Bool := decide ((rdA s).2.2 = 0 ∧ n1 s ≤ 31 ∧ rightB (rdA s).1 = true ∧ s.size = 64 ∧ blank (take (rdA s).2.1 (rdA s).2.2 (rdA s).2.1.size).1 = true)
theorem ofB_lt : ∀ (l : List Int) (n k : Nat), (∀ x ∈ l, 0 ≤ x ∧ x ≤ 255) → n < 256 ^ k → ofB l n < 256 ^ (k + l.length)
  | [], n, k, _, h => by simpa [ofB] using h
  | x :: r, n, k, hb, h => by
    have hx := hb x (by simp)
    have := ofB_lt r (256 * n + x.toNat) (k + 1) (fun y hy => hb y (by simp [hy])) (by rw [Nat.pow_succ]; omega)
    rw [List.length_cons, show k + (r.length + 1) = k + 1 + r.length from by omega]
    exact this
theorem take_lt (s : ByteArray) (e : Int) (k : Nat) : ofB (byL (take s e k).1) 0 < 256 ^ k := by
  have h1 := ofB_lt (byL (take s e k).1) 0 0 (fun x hx => byL_nn hx) (by simp)
  rw [Nat.zero_add, byL_len] at h1
  exact Nat.lt_of_lt_of_le h1 (Nat.pow_le_pow_right (by decide) (take_size s e k))
theorem n1_lt (s : ByteArray) : n1 s < 256 := by have := take_lt s 0 1; simpa [n1] using this
theorem rdN_len : ∀ (n : Nat) (t : ByteArray) (e : Int), (rdN n t e).1.length = n
  | 0, _, _ => rfl
  | n + 1, t, e => by simp [rdN, rdN_len n]
theorem take_rest (s : ByteArray) (e : Int) (k : Nat) : (take s e k).2.2.1.size ≤ s.size := by
  unfold take
  by_cases h : e = 0
  · rw [if_pos h]
    by_cases h2 : s.size < k
    · rw [if_pos h2]; exact Nat.le_refl _
    · rw [if_neg h2]
      show (s.extract k s.size).size ≤ s.size
      rw [ByteArray.size_extract]; omega
  · rw [if_neg h]; exact Nat.le_refl _
theorem rdN_rest : ∀ (n : Nat) (t : ByteArray) (e : Int), (rdN n t e).2.1.size ≤ t.size
  | 0, _, _ => Nat.le_refl _
  | n + 1, t, e => Nat.le_trans (rdN_rest n _ _) (take_rest t e 2)
theorem rdN_bd : ∀ (n : Nat) (t : ByteArray) (e : Int), ∀ x ∈ (rdN n t e).1, 0 ≤ x ∧ x ≤ 65535
  | 0, _, _, x, h => by simp [rdN] at h
  | n + 1, t, e, x, h => by
    simp only [rdN] at h
    rcases List.mem_cons.1 h with rfl | h
    · have := take_lt t e 2; omega
    · exact rdN_bd n _ _ x h
theorem trim_blank (s : ByteArray) : (⟨(Lib.trimB s.data.toList 0).toArray⟩ : ByteArray) = ⟨#[]⟩ ↔ blank s = true := by
  have hb : blank s = true ↔ ∀ b ∈ s.data.toList, b = 0 := by
    unfold blank byL
    rw [List.all_map, List.all_eq_true]
    constructor
    · intro h b hb
      have := of_decide_eq_true (h b hb)
      exact UInt8.toNat_inj.1 (by simpa using this)
    · intro h b hb
      rw [h b hb]; rfl
  rw [hb]
  have hdw : ∀ l : List UInt8, l.dropWhile (· == 0) = [] ↔ ∀ b ∈ l, b = 0 := by
    intro l
    induction l with
    | nil => simp
    | cons x l ih =>
      rw [List.dropWhile_cons]
      by_cases hx : x = 0
      · simp [hx, ih]
      · simp [hx]
  have key : Lib.trimB s.data.toList 0 = [] ↔ ∀ b ∈ s.data.toList, b = 0 := by
    unfold Lib.trimB Lib.trimLeftB Lib.trimRightB
    rw [hdw]
    constructor
    · intro h
      have h2 : (s.data.toList.reverse.dropWhile (· == 0)) = [] := by
        cases e : s.data.toList.reverse.dropWhile (· == 0) with
        | nil => rfl
        | cons x r =>
          exfalso
          have hx : x = 0 := h x (by rw [e]; simp)
          have := List.head_dropWhile_not (p := fun b : UInt8 => b == 0) (l := s.data.toList.reverse) (by rw [e]; simp)
          simp only [e, List.head_cons] at this
          rw [hx] at this
          simp at this
      intro b hb
      exact (hdw _).1 h2 b (List.mem_reverse.2 hb)
    · intro h b hb
      have : b ∈ s.data.toList.reverse := (List.dropWhile_sublist _).subset (List.mem_reverse.1 hb)
      exact h b (List.mem_reverse.1 this)
  rw [← key]
  constructor
  · intro h
    have := congrArg (fun s => s.data.toList) h
    simpa using this
  · intro h
    rw [h]
section
variable {W w : World} {Q : Value → World → Prop}
theorem trim_s {s : ByteArray} {K : Value → M} (hs : s.size ≤ 9223372036854775807) (kk : ∀ w' t, (t = ⟨#[]⟩ ↔ blank s = true) → Below w.heap.size w w' → K (.string t) w' Q) : cc Tryd.prog 58 #[.string s, .string ⟨#[0]⟩] K w Q := by
  refine cc_of (Tryd.strings_Trim_one s 0 (by decide) w hs) fun e w' h => ?_
  obtain ⟨h1, h2⟩ := h
  refine ⟨_, h1, kk w' _ (trim_blank s) ?_⟩
  rcases h2 with rfl | rfl
  · exact Below.refl _ _
  · exact ⟨rfl, rfl, rfl, Nat.le_refl _, fun _ _ => rfl⟩
theorem read_loop {sv : Value} {p n : Nat} {nv : Value} (hpB : W.heap.size ≤ p) (hn : n ≤ 255) {j1 : Value → Value → Value → Value → M} : ∀ (d m i : Nat) (w : World) (u : Value) (acc : List Int) (t : ByteArray) (e : Int), i + d = n → d < m → Below W.heap.size W w → ownI W.heap.size 3 .i64 w u acc → acc.length = i →
    w.heap[p]? = some (.cells (rC t e) 122 (0, 0)) →
    (∀ w' u', Below W.heap.size W w' → ownI W.heap.size 3 .i64 w' u' (acc ++ (rdN d t e).1) → w'.heap[p]? = some (.cells (rC (rdN d t e).2.1 (rdN d t e).2.2) 122 (0, 0)) → j1 sv (.pointer (some ⟨p, 0, none⟩)) u' nv w' Q) →
    itr (fun _ _ _ _ _ _ => bot) (f15_b2 j1) m sv (.pointer (some ⟨p, 0, none⟩)) u nv (.int .u64 (n : Int)) (.int .u64 (i : Int)) w Q := by
  intro d
  induction d with
  | zero =>
    intro m i w u acc t e hi hm hb ho hl hp kk
    obtain ⟨m, rfl⟩ : ∃ x, m = x + 1 := ⟨m - 1, by omega⟩
    show f15_b2 j1 _ _ _ _ _ _ _ w Q
    unfold f15_b2
    have cc : ¬ (i : Int) < (n : Int) := by omega
    try simp only [↓reduceIte, ↓LL, LM, Value.cells, Nat.reduceAdd, Option.some.injEq, exists_eq_left', decide_true, decide_false, if_true, if_false, reduceCtorEq, cond_true, cond_false, cc]
    exact kk w u hb (by simpa [rdN] using ho) hp
  | succ d ih =>
    intro m i w u acc t e hi hm hb ho hl hp kk
    obtain ⟨m, rfl⟩ : ∃ x, m = x + 1 := ⟨m - 1, by omega⟩
    show f15_b2 j1 _ _ _ _ _ _ _ w Q
    unfold f15_b2
    have cc : (i : Int) < (n : Int) := by omega
    have h3 : IntKind.u64.wrap ((i : Int) + 1) = ((i + 1 : Nat) : Int) := by rw [wu64 (by omega) (by omega)]; rfl
    try simp only [↓reduceIte, ↓LL, LM, Value.cells, Nat.reduceAdd, Option.some.injEq, exists_eq_left', decide_true, decide_false, if_true, if_false, reduceCtorEq, cond_true, cond_false, cc]
    refine f54_s p t e 2 w _ hp fun w1 hp1 c1 => ?_
    have hlt := take_lt t e 2
    have e2 : (wd 2).toNat = 2 := rfl
    rw [e2] at hp1 ⊢
    have e3 : IntKind.i64.wrap ((ofB (byL (take t e 2).1) 0 : Nat) : Int) = ((ofB (byL (take t e 2).1) 0 : Nat) : Int) := w64 (by omega) (by omega)
    have hne := own_ne ho hp (by decide)
    have o1 := ownI_chg ho c1 hne
    have b1 : Below W.heap.size W w1 := bc hb hpB hb.size c1
    try simp only [↓reduceIte, ↓LL, LM, Value.cells, Nat.reduceAdd, Option.some.injEq, exists_eq_left', decide_true, decide_false, if_true, if_false, reduceCtorEq, cond_true, cond_false, e3]
    refine ap_one slt22 o1 (by omega) (by omega) b1.size fun u' w2 o2 b2 _ st2 => ?_
    have hne1 := own_ne o1 hp1 (by decide)
    have hp2 := st2 p _ hp1 hne1
    try simp only [↓reduceIte, ↓LL, LM, Value.cells, Nat.reduceAdd, Option.some.injEq, exists_eq_left', decide_true, decide_false, if_true, if_false, reduceCtorEq, cond_true, cond_false, h3]
    refine ih m (i + 1) w2 u' _ _ _ (by omega) (by omega) (b1.trans b2) o2 (by simp [hl]) hp2 fun w' u' b' o' p' => ?_
    refine kk w' u' b' ?_ p'
    rw [List.append_assoc] at o'
    exact o'
theorem f15_s {s : ByteArray} (hs : s.size ≤ 9223372036854775807) (kk : ∀ w', Below w.heap.size w w' → dirB s = false → Q (.tuple #[.slice none 0 0, .int .i64 10]) w') (k0 : ∀ w' u, Below w.heap.size w w' → dirB s = true → ownI w.heap.size 3 .i64 w' u (rdA s).1 → Q (.tuple #[u, .int .i64 0]) w') : f15 (.string s) w Q := by
  unfold f15
  try simp only [↓reduceIte, ↓LL, LM, Value.cells, Nat.reduceAdd, Option.some.injEq, exists_eq_left', decide_true, decide_false, if_true, if_false, reduceCtorEq, cond_true, cond_false]
  refine f53_s s w _ fun p w1 hpe hp1 b1 => ?_
  try simp only [↓reduceIte, ↓LL, LM, Value.cells, Nat.reduceAdd, Option.some.injEq, exists_eq_left', decide_true, decide_false, if_true, if_false, reduceCtorEq, cond_true, cond_false]
  refine f54_s p s 0 1 w1 _ hp1 fun w2 hp2 c2 => ?_
  have e1 : (wd 1).toNat = 1 := rfl
  rw [e1] at hp2 ⊢
  have hpB : w.heap.size ≤ p := by omega
  have b2 : Below w.heap.size w w2 := bc b1 hpB b1.size c2
  have hn1 := n1_lt s
  try simp only [↓reduceIte, ↓LL, LM, Value.cells, Nat.reduceAdd, Option.some.injEq, exists_eq_left', decide_true, decide_false, if_true, if_false, reduceCtorEq, cond_true, cond_false]
  have := read_loop (W := w) (Q := Q) (sv := .string s) (p := p) (n := n1 s) (nv := .int .u64 ((n1 s : Nat) : Int)) (j1 := f15_j1) hpB (by omega) (n1 s) (n1 s + 1) 0 w2 (.slice none 0 0) [] (take s 0 1).2.2.1 (take s 0 1).2.2.2 (by omega) (by omega) b2 ownI_nil rfl hp2 fun w3 u3 b3 o3 hp3 => ?_
  · exact ⟨_, this⟩
  rw [List.nil_append] at o3
  have hp3 : w3.heap[p]? = some (.cells (rC (rdA s).2.1 (rdA s).2.2) 122 (0, 0)) := hp3
  have o3 : ownI w.heap.size 3 .i64 w3 u3 (rdA s).1 := o3
  have hl3 : (rdA s).1.length = n1 s := rdN_len _ _ _
  have hbd : ∀ x ∈ (rdA s).1, 0 ≤ x ∧ x ≤ 65535 := rdN_bd _ _ _
  unfold f15_j1
  try simp only [↓reduceIte, ↓LL, LM, Value.cells, Nat.reduceAdd, Option.some.injEq, exists_eq_left', decide_true, decide_false, if_true, if_false, reduceCtorEq, cond_true, cond_false]
  refine f56_s p _ _ w3 _ hp3 ?_
  try simp only [↓reduceIte, ↓LL, LM, Value.cells, Nat.reduceAdd, Option.some.injEq, exists_eq_left', decide_true, decide_false, if_true, if_false, reduceCtorEq, cond_true, cond_false]
  refine f55_s p _ _ _ w3 _ hp3 fun w4 hp4 c4 => ?_
  rw [Int.toNat_natCast] at hp4 ⊢
  have b4 : Below w.heap.size w w4 := bc b3 hpB b3.size c4
  have o4 := ownI_chg o3 c4 (own_ne o3 hp3 (by decide))
  have esz : ∀ (t : ByteArray) (e : Int), (take t e t.size).2.2.2 = e := fun t e => by
    unfold take
    by_cases h : e = 0
    · rw [if_pos h, if_neg (by omega)]; exact h.symm
    · rw [if_neg h]
  rw [esz] at hp4
  try simp only [↓reduceIte, ↓LL, LM, Value.cells, Nat.reduceAdd, Option.some.injEq, exists_eq_left', decide_true, decide_false, if_true, if_false, reduceCtorEq, cond_true, cond_false]
  refine f57_s p _ _ w4 _ hp4 ?_
  have kf := fun w' hb => kk w' hb
  by_cases z1 : (rdA s).2.2 = 0
  rotate_left
  · try simp only [↓reduceIte, ↓LL, LM, Value.cells, Nat.reduceAdd, Option.some.injEq, exists_eq_left', decide_true, decide_false, if_true, if_false, reduceCtorEq, cond_true, cond_false, z1, ne_eq]
    exact kk w4 b4 (decide_eq_false fun h => z1 h.1)
  by_cases z2 : n1 s ≤ 31
  rotate_left
  · have z2' : (31 : Int) < ((n1 s : Nat) : Int) := by omega
    try simp only [↓reduceIte, ↓LL, LM, Value.cells, Nat.reduceAdd, Option.some.injEq, exists_eq_left', decide_true, decide_false, if_true, if_false, reduceCtorEq, cond_true, cond_false, z1, z2', ne_eq]
    exact kk w4 b4 (decide_eq_false fun h => z2 h.2.1)
  have z2' : ¬ (31 : Int) < ((n1 s : Nat) : Int) := by omega
  try simp only [↓reduceIte, ↓LL, LM, Value.cells, Nat.reduceAdd, Option.some.injEq, exists_eq_left', decide_true, decide_false, if_true, if_false, reduceCtorEq, cond_true, cond_false, z1, z2', ne_eq]
  refine f48_s (ownI_rd o4) (by omega) (fun x hx => by have := hbd x hx; omega) fun w5 b5 => ?_
  have b45 := bt b4 b5
  cases z3 : rightB (rdA s).1 with
  | false =>
    try simp only [↓reduceIte, ↓LL, LM, Value.cells, Nat.reduceAdd, Option.some.injEq, exists_eq_left', decide_true, decide_false, if_true, if_false, reduceCtorEq, cond_true, cond_false]
    exact kk w5 b45 (decide_eq_false fun h => by rw [z3] at h; cases h.2.2.1)
  | true =>
    by_cases z4 : s.size = 64
    rotate_left
    · have z4' : ¬ ((s.size : Nat) : Int) = 64 := by omega
      try simp only [↓reduceIte, ↓LL, LM, Value.cells, Nat.reduceAdd, Option.some.injEq, exists_eq_left', decide_true, decide_false, if_true, if_false, reduceCtorEq, cond_true, cond_false, z4', ne_eq]
      exact kk w5 b45 (decide_eq_false fun h => z4 h.2.2.2.1)
    have z4' : ((s.size : Nat) : Int) = 64 := by omega
    try simp only [↓reduceIte, ↓LL, LM, Value.cells, Nat.reduceAdd, Option.some.injEq, exists_eq_left', decide_true, decide_false, if_true, if_false, reduceCtorEq, cond_true, cond_false, z4', ne_eq]
    have hts := take_size (rdA s).2.1 0 (rdA s).2.1.size
    refine trim_s (Nat.le_trans hts (Nat.le_trans (rdN_rest _ _ _) (Nat.le_trans (take_rest _ _ _) hs))) fun w6 t ht b6' => ?_
    have b6 := bt b45 b6'
    by_cases z5 : t = ⟨#[]⟩
    · try simp only [↓reduceIte, ↓LL, LM, Value.cells, Nat.reduceAdd, Option.some.injEq, exists_eq_left', decide_true, decide_false, if_true, if_false, reduceCtorEq, cond_true, cond_false, z5, ne_eq]
      refine k0 w6 u3 b6 ?_ (ownI_below (ownI_below o4 b5) b6')
      exact decide_eq_true ⟨z1, z2, z3, z4, by rw [z1]; exact ht.1 z5⟩
    · try simp only [↓reduceIte, ↓LL, LM, Value.cells, Nat.reduceAdd, Option.some.injEq, exists_eq_left', decide_true, decide_false, if_true, if_false, reduceCtorEq, cond_true, cond_false, z5, ne_eq]
      exact kk w6 b6 (decide_eq_false fun h => z5 (ht.2 (by have := h.2.2.2.2; rw [z1] at this; exact this)))
end
end Go.Proofs.YtongpnolikkknaaDoor

set_option maxRecDepth 20000
namespace Go.Proofs.YtongpnolikkknaaDoor
open Sh RowKit

def qC (s : ByteArray) (a : Int) (e : Int) : Array Value := #[.string s, .int .i64 a, .int .i64 e]
/-- where the two readers stand alike -/
structure Alike (w : World) (p q : Nat) (s : ByteArray) (a : Nat) (e : Int) : Prop where
  hp : w.heap[p]? = some (.cells (rC (s.extract a s.size) e) 122 (0, 0))
  hq : w.heap[q]? = some (.cells (qC s a e) 87 (0, 0))
  le : a ≤ s.size
end Go.Proofs.YtongpnolikkknaaDoor

set_option maxRecDepth 20000
set_option maxHeartbeats 4000000
namespace Go.Proofs.YtongpnolikkknaaDoor
open Sh RowKit Go.MapKept
/-- pairs of bytes as numbers -/
def prs : Nat → List Int → List Int
  | 0, _ => []
  | n + 1, x :: y :: r => (256 * x + y) :: prs n r
  | n + 1, [x] => x :: prs n []
  | n + 1, [] => 0 :: prs n []
theorem prs_len : ∀ (n : Nat) (l : List Int), (prs n l).length = n
  | 0, _ => rfl
  | n + 1, x :: y :: r => by simp [prs, prs_len n]
  | n + 1, [x] => by simp [prs, prs_len n]
  | n + 1, [] => by simp [prs, prs_len n]
theorem nb2 {x y : Int} (hx : 0 ≤ x ∧ x ≤ 255) (hy : 0 ≤ y ∧ y ≤ 255) : nb (256 * x + y).toNat 2 = [x, y] := by
  simp only [nb]
  congr 1
  · have : (256 * x + y).toNat / 256 ^ 1 % 256 = x.toNat := by omega
    rw [this]; omega
  · congr 1
    have : (256 * x + y).toNat / 256 ^ 0 % 256 = y.toNat := by omega
    rw [this]; omega
theorem prs_flat : ∀ (n : Nat) (l : List Int), 2 * n ≤ l.length → (∀ x ∈ l, 0 ≤ x ∧ x ≤ 255) → (prs n l).flatMap (fun x => nb x.toNat 2) = l.take (2 * n)
  | 0, _, _, _ => by simp [prs]
  | n + 1, x :: y :: r, hl, hb => by
    have h := prs_flat n r (by simp at hl; omega) (fun z hz => hb z (by simp [hz]))
    rw [show 2 * (n + 1) = 2 * n + 1 + 1 from by omega, List.take_succ_cons, List.take_succ_cons, ← h]
    show nb (256 * x + y).toNat 2 ++ _ = _
    rw [nb2 (hb x (by simp)) (hb y (by simp))]; rfl
  | n + 1, [x], hl, _ => by simp at hl; omega
  | n + 1, [], hl, _ => by simp at hl
theorem ofB1 (x : Int) (h : 0 ≤ x) : ((ofB [x] 0 : Nat) : Int) = x := by simp [ofB]; omega
theorem ofB2 (x y : Int) (hx : 0 ≤ x) (hy : 0 ≤ y) : ((ofB [x, y] 0 : Nat) : Int) = 256 * x + y := by simp [ofB]; omega
theorem take_ok {t : ByteArray} {k : Nat} (h : k ≤ t.size) : take t 0 k = (t.extract 0 k, true, t.extract k t.size, 0) := by
  unfold take; rw [if_pos rfl, if_neg (by omega)]
theorem take_bad {t : ByteArray} {k : Nat} (h : t.size < k) : take t 0 k = (nos, false, t, 2) := by
  unfold take; rw [if_pos rfl, if_pos h]
theorem take_err {t : ByteArray} {e : Int} {k : Nat} (h : e ≠ 0) : take t e k = (nos, false, t, e) := by
  unfold take; rw [if_neg h]
theorem rdN_err : ∀ (n : Nat) (t : ByteArray) (e : Int), e ≠ 0 → (rdN n t e).2.2 = e
  | 0, _, _, _ => rfl
  | n + 1, t, e, h => by simp only [rdN]; rw [take_err h]; exact rdN_err n t e h
theorem rdN_bad : ∀ (n : Nat) (t : ByteArray), t.size < 2 * n → (rdN n t 0).2.2 ≠ 0
  | 0, _, h => by omega
  | n + 1, t, h => by
    simp only [rdN]
    rcases Nat.lt_or_ge t.size 2 with c | c
    · rw [take_bad c]
      show (rdN n t 2).2.2 ≠ 0
      rw [rdN_err n t 2 (by decide)]; decide
    · rw [take_ok c]
      exact rdN_bad n (t.extract 2 t.size) (by rw [ByteArray.size_extract]; omega)
theorem rdN_ok : ∀ (n : Nat) (t : ByteArray), 2 * n ≤ t.size → rdN n t 0 = (prs n (byL t), t.extract (2 * n) t.size, 0)
  | 0, t, _ => by
    have : t.extract (2 * 0) t.size = t := by apply byL_inj; rw [byL_take, List.take_of_length_le (by rw [byL_len]; omega)]; rfl
    rw [this]; rfl
  | n + 1, t, h => by
    simp only [rdN]
    rw [take_ok (by omega)]
    have ih := rdN_ok n (t.extract 2 t.size) (by rw [ByteArray.size_extract]; omega)
    simp only [ih]
    have e1 : byL (t.extract 0 2) = (byL t).take 2 := by rw [byL_take]; rfl
    have e2 : byL (t.extract 2 t.size) = (byL t).drop 2 := by rw [byL_take, List.take_of_length_le (by rw [byL_len]; omega)]
    have e3 : (t.extract 2 t.size).extract (2 * n) (t.extract 2 t.size).size = t.extract (2 * (n + 1)) t.size := by
      apply byL_inj
      rw [byL_take, e2, byL_take, List.take_of_length_le (by rw [List.length_drop, byL_len, ByteArray.size_extract]; omega), List.take_of_length_le (by rw [byL_len]; omega), List.drop_drop]
      congr 1
      omega
    rw [e1, e2, e3]
    have hl : (byL t).length = t.size := byL_len t
    have hb : ∀ x ∈ byL t, 0 ≤ x ∧ x ≤ 255 := fun x hx => byL_nn hx
    cases hbt : byL t with
    | nil => rw [hbt] at hl; simp at hl; omega
    | cons x r =>
      cases r with
      | nil => rw [hbt] at hl; simp at hl; omega
      | cons y r =>
        rw [hbt] at hb
        have h1 := hb x (by simp)
        have h2 := hb y (by simp)
        simp only [List.take_succ_cons, List.take_zero, List.drop_succ_cons, List.drop_zero, prs]
        rw [ofB2 x y h1.1 h2.1]
/-- as many pages as are said are there -/
def fitsD (s : ByteArray) : Prop := 1 + 2 * n1 s ≤ s.size
def lst (s : ByteArray) : List Int := prs (n1 s) ((byL s).drop 1)
theorem n1_get {s : ByteArray} (h : 0 < s.size) : ∃ x r, byL s = x :: r ∧ x = (n1 s : Int) := by
  have hl : (byL s).length = s.size := byL_len s
  cases hb : byL s with
  | nil => rw [hb] at hl; simp at hl; omega
  | cons x r =>
    refine ⟨x, r, rfl, ?_⟩
    unfold n1
    rw [take_ok (by omega)]
    have e1 : byL (s.extract 0 1) = (byL s).take 1 := by rw [byL_take]; rfl
    simp only
    rw [e1, hb]
    have := byL_nn (s := s) (x := x) (by rw [hb]; simp)
    rw [List.take_succ_cons, List.take_zero, ofB1 x this.1]
theorem rdA_ok {s : ByteArray} (h : fitsD s) : rdA s = (lst s, s.extract (1 + 2 * n1 s) s.size, 0) := by
  unfold fitsD at h
  unfold rdA lst
  have e2 : byL (s.extract 1 s.size) = (byL s).drop 1 := by rw [byL_take, List.take_of_length_le (by rw [byL_len]; omega)]
  rw [take_ok (by omega)]
  simp only
  rw [rdN_ok _ _ (by rw [ByteArray.size_extract]; omega), e2]
  congr 2
  apply byL_inj
  rw [byL_take, e2, byL_take, List.take_of_length_le (by rw [List.length_drop, byL_len, ByteArray.size_extract]; omega), List.take_of_length_le (by rw [byL_len]; omega), List.drop_drop]
theorem rdA_bad {s : ByteArray} (h : ¬ fitsD s) : (rdA s).2.2 ≠ 0 := by
  unfold fitsD at h
  unfold rdA
  rcases Nat.eq_zero_or_pos s.size with c | c
  · rw [take_bad (by omega)]
    simp only
    rw [rdN_err _ _ 2 (by decide)]; decide
  · rw [take_ok (by omega)]
    simp only
    exact rdN_bad _ _ (by rw [ByteArray.size_extract]; omega)
theorem lst_len (s : ByteArray) : (lst s).length = n1 s := prs_len _ _
theorem blank_rest {s : ByteArray} {k : Nat} (h : blank (s.extract k s.size) = true) : (byL s).drop k = List.replicate (s.size - k) 0 := by
  unfold blank at h
  rw [byL_take, List.take_of_length_le (by rw [byL_len]; omega)] at h
  rw [List.eq_replicate_iff]
  refine ⟨by rw [List.length_drop, byL_len], fun x hx => ?_⟩
  have := List.all_eq_true.1 h x hx
  exact of_decide_eq_true this
attribute [local irreducible] n1
theorem dir_iff {s : ByteArray} : dirB s = true ↔ fitsD s ∧ dirW (lst s) = (s, 0) := by
  by_cases hf : fitsD s
  rotate_left
  · constructor
    · intro h; exact absurd (of_decide_eq_true h).1 (rdA_bad hf)
    · intro h; exact absurd h.1 hf
  have hA := rdA_ok hf
  have hfs : 1 + 2 * n1 s ≤ s.size := hf
  obtain ⟨x, r, hb, hx⟩ := n1_get (s := s) (by omega)
  have hl : (byL s).length = s.size := byL_len s
  have hbd : ∀ y ∈ byL s, 0 ≤ y ∧ y ≤ 255 := fun y hy => byL_nn hy
  -- the bytes that are told
  have hd : dirL (lst s) = (byL s).take (1 + 2 * n1 s) := by
    unfold dirL
    rw [lst_len]
    unfold lst
    rw [prs_flat _ _ (by rw [List.length_drop]; omega) (fun y hy => hbd y (List.mem_of_mem_drop hy)), hb, Nat.add_comm 1, List.take_succ_cons, hx, List.drop_succ_cons, List.drop_zero]
  have hdb : ∀ y ∈ dirL (lst s), 0 ≤ y ∧ y ≤ 255 := fun y hy => by rw [hd] at hy; exact hbd y (List.mem_of_mem_take hy)
  have hdl : (dirL (lst s)).length = 1 + 2 * n1 s := by rw [dirL_len, lst_len]
  constructor
  · intro h
    obtain ⟨_, h2, h3, h4, h5⟩ := of_decide_eq_true h
    rw [hA] at h3 h5
    simp only at h3 h5
    refine ⟨hf, ?_⟩
    unfold dirW
    rw [if_neg (by rw [lst_len]; omega), if_pos h3]
    refine Prod.ext ?_ rfl
    apply byL_inj
    show byL (pad (strOfNums (dirL (lst s)))).1 = byL s
    rw [byL_pad]
    unfold padL
    rw [byL_son hdb, son_size, hdl, List.take_of_length_le (by rw [hdl]; omega), hd]
    rw [take_ok (Nat.le_refl _)] at h5
    simp only at h5
    have e : (s.extract (1 + 2 * n1 s) s.size).extract 0 (s.extract (1 + 2 * n1 s) s.size).size = s.extract (1 + 2 * n1 s) s.size := by
      apply byL_inj
      rw [byL_take, List.take_of_length_le (by rw [byL_len]; omega)]; rfl
    rw [e] at h5
    have h6 := blank_rest h5
    rw [h4] at h6
    rw [← h6, List.take_append_drop]
  · rintro ⟨_, h⟩
    unfold dirW at h
    by_cases c1 : 31 < (lst s).length
    · rw [if_pos c1] at h; simp at h
    rw [if_neg c1] at h
    by_cases c2 : rightB (lst s) = true
    rotate_left
    · rw [if_neg c2] at h; simp at h
    rw [if_pos c2] at h
    have hs : (pad (strOfNums (dirL (lst s)))).1 = s := (Prod.mk.inj h).1
    have h64 : s.size = 64 := by rw [← hs]; exact (pad _).2
    rw [lst_len] at c1
    refine decide_eq_true ⟨by rw [hA], by omega, by rw [hA]; exact c2, h64, ?_⟩
    rw [hA]
    simp only
    rw [take_ok (Nat.le_refl _)]
    simp only
    have e : (s.extract (1 + 2 * n1 s) s.size).extract 0 (s.extract (1 + 2 * n1 s) s.size).size = s.extract (1 + 2 * n1 s) s.size := by
      apply byL_inj
      rw [byL_take, List.take_of_length_le (by rw [byL_len]; omega)]; rfl
    rw [e]
    unfold blank
    rw [byL_take, List.take_of_length_le (by rw [byL_len]; omega)]
    have hbs : byL s = (dirL (lst s)).take 64 ++ List.replicate (64 - (dirL (lst s)).length) 0 := by
      conv => lhs; rw [← hs, byL_pad]
      unfold padL
      rw [byL_son hdb, son_size]
    rw [hbs, List.take_of_length_le (by rw [hdl]; omega), List.drop_append_of_le_length (by rw [hdl]; exact Nat.le_refl _), List.drop_of_length_le (by rw [hdl]; exact Nat.le_refl _), List.nil_append, List.all_eq_true]
    intro y hy
    exact decide_eq_true (List.mem_replicate.1 hy).2
end Go.Proofs.YtongpnolikkknaaDoor

set_option maxRecDepth 20000
set_option maxHeartbeats 4000000
namespace Go.Proofs.YtongpnolikkknaaDoor
open Sh RowKit Go.MapKept
section
variable {W w : World} {Q : Value → World → Prop}
theorem ld_i {v : Value} {l : List Int} {i : Nat} (h : rdI .i64 W v l) (hi : i < l.length) : ∃ a : Addr, (∀ w, Below W.heap.size W w → w.cell? a = some (.int .i64 l[i])) ∧ ∀ (K : Value → M) (w : World) (Q : Value → World → Prop), ia 1 v (.int .i64 (i : Int)) K w Q = K (.pointer (some a)) w Q := by
  obtain ⟨p, c, rfl, h⟩ := h
  obtain ⟨a, rfl, hc⟩ := h i hi
  refine ⟨a.add i, fun w hb => cell_below hb hc, fun K w Q => ?_⟩
  rw [ia_e, Int.toNat_natCast, Nat.mul_one]
  exact propext ⟨fun h => h.2.2, fun h => ⟨by omega, by omega, h⟩⟩
theorem sameI_loop {x y : Value} {l l2 : List Int} (hx : rdI .i64 W x l) (hy : rdI .i64 W y l2) (hle : l.length = l2.length) (hl : l.length ≤ 140737488355328) : ∀ (d m i : Nat) (w : World), i + d = l.length → d < m → Below W.heap.size W w → l.take i = l2.take i →
    (∀ w', Below W.heap.size W w' → Q (.bool (decide (l = l2))) w') →
    itr (fun _ _ _ => bot) (f17_b2 f17_j1) m x y (.int .i64 (i : Int)) w Q := by
  intro d
  induction d with
  | zero =>
    intro m i w hi hm hb he kk
    obtain ⟨m, rfl⟩ : ∃ x, m = x + 1 := ⟨m - 1, by omega⟩
    show f17_b2 f17_j1 _ _ _ _ w Q
    unfold f17_b2
    refine lnl_rd hx ?_
    have c : ¬ (i : Int) < (l.length : Nat) := by omega
    try simp only [↓reduceIte, ↓LL, LM, Value.cells, Nat.reduceAdd, Option.some.injEq, exists_eq_left', decide_true, decide_false, if_true, if_false, reduceCtorEq, cond_true, cond_false, c]
    unfold f17_j1
    try simp only [↓reduceIte, ↓LL, LM, Value.cells, Nat.reduceAdd, Option.some.injEq, exists_eq_left', decide_true, decide_false, if_true, if_false, reduceCtorEq, cond_true, cond_false]
    rw [List.take_of_length_le (by omega), List.take_of_length_le (by omega)] at he
    have := kk w hb
    rw [decide_eq_true he] at this
    exact this
  | succ d ih =>
    intro m i w hi hm hb he kk
    obtain ⟨m, rfl⟩ : ∃ x, m = x + 1 := ⟨m - 1, by omega⟩
    show f17_b2 f17_j1 _ _ _ _ w Q
    unfold f17_b2
    refine lnl_rd hx ?_
    have c : (i : Int) < (l.length : Nat) := by omega
    have hil : i < l.length := by omega
    have hil2 : i < l2.length := by omega
    have bd : Below W.heap.size W (drw w) := hb.trans ⟨rfl, rfl, rfl, Nat.le_refl _, fun _ _ => rfl⟩
    obtain ⟨ax, cx, hax⟩ := ld_i hx hil
    obtain ⟨ay, cy, hay⟩ := ld_i hy hil2
    have qx := cx _ bd
    have qy := cy _ bd
    have h3 : IntKind.i64.wrap ((i : Int) + 1) = ((i + 1 : Nat) : Int) := by rw [w64 (by omega) (by omega)]; rfl
    by_cases hv : l[i] = l2[i]
    · try simp only [↓reduceIte, ↓LL, LM, Value.cells, Nat.reduceAdd, Option.some.injEq, exists_eq_left', decide_true, decide_false, if_true, if_false, reduceCtorEq, cond_true, cond_false, c, hax, hay, qx, qy, ne_eq, hv, h3]
      refine ih m (i + 1) (drw w) (by omega) (by omega) bd ?_ kk
      rw [List.take_succ_eq_append_getElem hil, List.take_succ_eq_append_getElem hil2, he, hv]
    · try simp only [↓reduceIte, ↓LL, LM, Value.cells, Nat.reduceAdd, Option.some.injEq, exists_eq_left', decide_true, decide_false, if_true, if_false, reduceCtorEq, cond_true, cond_false, c, hax, hay, qx, qy, ne_eq, hv]
      have hne : l ≠ l2 := by rintro rfl; exact hv rfl
      have := kk (drw w) bd
      rw [decide_eq_false hne] at this
      exact this
theorem f17_s {x y : Value} {l l2 : List Int} (hx : rdI .i64 w x l) (hy : rdI .i64 w y l2) (hl : l.length ≤ 140737488355328) (kk : ∀ w', Below w.heap.size w w' → Q (.bool (decide (l = l2))) w') : f17 x y w Q := by
  unfold f17
  refine lnl_rd hx ?_
  refine lnl_rd hy ?_
  by_cases hle : l.length = l2.length
  · have hle' : ((l.length : Nat) : Int) = (l2.length : Nat) := by omega
    try simp only [↓reduceIte, ↓LL, LM, Value.cells, Nat.reduceAdd, Option.some.injEq, exists_eq_left', decide_true, decide_false, if_true, if_false, reduceCtorEq, cond_true, cond_false, hle', ne_eq]
    exact ⟨_, sameI_loop (W := w) hx hy hle hl l.length (l.length + 1) 0 w (by omega) (by omega) (Below.refl _ _) (by simp) kk⟩
  · have hle' : ¬ ((l.length : Nat) : Int) = (l2.length : Nat) := by omega
    have hne : l ≠ l2 := by rintro rfl; exact hle rfl
    try simp only [↓reduceIte, ↓LL, LM, Value.cells, Nat.reduceAdd, Option.some.injEq, exists_eq_left', decide_true, decide_false, if_true, if_false, reduceCtorEq, cond_true, cond_false, hle', ne_eq]
    have := kk w (Below.refl _ _)
    rw [decide_eq_false hne] at this
    exact this
end
end Go.Proofs.YtongpnolikkknaaDoor

set_option maxRecDepth 20000
set_option maxHeartbeats 4000000
namespace Go.Proofs.YtongpnolikkknaaDoor
open Sh RowKit Go.MapKept
section
variable {W w : World} {Q : Value → World → Prop}
end
end Go.Proofs.YtongpnolikkknaaDoor

set_option maxRecDepth 20000
set_option maxHeartbeats 4000000
namespace Go.Proofs.YtongpnolikkknaaDoor
open Sh RowKit Go.MapKept
theorem mkd_mark (b : Bool) : mkd (markB b).1 = b := by
  cases b <;> rfl
theorem lit22 (x y : Int) (w : World) : (Instr.buildSlice 22 2 #[(0, .int .i64 x), (1, .int .i64 y)]).run Tryd.prog w = .ok (.slice (some ⟨w.heap.size, 0, none⟩) 2 2) (psh w (.cells #[.int .i64 x, .int .i64 y] 3)) := by
  kernel_rfl
section
variable {W w : World} {Q : Value → World → Prop}
theorem rdI_two {g : Nat} {x y : Int} {t : TypeId} {fr : Nat × Nat} (h : w.heap[g]? = some (.cells #[.int .i64 x, .int .i64 y] t fr)) : rdI .i64 w (.slice (some ⟨g, 0, none⟩) 2 2) [x, y] := by
  refine ⟨_, 2, rfl, fun i hi => ⟨_, rfl, ?_⟩⟩
  rw [add_lit, Nat.zero_add, cell_of_blk h]
  match i, hi with
  | 0, _ => rfl
  | 1, _ => rfl
theorem get0 (x y : Value) : (#[x, y] : Array Value)[0]? = some x := rfl
theorem get1 (x y : Value) : (#[x, y] : Array Value)[1]? = some y := rfl
end
end Go.Proofs.YtongpnolikkknaaDoor

set_option maxRecDepth 20000
set_option maxHeartbeats 4000000
namespace Go.Proofs.YtongpnolikkknaaDoor
open Sh RowKit Go.MapKept
def um (x m : Int) : Int := (IntKind.u64.wrap x).tmod m
theorem um_bd (x : Int) {m : Int} (h : 0 < m) : 0 ≤ um x m ∧ um x m < m := by
  have h0 : 0 ≤ IntKind.u64.wrap x := by rw [wrap_u64]; omega
  unfold um
  exact ⟨Int.tmod_nonneg _ h0, Int.tmod_lt_of_pos _ h⟩
section
variable {W w : World} {Q : Value → World → Prop}
theorem sls_to {s : ByteArray} {k : Nat} {K : Value → M} (h : k ≤ s.size) (kk : K (.string (s.extract 0 k)) w Q) : sls (.string s) none (some (.int .i64 (k : Int))) K w Q :=
  ⟨s, 0, k, rfl, bnd_hi h, bnd_none, kk⟩
theorem sls_from {s : ByteArray} {k : Nat} {K : Value → M} (h : k ≤ s.size) (kk : K (.string (s.extract k s.size)) w Q) : sls (.string s) (some (.int .i64 (k : Int))) none K w Q :=
  ⟨s, k, s.size, rfl, bnd_none, bnd_hi h, kk⟩
theorem iaa0 {g : Nat} {K : Value → M} : iaa 2 1 (.pointer (some ⟨g, 0, none⟩)) (.int .i64 0) K w Q = K (.pointer (some ⟨g, 0, none⟩)) w Q := by
  rw [iaa_e]
  apply propext
  exact ⟨fun h => h.2.2, fun h => ⟨by decide, by decide, h⟩⟩
theorem iaa1 {g : Nat} {K : Value → M} : iaa 2 1 (.pointer (some ⟨g, 0, none⟩)) (.int .i64 1) K w Q = K (.pointer (some ⟨g, 1, none⟩)) w Q := by
  rw [iaa_e]
  apply propext
  exact ⟨fun h => h.2.2, fun h => ⟨by decide, by decide, h⟩⟩
end
end Go.Proofs.YtongpnolikkknaaDoor

set_option maxRecDepth 20000
set_option maxHeartbeats 4000000
namespace Go.Proofs.YtongpnolikkknaaDoor
open Sh RowKit Go.MapKept
/-- a slice that reads as texts -/
def rdT (w : World) (v : Value) (l : List ByteArray) : Prop := (v = .slice none 0 0 ∧ l = []) ∨ ∃ a c, v = .slice (some a) l.length c ∧ l.length ≤ c ∧ ∀ i (h : i < l.length), w.cell? (a.add i) = some (.string l[i])
/-- all of some texts -/
def catL (l : List ByteArray) : ByteArray := strOfNums (l.flatMap byL)
theorem byL_catL (l : List ByteArray) : byL (catL l) = l.flatMap byL := byL_son fun x hx => by
  obtain ⟨s, _, hs⟩ := List.mem_flatMap.1 hx
  exact byL_nn hs
theorem catL_snoc (l : List ByteArray) (s : ByteArray) : catL l ++ s = catL (l ++ [s]) := by
  apply byL_inj
  rw [byL_app, byL_catL, byL_catL, List.flatMap_append]; simp
theorem catL_size (l : List ByteArray) : (catL l).size = (l.map (·.size)).sum := by
  rw [← byL_len, byL_catL]
  induction l with
  | nil => rfl
  | cons s l ih => rw [List.flatMap_cons, List.length_append, ih, byL_len, List.map_cons, List.sum_cons]
theorem catL_64 {l : List ByteArray} (h : ∀ s ∈ l, s.size = 64) : (catL l).size = 64 * l.length := by
  rw [catL_size]
  induction l with
  | nil => rfl
  | cons s l ih => rw [List.map_cons, List.sum_cons, ih (fun t ht => h t (by simp [ht])), h s (by simp), List.length_cons]; omega
/-- four sectors? -/
def four (l : List ByteArray) : Bool := decide (l.length = 4 ∧ ∀ s ∈ l, s.size = 64)
def joinB (l : List ByteArray) : ByteArray × Int := if four l = true then (catL l, 0) else (⟨#[]⟩, 1)
/-- a page's sectors -/
def chunk (s : ByteArray) (j : Nat) : ByteArray := s.extract (64 * j) (64 * j + 64)
def cutL (s : ByteArray) (n : Nat) : List ByteArray := (List.range n).map (chunk s)
theorem cutL_len (s : ByteArray) (n : Nat) : (cutL s n).length = n := by unfold cutL; rw [List.length_map, List.length_range]
theorem cutL_succ (s : ByteArray) (n : Nat) : cutL s (n + 1) = cutL s n ++ [chunk s n] := by unfold cutL; rw [List.range_succ, List.map_append]; rfl
theorem chunk_size {s : ByteArray} {j : Nat} (h : s.size = 256) (hj : j < 4) : (chunk s j).size = 64 := by unfold chunk; rw [ByteArray.size_extract]; omega
theorem cutL_cat {s : ByteArray} : ∀ n, 64 * n ≤ s.size → byL (catL (cutL s n)) = (byL s).take (64 * n)
  | 0, _ => rfl
  | n + 1, h => by
    rw [cutL_succ, ← catL_snoc, byL_app, cutL_cat n (by omega)]
    unfold chunk
    rw [byL_take, List.drop_take, show 64 * n + 64 - 64 * n = 64 from by omega, ← List.take_add, show 64 * (n + 1) = 64 * n + 64 from by omega]
theorem cut_back {s : ByteArray} (h : s.size = 256) : four (cutL s 4) = true ∧ catL (cutL s 4) = s := by
  constructor
  · refine decide_eq_true ⟨cutL_len s 4, fun t ht => ?_⟩
    obtain ⟨j, hj, rfl⟩ := List.mem_map.1 ht
    exact chunk_size h (List.mem_range.1 hj)
  · apply byL_inj
    rw [cutL_cat 4 (by omega), List.take_of_length_le (by rw [byL_len]; omega)]
theorem sl39 : slT Tryd.prog 39 9 (.string ⟨#[]⟩) 1 16 := ⟨by kernel_rfl, by kernel_rfl⟩
theorem en61 : ∀ args w, (callFunc 61 args).run Tryd.prog w = .ok (.enter 61 args) w := enters_of Tryd.func61 (by kernel_rfl) rfl
theorem join_cat (l : List ByteArray) : (⟨(Lib.join (l.map (·.data.toList)) (⟨#[]⟩ : ByteArray).data.toList).toArray⟩ : ByteArray) = catL l := by
  apply byL_inj
  rw [byL_catL]
  have e : Lib.join (l.map (·.data.toList)) (⟨#[]⟩ : ByteArray).data.toList = l.flatMap (·.data.toList) := by
    show List.intercalate [] _ = _
    unfold List.intercalate
    have : ∀ l : List (List UInt8), (l.intersperse []).flatten = l.flatten := by
      intro l
      induction l with
      | nil => rfl
      | cons x l ih =>
        cases l with
        | nil => rfl
        | cons y l => rw [List.intersperse_cons_cons, List.flatten_cons, List.flatten_cons, ih]; rfl
    rw [this, List.flatMap_def]
  rw [e]
  unfold byL
  simp only [List.toList_toArray]
  rw [List.map_flatMap]
section
variable {W w w' : World} {Q : Value → World → Prop}
theorem rdT_b {v : Value} {l : List ByteArray} (hb : Below w.heap.size w w') (h : rdT w v l) : rdT w' v l := by
  rcases h with h | ⟨a, c, rfl, hc, h⟩
  · exact .inl h
  · exact .inr ⟨a, c, rfl, hc, fun i hi => cell_below hb (h i hi)⟩
theorem rdT_own {B : Nat} {e : TypeId} {v : Value} {l : List ByteArray} (h : ownV B e w v (l.map .string)) : rdT w v l := by
  rcases ownV_cases h with ⟨rfl, h0⟩ | ⟨g, cap, cur, rfl, hg, hb, hn, hm, hs, ht⟩
  · exact .inl ⟨rfl, by simpa using h0⟩
  · rw [List.length_map] at hn ht ⊢
    refine .inr ⟨_, cap, rfl, hn, fun i hi => ?_⟩
    rw [add_lit, Nat.zero_add, cell_of_blk hb]
    have : (cur.toList.take l.length)[i]? = (l.map Value.string)[i]? := by rw [ht]
    rw [List.getElem?_take_of_lt hi, List.getElem?_map, List.getElem?_eq_getElem hi] at this
    simpa using this
theorem lnl_T {W w1 : World} {v : Value} {l : List ByteArray} (h : rdT W v l) : ∀ (K : Value → M) (Q : Value → World → Prop), lnl v K w1 Q = K (.int .i64 (l.length : Nat)) w1 Q := by
  intro K Q
  rcases h with ⟨rfl, rfl⟩ | ⟨a, c, rfl, _, _⟩ <;> rw [lnl_e] <;> rfl
theorem ld_t {v : Value} {l : List ByteArray} {i : Nat} (h : rdT W v l) (hi : i < l.length) : ∃ a : Addr, (∀ w, Below W.heap.size W w → w.cell? a = some (.string l[i])) ∧ ∀ (K : Value → M) (w : World) (Q : Value → World → Prop), ia 1 v (.int .i64 (i : Int)) K w Q = K (.pointer (some a)) w Q := by
  rcases h with ⟨rfl, rfl⟩ | ⟨a, c, rfl, _, h⟩
  · simp at hi
  · refine ⟨a.add i, fun w hb => cell_below hb (h i hi), fun K w Q => ?_⟩
    rw [ia_e, Int.toNat_natCast, Nat.mul_one]
    exact propext ⟨fun h => h.2.2, fun h => ⟨by omega, by omega, h⟩⟩
/-- one text more -/
theorem ap_T {v : Value} {l : List ByteArray} {s : ByteArray} {K : Value → M} (h : ownV W.heap.size 9 w v (l.map .string)) (hb : Below W.heap.size W w) (hl : l.length ≤ 1000000) (kk : ∀ w' u, ownV W.heap.size 9 w' u ((l ++ [s]).map .string) → Below W.heap.size W w' → K u w' Q) :
    sm Tryd.prog (Instr.buildSlice 39 1 #[(0, .string s)]) (fun t => sm Tryd.prog (Builtin.append_ #[39, 39] 39 #[v, t]) K) w Q := by
  refine ap_V (x := .string s) sl39 rfl rfl rfl h (by rw [List.length_map]; unfold maxLen; omega) (by rw [List.length_map]; omega) hb.size fun v' w' ho' hf hsz hos hown => ?_
  refine kk w' v' (by rw [List.map_append]; exact ho') ⟨hos.1.trans hb.os, hos.2.1.trans hb.tape, hos.2.2.trans hb.output, Nat.le_trans hb.size hsz, fun k hk => ?_⟩
  rw [hf k (Nat.lt_of_lt_of_le hk hb.size) (fun e => by have := (ownV_lt h k e).1; omega)]
  exact hb.block k hk
theorem byL_ext (s : ByteArray) (k : Nat) : byL (s.extract k s.size) = (byL s).drop k := by rw [byL_take, List.take_of_length_le (by rw [byL_len]; exact Nat.le_refl _)]
theorem cut_loop {s : ByteArray} (hs : s.size = 256) {j1 : Value → M} : ∀ (d m i : Nat) (w : World) (u : Value), i + d = 4 → d < m → Below W.heap.size W w → ownV W.heap.size 9 w u ((cutL s i).map .string) →
    (∀ w' u', Below W.heap.size W w' → ownV W.heap.size 9 w' u' ((cutL s 4).map .string) → j1 u' w' Q) →
    itr (fun _ _ => bot) (f23_b2 j1) m (.string (s.extract (64 * i) s.size)) u w Q := by
  intro d
  induction d with
  | zero =>
    intro m i w u hi hm hb ho kk
    obtain ⟨m, rfl⟩ : ∃ x, m = x + 1 := ⟨m - 1, by omega⟩
    show f23_b2 j1 _ _ _ w Q
    unfold f23_b2
    have hi4 : i = 4 := by omega
    subst hi4
    have e : s.extract (64 * 4) s.size = ⟨#[]⟩ := by
      apply byL_inj
      rw [byL_take, List.drop_of_length_le (by rw [List.length_take, byL_len]; omega)]; rfl
    rw [e]
    try simp only [↓reduceIte, ↓LL, LM, Value.cells, Nat.reduceAdd, Option.some.injEq, exists_eq_left', decide_true, decide_false, if_true, if_false, reduceCtorEq, cond_true, cond_false, ne_eq]
    exact kk w u hb ho
  | succ d ih =>
    intro m i w u hi hm hb ho kk
    obtain ⟨m, rfl⟩ : ∃ x, m = x + 1 := ⟨m - 1, by omega⟩
    show f23_b2 j1 _ _ _ w Q
    unfold f23_b2
    have hsz : (s.extract (64 * i) s.size).size = 256 - 64 * i := by rw [ByteArray.size_extract]; omega
    have hne : ¬ s.extract (64 * i) s.size = ⟨#[]⟩ := fun e => by rw [e] at hsz; have h0 : (⟨#[]⟩ : ByteArray).size = 0 := rfl; omega
    have e1 : (s.extract (64 * i) s.size).extract 0 64 = chunk s i := by
      apply byL_inj
      unfold chunk
      rw [byL_take, byL_ext, byL_take, List.drop_zero, List.drop_take, show 64 * i + 64 - 64 * i = 64 from by omega]
    have e2 : (s.extract (64 * i) s.size).extract 64 (s.extract (64 * i) s.size).size = s.extract (64 * (i + 1)) s.size := by
      apply byL_inj
      rw [byL_ext, byL_ext, byL_ext, List.drop_drop]
      congr 1
    try simp only [↓reduceIte, ↓LL, LM, Value.cells, Nat.reduceAdd, Option.some.injEq, exists_eq_left', decide_true, decide_false, if_true, if_false, reduceCtorEq, cond_true, cond_false, ne_eq, hne]
    refine sls_to (k := 64) (by omega) ?_
    rw [e1]
    refine ap_T ho hb (by rw [cutL_len]; omega) fun w1 u1 o1 b1 => ?_
    rw [← cutL_succ] at o1
    try simp only [↓reduceIte, ↓LL, LM, Value.cells, Nat.reduceAdd, Option.some.injEq, exists_eq_left', decide_true, decide_false, if_true, if_false, reduceCtorEq, cond_true, cond_false]
    refine sls_from (k := 64) (by omega) ?_
    rw [e2]
    exact ih m (i + 1) w1 u1 (by omega) (by omega) b1 o1 kk
theorem f23_s {s : ByteArray} (k1 : s.size ≠ 256 → Q (.tuple #[.slice none 0 0, .int .i64 1]) w) (k0 : s.size = 256 → ∀ w' u, Below w.heap.size w w' → ownV w.heap.size 9 w' u ((cutL s 4).map .string) → Q (.tuple #[u, .int .i64 0]) w') : f23 (.string s) w Q := by
  unfold f23
  by_cases h : s.size = 256
  · have h' : ((s.size : Nat) : Int) = 256 := by omega
    have e0 : s.extract (64 * 0) s.size = s := by apply byL_inj; rw [byL_take, List.take_of_length_le (by rw [byL_len]; exact Nat.le_refl _)]; rfl
    try simp only [↓reduceIte, ↓LL, LM, Value.cells, Nat.reduceAdd, Option.some.injEq, exists_eq_left', decide_true, decide_false, if_true, if_false, reduceCtorEq, cond_true, cond_false, ne_eq, h']
    have := cut_loop (W := w) (Q := Q) h (j1 := f23_j1) 4 5 0 w (.slice none 0 0) (by omega) (by omega) (Below.refl _ _) ownV_nil fun w1 u1 b1 o1 => ?_
    · rw [e0] at this
      exact ⟨_, this⟩
    · unfold f23_j1
      try simp only [↓reduceIte, ↓LL, LM, Value.cells, Nat.reduceAdd, Option.some.injEq, exists_eq_left', decide_true, decide_false, if_true, if_false, reduceCtorEq, cond_true, cond_false]
      exact k0 h w1 u1 b1 o1
  · have h' : ¬ ((s.size : Nat) : Int) = 256 := by omega
    try simp only [↓reduceIte, ↓LL, LM, Value.cells, Nat.reduceAdd, Option.some.injEq, exists_eq_left', decide_true, decide_false, if_true, if_false, reduceCtorEq, cond_true, cond_false, ne_eq, h']
    exact k1 h
end
end Go.Proofs.YtongpnolikkknaaDoor

set_option maxRecDepth 20000
set_option maxHeartbeats 4000000
namespace Go.Proofs.YtongpnolikkknaaDoor
open Sh RowKit Go.MapKept
theorem joinB_ok {l : List ByteArray} (h4 : l.length = 4) (c : ∀ s ∈ l, s.size = 64) : joinB l = (catL l, 0) := by
  unfold joinB; rw [if_pos (show four l = true from decide_eq_true ⟨h4, c⟩)]
theorem joinB_bad {l : List ByteArray} (c : ¬ (l.length = 4 ∧ ∀ s ∈ l, s.size = 64)) : joinB l = (⟨#[]⟩, 1) := by
  unfold joinB; rw [if_neg (fun e : four l = true => c (of_decide_eq_true e))]
section
variable {W w w' : World} {Q : Value → World → Prop}
theorem idx_loop {v : Value} {l : List ByteArray} (h : rdT W v l) (hl : l.length ≤ 140737488355328) : ∀ (d m i : Nat) (w : World), i + d = l.length → d < m → Below W.heap.size W w → (∀ s ∈ l.take i, s.size = 64) →
    (∀ w' (r : Int), Below W.heap.size W w' → (0 ≤ r ↔ ¬ ∀ s ∈ l, s.size = 64) → Q (.int .i64 r) w') →
    itr (fun _ _ _ _ => bot) (f89_b2 f89_j1) m v (.func (.func 61) #[] #[]) (.int .i64 (l.length : Nat)) (.int .i64 (i : Int)) w Q := by
  intro d
  induction d with
  | zero =>
    intro m i w hi hm hb he kk
    obtain ⟨m, rfl⟩ : ∃ x, m = x + 1 := ⟨m - 1, by omega⟩
    show f89_b2 f89_j1 _ _ _ _ _ w Q
    unfold f89_b2
    have c : ¬ (i : Int) < (l.length : Nat) := by omega
    try simp only [↓reduceIte, ↓LL, LM, Value.cells, Nat.reduceAdd, Option.some.injEq, exists_eq_left', decide_true, decide_false, if_true, if_false, reduceCtorEq, cond_true, cond_false, c]
    unfold f89_j1
    try simp only [↓reduceIte, ↓LL, LM, Value.cells, Nat.reduceAdd, Option.some.injEq, exists_eq_left', decide_true, decide_false, if_true, if_false, reduceCtorEq, cond_true, cond_false]
    rw [List.take_of_length_le (by omega)] at he
    exact kk w (-1) hb ⟨fun h => by omega, fun h => absurd he h⟩
  | succ d ih =>
    intro m i w hi hm hb he kk
    obtain ⟨m, rfl⟩ : ∃ x, m = x + 1 := ⟨m - 1, by omega⟩
    show f89_b2 f89_j1 _ _ _ _ _ w Q
    unfold f89_b2
    have c : (i : Int) < (l.length : Nat) := by omega
    have hil : i < l.length := by omega
    obtain ⟨ax, cx, hax⟩ := ld_t h hil
    have qx := cx _ hb
    have h3 : IntKind.i64.wrap ((i : Int) + 1) = ((i + 1 : Nat) : Int) := by rw [w64 (by omega) (by omega)]; rfl
    try simp only [↓reduceIte, ↓LL, LM, Value.cells, Nat.reduceAdd, Option.some.injEq, exists_eq_left', decide_true, decide_false, if_true, if_false, reduceCtorEq, cond_true, cond_false, c, hax, qx]
    refine cf_p en61 ?_
    refine s61 (.string l[i]) w _ ?_
    unfold f61
    by_cases hv : l[i].size = 64
    · have hv' : ((l[i].size : Nat) : Int) = 64 := by omega
      try simp only [↓reduceIte, ↓LL, LM, Value.cells, Nat.reduceAdd, Option.some.injEq, exists_eq_left', decide_true, decide_false, if_true, if_false, reduceCtorEq, cond_true, cond_false, ne_eq, hv', h3]
      refine ih m (i + 1) w (by omega) (by omega) hb ?_ kk
      rw [List.take_succ_eq_append_getElem hil]
      intro s hs
      rcases List.mem_append.1 hs with hs | hs
      · exact he s hs
      · rw [List.mem_singleton.1 hs]; exact hv
    · have hv' : ¬ ((l[i].size : Nat) : Int) = 64 := by omega
      try simp only [↓reduceIte, ↓LL, LM, Value.cells, Nat.reduceAdd, Option.some.injEq, exists_eq_left', decide_true, decide_false, if_true, if_false, reduceCtorEq, cond_true, cond_false, ne_eq, hv']
      exact kk w _ hb ⟨fun _ hh => hv (hh _ (List.getElem_mem hil)), fun _ => by omega⟩
theorem cfn_s {v : Value} {l : List ByteArray} (h : rdT w v l) (hl : l.length ≤ 140737488355328) (kk : ∀ w', Below w.heap.size w w' → Q (.bool (decide (¬ ∀ s ∈ l, s.size = 64))) w') : f60 v (.func (.func 61) #[] #[]) w Q := by
  unfold f60
  try simp only [↓reduceIte, ↓LL, LM, Value.cells, Nat.reduceAdd, Option.some.injEq, exists_eq_left', decide_true, decide_false, if_true, if_false, reduceCtorEq, cond_true, cond_false]
  unfold f89
  rw [lnl_T h]
  try simp only [↓reduceIte, ↓LL, LM, Value.cells, Nat.reduceAdd, Option.some.injEq, exists_eq_left', decide_true, decide_false, if_true, if_false, reduceCtorEq, cond_true, cond_false]
  refine ⟨_, idx_loop (W := w) h hl l.length (l.length + 1) 0 w (by omega) (by omega) (Below.refl _ _) (by simp) fun w1 r b1 hr => ?_⟩
  by_cases c : ∀ s ∈ l, s.size = 64
  · have : ¬ 0 ≤ r := fun e => hr.1 e c
    have e : decide (¬ ∀ s ∈ l, s.size = 64) = false := decide_eq_false fun h => h c
    have := kk w1 b1
    rw [e] at this
    have c' : ¬ r ≥ 0 := by omega
    try simp only [↓reduceIte, ↓LL, LM, Value.cells, Nat.reduceAdd, Option.some.injEq, exists_eq_left', decide_true, decide_false, if_true, if_false, reduceCtorEq, cond_true, cond_false, c', ‹¬ 0 ≤ r›]
    exact this
  · have h0 : 0 ≤ r := hr.2 c
    have e : decide (¬ ∀ s ∈ l, s.size = 64) = true := decide_eq_true c
    have := kk w1 b1
    rw [e] at this
    have c' : r ≥ 0 := h0
    try simp only [↓reduceIte, ↓LL, LM, Value.cells, Nat.reduceAdd, Option.some.injEq, exists_eq_left', decide_true, decide_false, if_true, if_false, reduceCtorEq, cond_true, cond_false, c', h0]
    exact this
theorem join_s {v : Value} {l : List ByteArray} {K : Value → M} (h : rdT w v l) (h4 : l.length = 4) (h64 : ∀ s ∈ l, s.size = 64) (kk : ∀ w', Below w.heap.size w w' → K (.string (catL l)) w' Q) : cc Tryd.prog 62 #[v, .string ⟨#[]⟩] K w Q := by
  rcases h with ⟨rfl, rfl⟩ | ⟨a, c, rfl, hc, h⟩
  · simp at h4
  · have h0 := h 0 (by omega)
    obtain ⟨b, o, sp⟩ := a
    have hs : sp = none := by
      cases sp with
      | none => rfl
      | some x =>
        exfalso
        unfold World.cell? at h0
        split at h0
        · split at h0
          · cases h0
          · rename_i hn; simp [Addr.add] at hn
        · cases h0
    subst hs
    have hbk : b < w.heap.size := by have := cell_lt h0; simpa [add_lit] using this
    refine cc_of (Tryd.strings_Join b o c l ⟨#[]⟩ w (fun j x hx => ?_) hbk (by omega) hc ?_) fun e w' he => ?_
    · obtain ⟨hj, e⟩ := List.getElem?_eq_some_iff.1 hx
      have := h j hj
      rw [add_lit, e] at this
      exact this
    · have := congrArg ByteArray.size (join_cat l)
      rw [catL_64 h64] at this
      have e : ∀ x : List UInt8, (⟨x.toArray⟩ : ByteArray).size = x.length := fun x => rfl
      rw [e] at this
      omega
    · obtain ⟨h1, h2⟩ := he
      exact ⟨_, h1, by rw [join_cat]; exact kk w' h2⟩
theorem f25_s {v : Value} {l : List ByteArray} (h : rdT w v l) (hl : l.length ≤ 140737488355328) (kk : ∀ w', Below w.heap.size w w' → Q (.tuple #[.string (joinB l).1, .int .i64 (joinB l).2]) w') : f25 v w Q := by
  unfold f25
  rw [lnl_T h]
  by_cases h4 : l.length = 4
  · have h4' : ((l.length : Nat) : Int) = 4 := by omega
    try simp only [↓reduceIte, ↓LL, LM, Value.cells, Nat.reduceAdd, Option.some.injEq, exists_eq_left', decide_true, decide_false, if_true, if_false, reduceCtorEq, cond_true, cond_false, ne_eq, h4']
    refine cfn_s h hl fun w1 b1 => ?_
    by_cases c : ∀ s ∈ l, s.size = 64
    · have e : decide (¬ ∀ s ∈ l, s.size = 64) = false := decide_eq_false fun h => h c
      rw [e]
      try simp only [↓reduceIte, ↓LL, LM, Value.cells, Nat.reduceAdd, Option.some.injEq, exists_eq_left', decide_true, decide_false, if_true, if_false, reduceCtorEq, cond_true, cond_false]
      refine join_s (rdT_b b1 h) h4 c fun w2 b2 => ?_
      have := kk w2 (bt b1 b2)
      rw [joinB_ok h4 c] at this
      try simp only [↓reduceIte, ↓LL, LM, Value.cells, Nat.reduceAdd, Option.some.injEq, exists_eq_left', decide_true, decide_false, if_true, if_false, reduceCtorEq, cond_true, cond_false]
      exact this
    · have e : decide (¬ ∀ s ∈ l, s.size = 64) = true := decide_eq_true c
      rw [e]
      try simp only [↓reduceIte, ↓LL, LM, Value.cells, Nat.reduceAdd, Option.some.injEq, exists_eq_left', decide_true, decide_false, if_true, if_false, reduceCtorEq, cond_true, cond_false]
      have := kk w1 b1
      rw [joinB_bad fun e => c e.2] at this
      exact this
  · have h4' : ¬ ((l.length : Nat) : Int) = 4 := by omega
    try simp only [↓reduceIte, ↓LL, LM, Value.cells, Nat.reduceAdd, Option.some.injEq, exists_eq_left', decide_true, decide_false, if_true, if_false, reduceCtorEq, cond_true, cond_false, ne_eq, h4']
    have := kk w (Below.refl _ _)
    rw [joinB_bad fun e => h4 e.1] at this
    exact this
end
end Go.Proofs.YtongpnolikkknaaDoor

namespace Go.Proofs.YtongpnolikkknaaDoor
namespace Sh
open RowKit
section
variable {H : Type} {enc : TypeId × Value → H} {P : Program}
theorem trodAll_below (hl : laidOutB P = true) {W W' : World} (hb : Below W.heap.size W W') : ∀ (ts : List TypeId) (vs : List Value) (ds : List (DataW H)) (ps : List MemPlace),
    (∀ t ∈ ts, P.readableRec t = true ∧ t < P.types.size) → DataW.TrodAll enc P W 0 (fun _ => true) true ts vs ds ps → (∀ x ∈ ps, x.block < W.heap.size) →
    DataW.TrodAll enc P W' 0 (fun b => decide (b < W.heap.size)) true ts vs ds ps := by
  intro ts
  induction ts with
  | nil =>
    intro vs ds ps _ h _
    match vs, ds, h with
    | [], [], h => exact h
  | cons t ts ih =>
    intro vs ds ps ht h hp
    match vs, ds, h with
    | v :: vs, d :: ds, ⟨p, q, h1, h2, h3⟩ =>
      subst h3
      exact ⟨p, q, Below.trod hl (ht t (by simp)).1 (ht t (by simp)).2 h1 hb (fun x hx => hp x (by simp [hx])), ih vs ds q (fun u hu => ht u (by simp [hu])) h2 (fun x hx => hp x (by simp [hx])), rfl⟩
theorem trodAll_len : ∀ (ts : List TypeId) (vs : List Value) (ds : List (DataW H)) (ps : List MemPlace) {W : World}, DataW.TrodAll enc P W 0 (fun _ => true) true ts vs ds ps → ds.length = ts.length := by
  intro ts
  induction ts with
  | nil => intro vs ds ps W h; match vs, ds, h with | [], [], h => rfl
  | cons t ts ih => intro vs ds ps W h; match vs, ds, h with | v :: vs, d :: ds, ⟨p, q, h1, h2, h3⟩ => simp [ih vs ds q h2]
theorem law_post {fn : Func} {s : ChangeSpec} {apart : Bool} {W W' : World} {args : Array Value} {ds gs : List (DataW H)} {before : List MemPlace} {tb : TypeId} (hv : s.vars = []) (hl : laidOutB P = true)
    (hp : ∀ t ∈ fn.params.toList, P.readableRec t = true ∧ t < P.types.size) (hr : fn.resultTypes = #[tb]) (hb : P.underlying tb = some .bool)
    (hs : ∀ ds : List (DataW H), ds.length = fn.params.toList.length → (s.fn H ds).results = [.lit (.bool true)] ∧ (s.fn H ds).args = ds ∧ (s.fn H ds).vars = [])
    (hW : DataW.Whole enc P fn.params.toList s.vars apart W args.toList ds gs before) (h : Below W.heap.size W W') :
    s.post enc P fn apart true false false W args (.bool true) W' := by
  have hW0 := hW
  obtain ⟨p, q, hA, hV, rfl, hfz, hnd⟩ := hW
  rw [hv] at hV
  have hg : gs = [] ∧ q = [] := by
    cases gs with
    | nil => exact ⟨rfl, hV⟩
    | cons g gs => exact hV.elim
  obtain ⟨rfl, rfl⟩ := hg
  obtain ⟨e1, e2, e3⟩ := hs ds (trodAll_len _ _ _ _ hA)
  refine ⟨ds, [], p ++ [], [], p, [], hW0, ?_, ?_, ?_, Below.frame h _, fun h => by cases h⟩
  · rw [hr, List.append_nil, e1]
    exact ⟨[], [], ⟨1, by simp [DataW.trod, hb, Value.cells]⟩, rfl, rfl⟩
  · rw [List.append_nil, e2]
    exact trodAll_below hl h _ _ _ _ hp hA (fun x hx => by have := hW0.lt x (by simp [hx]); simpa using this)
  · rw [List.append_nil, hv, e3]
    rfl
end
end Sh
end Go.Proofs.YtongpnolikkknaaDoor

namespace Go.Proofs.YtongpnolikkknaaDoor
namespace Sh
open RowKit ChangeShapes
/-- all arguments, told by R -/
def OpensA (P : Program) (ts : List TypeId) (α : Type) (R : World → List Value → α → Prop) (bulk : α → Nat) : Prop :=
  ∀ {H : Type} (enc : TypeId × Value → H) (W : World) (vs : List Value) (ds : List (DataW H)) (ps : List MemPlace) (base : Nat),
    (∀ (j : Nat) t v, ts[j]? = some t → vs[j]? = some v → Value.okWide P W .any base t v) →
    DataW.TrodAll enc P W 0 (fun _ => true) true ts vs ds ps → (DataW.weightsEach P ts ds).all (· ≤ reachBytes) = true → ∃ a, R W vs a ∧ bulk a ≤ Rows.uptoBulkAll ds
section
variable {P : Program}
theorem oa_nil : OpensA P [] Unit (fun _ vs _ => vs = []) (fun _ => 0) := by
  intro H enc W vs ds ps base hv h _
  match vs, ds, h with
  | [], [], _ => exact ⟨(), rfl, Nat.zero_le _⟩
theorem OpensA.mono {ts : List TypeId} {α β : Type} {R : World → List Value → α → Prop} {S : World → List Value → β → Prop} {b : α → Nat} {c : β → Nat} (h : OpensA P ts α R b)
    (f : ∀ W vs a, R W vs a → ∃ x, S W vs x ∧ c x ≤ b a) : OpensA P ts β S c := by
  intro H enc W vs ds ps base hv hd hw
  obtain ⟨a, h1, h2⟩ := h enc W vs ds ps base hv hd hw
  obtain ⟨y, h3, h4⟩ := f W vs a h1
  exact ⟨y, h3, Nat.le_trans h4 h2⟩
theorem oa_one {t : TypeId} {ts : List TypeId} {α β : Type} {R : RepT α} {S : World → List Value → β → Prop} {b : α → Nat} {c : β → Nat} (h : Opens P t α R b) (hs : isSc P t = true) (h1 : ∀ w cs a, R w cs a → ∃ v, cs = [v])
    (hr : OpensA P ts β S c) : OpensA P (t :: ts) (α × β) (fun w vs x => ∃ v r, vs = v :: r ∧ R w [v] x.1 ∧ S w r x.2) (fun x => b x.1 + c x.2) := by
  intro H enc W vs ds ps base hv hd hw
  match vs, ds, hd with
  | v :: vs, d :: ds, ⟨p, q, k1, k2, k3⟩ =>
    simp only [DataW.weightsEach, List.all_append, Bool.and_eq_true] at hw
    obtain ⟨a, e1, e2⟩ := open_one h hs h1 (hv 0 t v rfl rfl) k1 hw.1
    obtain ⟨a', e3, e4⟩ := hr enc W vs ds q base (fun j t v g1 g2 => hv (j + 1) t v g1 g2) k2 hw.2
    exact ⟨(a, a'), ⟨v, vs, rfl, e1, e3⟩, by simp only [Rows.uptoBulkAll]; omega⟩
theorem oa_agg {t : TypeId} {n : Nat} {ts : List TypeId} {α β : Type} {R : RepT α} {S : World → List Value → β → Prop} {b : α → Nat} {c : β → Nat} (h : Opens P t α R b) (hs : isAg P t n = true)
    (hr : OpensA P ts β S c) : OpensA P (t :: ts) (α × β) (fun w vs x => ∃ cs r, vs = .agg cs :: r ∧ R w cs.toList x.1 ∧ S w r x.2) (fun x => b x.1 + c x.2) := by
  intro H enc W vs ds ps base hv hd hw
  match vs, ds, hd with
  | v :: vs, d :: ds, ⟨p, q, k1, k2, k3⟩ =>
    simp only [DataW.weightsEach, List.all_append, Bool.and_eq_true] at hw
    obtain ⟨a, cs, rfl, e1, e2⟩ := open_agg h hs (hv 0 t v rfl rfl) k1 hw.1
    obtain ⟨a', e3, e4⟩ := hr enc W vs ds q base (fun j t v g1 g2 => hv (j + 1) t v g1 g2) k2 hw.2
    exact ⟨(a, a'), ⟨cs, vs, rfl, e1, e3⟩, by simp only [Rows.uptoBulkAll]; omega⟩
end
section
variable {H : Type} {enc : TypeId × Value → H}
end
end Sh
end Go.Proofs.YtongpnolikkknaaDoor

namespace Go.Proofs.YtongpnolikkknaaDoor
namespace Sh
open RowKit ChangeShapes
def litV : DataW Unit → Value
  | .lit (.int k n) => .int k n
  | _ => .string ⟨#[]⟩
def flat1 : DataW Unit → List Value
  | .agg l => l.map litV
  | d => [litV d]
def flat2 : DataW Unit → List Value
  | .agg l => l.flatMap flat1
  | d => [litV d]
def putC (cs : List Value) : Obj → Obj
  | .cells _ t fr => .cells cs.toArray t fr
  | o => o
/-- the world in which a row's listed variables read as listed -/
noncomputable def laidW (P : Program) (l : List (String × DataW Unit)) (os : Os) : World :=
  { World.holding P os ⟨#[], #[], []⟩ with heap := l.foldl (fun h x => h.modify ((P.globalNamed x.1).getD 0) (putC (flat2 x.2))) (World.holding P os ⟨#[], #[], []⟩).heap }
section
variable {H : Type} {enc : TypeId × Value → H}
theorem law_from_laid {C : Checked} {os : Os} {f : FuncId} {fn : Func} {s : ChangeSpec} {conds : List PathCond} {X : World → Array Value → Prop} {tb : TypeId} {α : Type} {R : World → List Value → α → Prop} {b : α → Nat}
    (hX : ∀ (w w' : World) (args : Array Value), w.heap = w'.heap → X w args → X w' args)
    (own : ownKnob C.prog.godebug = none) (started : os.Started) (noInit : C.prog.inits.idxOf? f = none) (hfn : C.prog.funcs[f]? = some fn)
    (witness : ∃ (w : World) (tape : Tape) (i : Input), w.os = os ∧ (w.forCall tape i).Shaped C.prog ∧ i.vars = [] ∧ Input.okWide C.prog (w.forCall tape i) .any w.heap.size f i ∧
      ((s.pre enc C.prog fn conds false (w.forCall tape i).memory i.args ∧ X (w.forCall tape i).memory i.args) ∧ sizedMet enc C.prog fn (OpenSpec.ofChange s) false (w.forCall tape i).memory i.args) ∧ ({} : Assume).holds C.prog (lone (Frame.enter C.prog f i.args .normal) [] (w.forCall tape i)))
    (hv : s.vars = []) (hl : laidOutB C.prog = true) (hp : fn.params.toList.all (fun t => C.prog.readableRec t && decide (t < C.prog.types.size)) = true) (hr : fn.resultTypes = #[tb]) (hb : C.prog.underlying tb = some .bool)
    (hs : ∀ ds : List (DataW H), ds.length = fn.params.toList.length → (s.fn H ds).results = [.lit (.bool true)] ∧ (s.fn H ds).args = ds ∧ (s.fn H ds).vars = [])
    (oa : OpensA C.prog fn.params.toList α R b)
    (law : ∀ (W : World) (vs : List Value) (a : α), R W vs a → Calls C.prog f vs.toArray W (Rt fun v W' => v = .bool true ∧ Below W.heap.size W W')) :
    ReturnsInHanded {} C os f .any (fun w args => (s.pre enc C.prog fn conds false w args ∧ X w args) ∧ sizedMet enc C.prog fn (OpenSpec.ofChange s) false w args) (s.post enc C.prog fn false true false false) := by
  refine returnsInHanded_of_change_and (C := C) hX own started noInit hfn witness ?_
  intro W base args ds gs before hval hW _ hz _ _
  have hp' : ∀ t ∈ fn.params.toList, C.prog.readableRec t = true ∧ t < C.prog.types.size := fun t ht => by
    have := List.all_eq_true.1 hp t ht
    simpa using this
  have hW0 : DataW.Whole enc C.prog fn.params.toList s.vars false W args.toList ds gs before := hW
  obtain ⟨p, q, hA, hV, hq⟩ := hW
  have hg : gs = [] := by
    have hV : DataW.TrodVars enc C.prog W (fun _ => true) s.vars gs q := hV
    rw [hv] at hV
    cases gs with
    | nil => rfl
    | cons g gs => exact hV.elim
  subst hg
  have hvt : s.plain.varTypes C.prog = [] := by simp [ChangeSpec.plain, DataSpec.varTypes, hv]
  rw [hvt, List.append_nil, List.append_nil] at hz
  obtain ⟨a, h1, h2⟩ := oa enc W args.toList ds p base (fun j t v h1 h2 => hval j t v (by simpa using h1) (by simpa using h2)) hA hz
  refine (law W args.toList a h1).mono fun e W' he => ?_
  cases e with
  | returned v =>
    obtain ⟨hv', hbel⟩ := he
    subst hv'
    exact ⟨_, rfl, law_post hv hl hp' hr hb hs hW0 hbel⟩
  | panicked c => exact he.elim
  | outgrown => exact he.elim
end
end Sh
open Sh
theorem own : ownKnob Tryd.prog.godebug = none := by kernel_rfl
set_option maxRecDepth 1000000
theorem laidW_met (os : Os) (args : Array Value) : laidMet Tryd.prog Rows.undoDirectoryRow.laid ((laidW Tryd.prog Rows.undoDirectoryRow.laid os).forCall (fun _ _ => 0) ⟨#[], args, []⟩).memory :=
  laidMet_of_run' 8 (by kernel_rfl) (by kernel_rfl)
theorem laidW_metH (os : Os) (args : Array Value) : laidMetH Tryd.prog Rows.undoDirectoryRow.laid ((laidW Tryd.prog Rows.undoDirectoryRow.laid os).forCall (fun _ _ => 0) ⟨#[], args, []⟩).memory :=
  laidMetH_of_parts (laidW_met os args) (by kernel_rfl)
theorem no_stand {P : Program} {fn : Func} (h : fn.params.toList.all (fun t => !(P.wantsStandIn t)) = true) (j : Nat) (t : TypeId) (ht : fn.params[j]? = some t) : P.wantsStandIn t = false := by
  have := List.all_eq_true.1 h t (by rw [← Array.getElem?_toList] at ht; exact List.mem_of_getElem? ht)
  simpa using this
end Go.Proofs.YtongpnolikkknaaDoor

namespace Go.Proofs.YtongpnolikkknaaDoor
open Sh RowKit Go.MapKept
theorem ui : Tryd.prog.underlying 3 = some (.int .i64) := by kernel_rfl
theorem ub : Tryd.prog.underlying 4 = some .bool := by kernel_rfl
theorem scI : isSc Tryd.prog 3 = true := by kernel_rfl
theorem one_cell {x y : Value} (h : [x] = [y]) : x = y := (List.cons.inj h).1
theorem ua2 : Tryd.prog.underlying 35 = some (.array 2 3) := by kernel_rfl
theorem ag2 : isAg Tryd.prog 35 2 = true := by kernel_rfl
theorem opA2 : Opens Tryd.prog 35 (Int × Int) (fun _ cs x => cs = [.int .i64 x.1, .int .i64 x.2]) (fun _ => 0) := by
  refine Opens.mono (op_arr ua2 (n := 1) (k := 2) (by kernel_rfl) (by kernel_rfl) (op_int ui)) ?_
  rintro w cs l ⟨h1, h2, h3⟩
  match cs, h1, l, h2, h3 with
  | [c0, c1], _, [a, b], _, h3 =>
    have e0 := (h3 0 (by simp)).1
    have e1 := (h3 1 (by simp)).1
    have e0' : c0 = .int .i64 a := one_cell e0
    have e1' : c1 = .int .i64 b := one_cell e1
    exact ⟨(a, b), by rw [e0', e1'], Nat.zero_le _⟩
end Go.Proofs.YtongpnolikkknaaDoor

namespace Go.Proofs.YtongpnolikkknaaDoor
namespace Sh
open RowKit ChangeShapes
section
variable {H : Type} {enc : TypeId × Value → H}
end
end Sh
end Go.Proofs.YtongpnolikkknaaDoor

set_option maxRecDepth 20000
namespace Go.Proofs.YtongpnolikkknaaDoor
open Sh RowKit Go.MapKept
theorem build60 (g k l m : Nat) (w : World) : (Instr.build 108 #[(0, .slice (some ⟨g, 0, none⟩) k l), (1, .map (some m)), (3, .int .i64 4611686018427387904)]).run Tryd.prog w = .ok (.agg #[.slice (some ⟨g, 0, none⟩) k l, .map (some m), .int .i64 0, .int .i64 4611686018427387904]) w := by
  kernel_rfl
theorem sla_all {n g : Nat} {w : World} {K : Value → M} {Q : Value → World → Prop} (h0 : n ≠ 0) (k : K (.slice (some ⟨g, 0, none⟩) n n) w Q) : sla n 1 (.pointer (some ⟨g, 0, none⟩)) none none K w Q := by
  refine ⟨⟨g, 0, none⟩, 0, n, rfl, rfl, rfl, ?_⟩
  rw [if_neg h0]
  exact k
theorem box_rd {w : World} {g : Nat} {x : Sct} {t : TypeId} {fr : Nat × Nat} (h : w.heap[g]? = some (.cells (encS x).toArray t fr)) : rdI .u8 w (.slice (some ⟨g, 0, none⟩) 64 64) (byL x.1) := by
  have hl : (byL x.1).length = 64 := by rw [byL_len, x.2]
  refine ⟨some ⟨g, 0, none⟩, 64, by rw [hl], fun i hi => ⟨_, rfl, ?_⟩⟩
  rw [add_lit, Nat.zero_add, cell_of_blk h]
  simp [encS, hi]
section
variable {B : Nat} {w : World} {p b : Nat} {v : Value} {D : Dv} {Q : Value → World → Prop}
theorem at_lt {i : Int} {x : Sec} (h : D.at i = some x) : 0 ≤ i ∧ i < D.A.length ∧ D.A[i.toNat]? = some x := by
  unfold Dv.at at h
  split at h
  · rename_i c
    have := (List.getElem?_eq_some_iff.1 h).1
    exact ⟨c, by omega, h⟩
  · cases h
theorem at_some {i : Int} (h0 : 0 ≤ i) (h1 : i < D.A.length) : ∃ x, D.at i = some x := by
  unfold Dv.at
  rw [if_pos h0]
  exact ⟨_, List.getElem?_eq_getElem (by omega)⟩
theorem at_none {i : Int} (h : i < 0 ∨ (D.A.length : Int) ≤ i) : D.at i = none := by
  unfold Dv.at
  split
  · exact List.getElem?_eq_none (by omega)
  · rfl
/-- what the map says -/
theorem lk_dev {L : List (Int × Sct)} (hm : MapAt kI w b (L.map fun q => (q.1, .agg (encS q.2).toArray))) (hl : ∀ i x, (i, x) ∈ L ↔ (D.at i).bind (·.u) = some x) (i : Int) :
    lk (L.map fun q => (q.1, Value.agg (encS q.2).toArray)) i = ((D.at i).bind (·.u)).map fun x => .agg (encS x).toArray := by
  cases h : (D.at i).bind (·.u) with
  | none =>
    rw [Option.map_none, lk_none]
    intro q hq e
    obtain ⟨a, ha, rfl⟩ := List.mem_map.1 hq
    have := (hl a.1 a.2).1 ha
    simp only at e
    rw [e, h] at this
    cases this
  | some x =>
    rw [Option.map_some]
    exact mem_lk hm.nodup (List.mem_map.2 ⟨(i, x), (hl i x).2 h, rfl⟩)
theorem f70_j {g : Nat} {x : Sct} {t : TypeId} {fr : Nat × Nat} (h : w.heap[g]? = some (.cells (encS x).toArray t fr)) (k : Q (.string x.1) w) : f70_j1 (pv g) w Q := by
  unfold f70_j1
  refine sla_all (by decide) ?_
  refine cvb sl61 ud5 str9 (box_rd h) ?_
  rw [son_byL]
  exact k
theorem f70_s (hd : DevAt B w p v b D) (i : Int) (h : ∀ w', Below w.heap.size w w' → Q (.string (D.rd i)) w') : f70 (pv p) (.int .i64 i) w Q := by
  unfold f70
  have c0 := hd.c0
  have c1 := hd.c1
  obtain ⟨a, cp, hv⟩ := hd.len
  obtain ⟨L, hm, hl⟩ := hd.mp
  rw [pn_eq pt23]
  by_cases h0 : i < 0
  · simp only [↓reduceIte, ↓LL, LM, Value.cells, Nat.reduceAdd, Option.some.injEq, exists_eq_left', decide_true, decide_false, if_true, if_false, reduceCtorEq, cond_true, cond_false, Option.isNone, h0]
    have e : D.rd i = ⟨#[]⟩ := by unfold Dv.rd; rw [at_none (.inl h0)]; rfl
    rw [← e]; exact h w (Below.refl _ w)
  · by_cases hi : (D.A.length : Int) ≤ i
    · rw [hv] at c0
      simp only [↓reduceIte, ↓LL, LM, Value.cells, Nat.reduceAdd, Option.some.injEq, exists_eq_left', decide_true, decide_false, if_true, if_false, reduceCtorEq, cond_true, cond_false, Option.isNone, h0, c0, hi]
      have e : D.rd i = ⟨#[]⟩ := by unfold Dv.rd; rw [at_none (.inr hi)]; rfl
      rw [← e]; exact h w (Below.refl _ w)
    · obtain ⟨x, hx⟩ := at_some (D := D) (i := i) (by omega) (by omega)
      have hr : D.rd i = x.now.1 := by unfold Dv.rd; rw [hx]; rfl
      rw [hr] at h
      have c0' := c0
      rw [hv] at c0'
      simp only [↓reduceIte, ↓LL, LM, Value.cells, Nat.reduceAdd, Option.some.injEq, exists_eq_left', decide_true, decide_false, if_true, if_false, reduceCtorEq, cond_true, cond_false, Option.isNone, h0, c0', hi, c1]
      refine Eq.mpr (look_ok (kv := kI) KK hm z63 i) ?_
      rw [lk_dev hm hl, hx]
      obtain ⟨n, rfl⟩ := Int.eq_ofNat_of_zero_le (show 0 ≤ i by omega)
      have hn : n < D.A.length := by omega
      have hxn : D.A[n] = x := by
        have := (at_lt hx).2.2
        rw [Int.toNat_natCast, List.getElem?_eq_getElem hn] at this
        exact Option.some.inj this
      have hb1 := b_psh w (.cells (Array.replicate 64 (.int .u8 0)) 113)
      have blk := blk_psh_new (w := w) (o := .cells (Array.replicate 64 (.int .u8 0)) 113)
      cases hu : x.u with
      | none =>
        simp only [↓reduceIte, ↓LL, LM, Value.cells, Nat.reduceAdd, Option.some.injEq, exists_eq_left', decide_true, decide_false, if_true, if_false, reduceCtorEq, cond_true, cond_false, Option.bind_some, hu, Option.map_none, Option.getD_none, Option.isSome_none]
        refine stn_box blk (by simp) (by simp) (by intro v hv; simp at hv; rw [hv]; rfl) fun w2 h2 hu2 => ?_
        have hb2 : Below w.heap.size w w2 := hb1.trans (hu2.below (Nat.le_refl _))
        have d2 := hd.below hb2
        have e0 := d2.c0
        obtain ⟨ad, es, he1, he2, he3, hia⟩ := rdS_at (ownE_rd encS_len (by decide) d2.own) (i := n) (by rw [List.length_map]; exact hn)
        simp only [↓reduceIte, ↓LL, LM, Value.cells, Nat.reduceAdd, Option.some.injEq, exists_eq_left', decide_true, decide_false, if_true, if_false, reduceCtorEq, cond_true, cond_false, e0, hia]
        refine ldn_at he2 he1 ?_
        have he3 : es = encS x.s := by rw [he3, List.getElem_map, hxn]
        rw [he3]
        refine stn_box h2 (by simp) (by simp [encS_len]) (by simpa using encS_one x.s) fun w3 h3 hu3 => ?_
        try simp only [↓reduceIte, ↓LL, LM, Value.cells, Nat.reduceAdd, Option.some.injEq, exists_eq_left', decide_true, decide_false, if_true, if_false, reduceCtorEq, cond_true, cond_false]
        refine f70_j h3 ?_
        have : x.now = x.s := by unfold Sec.now; rw [hu]; rfl
        rw [this] at h
        exact h w3 (hb2.trans (hu3.below (Nat.le_refl _)))
      | some y =>
        simp only [↓reduceIte, ↓LL, LM, Value.cells, Nat.reduceAdd, Option.some.injEq, exists_eq_left', decide_true, decide_false, if_true, if_false, reduceCtorEq, cond_true, cond_false, Option.bind_some, hu, Option.map_some, Option.getD_some, Option.isSome_some]
        refine stn_box blk (by simp) (by simp [encS_len]) (by simpa using encS_one y) fun w2 h2 hu2 => ?_
        have hb2 : Below w.heap.size w w2 := hb1.trans (hu2.below (Nat.le_refl _))
        try simp only [↓reduceIte, ↓LL, LM, Value.cells, Nat.reduceAdd, Option.some.injEq, exists_eq_left', decide_true, decide_false, if_true, if_false, reduceCtorEq, cond_true, cond_false]
        refine f70_j h2 ?_
        have : x.now = y := by unfold Sec.now; rw [hu]; rfl
        rw [this] at h
        exact h w2 hb2
/-- a new device -/
theorem f37_s (n : Int) {k : Nat} (hk : ((k : Nat) : Int) = min (max n 0) 4096) (hB : B ≤ w.heap.size) (h : ∀ w' p v b, w.heap.size ≤ p → w.heap.size ≤ b → DevAt B w' p v b (newD k) → (∀ x, fpD p v b x → w.heap.size ≤ x) → Below w.heap.size w w' → Q (pv p) w') : f37 (.int .i64 n) w Q := by
  unfold f37
  simp only [↓reduceIte, ↓LL, LM, Value.cells, Nat.reduceAdd, Option.some.injEq, exists_eq_left', decide_true, decide_false, if_true, if_false, reduceCtorEq, cond_true, cond_false]
  have e : (if (4096 : Int) < (if n < 0 then 0 else n) then 4096 else (if n < 0 then 0 else n)) = ((k : Nat) : Int) := by omega
  rw [e]
  have hk2 : k ≤ 4096 := by omega
  refine mkE (enc := encS) (x := pad ⟨#[]⟩) (B := w.heap.size) sl57 rfl (by decide) encS_nil (by omega) (by omega) (Nat.le_refl _) fun w1 v1 hv1 ho hb1 => ?_
  subst hv1
  try simp only [↓reduceIte, ↓LL, LM, Value.cells, Nat.reduceAdd, Option.some.injEq, exists_eq_left', decide_true, decide_false, if_true, if_false, reduceCtorEq, cond_true, cond_false]
  refine mm_map (kv := kI) fun w2 hm hb2 => ?_
  try simp only [↓reduceIte, ↓LL, LM, Value.cells, Nat.reduceAdd, Option.some.injEq, exists_eq_left', decide_true, decide_false, if_true, if_false, reduceCtorEq, cond_true, cond_false]
  rw [smr_run (build60 _ _ _ _ w2)]
  simp only [↓reduceIte, ↓LL, LM, Value.cells, Nat.reduceAdd, Option.some.injEq, exists_eq_left', decide_true, decide_false, if_true, if_false, reduceCtorEq, cond_true, cond_false]
  have b12 := bt hb1 hb2
  have b3 := b_psh w2 (.cells #[.slice (some ⟨w.heap.size, 0, none⟩) k k, .map (some w1.heap.size), .int .i64 0, .int .i64 4611686018427387904] 108)
  refine h _ _ _ _ b12.size hb1.size ⟨Nat.le_trans hB b12.size, Nat.le_trans hB hb1.size, ?_, blk_psh_new, ?_, [], hm.below b3, fun i x => ?_⟩ ?_ (bt b12 b3)
  · simpa [newD] using hk2
  · have := ownE_below (ownE_below ho hb2) b3
    have e2 : (newD k).A.map (·.s) = List.replicate k (pad ⟨#[]⟩) := by simp [newD]
    rw [e2]
    exact ownE_weak this hB
  · have : ((newD k).at i).bind (·.u) = none := by
      unfold Dv.at newD
      split
      · simp only [List.getElem?_replicate]
        split <;> rfl
      · rfl
    rw [this]
    simp
  · rintro x (rfl | rfl | hx)
    · exact b12.size
    · exact hb1.size
    · cases hx; exact Nat.le_refl _
end
end Go.Proofs.YtongpnolikkknaaDoor

set_option maxRecDepth 20000
namespace Go.Proofs.YtongpnolikkknaaDoor
open Sh RowKit Go.MapKept
def putS (L : List (Int × Sct)) (k : Int) (v : Sct) : List (Int × Sct) := if k ∈ L.map (·.1) then L.map (fun p => if p.1 = k then (k, v) else p) else L ++ [(k, v)]
theorem put_map (L : List (Int × Sct)) (k : Int) (v : Sct) : put (L.map fun q => (q.1, Value.agg (encS q.2).toArray)) k (.agg (encS v).toArray) = (putS L k v).map fun q => (q.1, Value.agg (encS q.2).toArray) := by
  unfold put putS
  have e : (L.map fun q => (q.1, Value.agg (encS q.2).toArray)).map (·.1) = L.map (·.1) := by rw [List.map_map]; rfl
  rw [e]
  split
  · rw [List.map_map, List.map_map]
    refine List.map_congr_left fun q _ => ?_
    simp only [Function.comp]
    split <;> rfl
  · rw [List.map_append]; rfl
theorem putS_mem {L : List (Int × Sct)} {k : Int} {v : Sct} (i : Int) (x : Sct) : (i, x) ∈ putS L k v ↔ if i = k then x = v else (i, x) ∈ L := by
  unfold putS
  split
  · rename_i c
    obtain ⟨q, hq, rfl⟩ := List.mem_map.1 c
    rw [List.mem_map]
    split
    · rename_i e
      subst e
      constructor
      · rintro ⟨r, hr, e⟩
        split at e
        · cases e; rfl
        · rename_i h; exact absurd (by rw [e]) h
      · rintro rfl
        exact ⟨q, hq, by simp⟩
    · rename_i e
      constructor
      · rintro ⟨r, hr, e'⟩
        split at e'
        · cases e'; exact absurd rfl e
        · rw [← e']; exact hr
      · intro h
        exact ⟨(i, x), h, by simp [e]⟩
  · rename_i c
    rw [List.mem_append, List.mem_singleton]
    split
    · rename_i e
      subst e
      constructor
      · rintro (h | h)
        · exact absurd (List.mem_map.2 ⟨_, h, rfl⟩) c
        · cases h; rfl
      · rintro rfl; exact .inr rfl
    · rename_i e
      constructor
      · rintro (h | h)
        · exact h
        · cases h; exact absurd rfl e
      · exact .inl
section
variable {B : Nat} {w : World} {p b : Nat} {v : Value} {D : Dv} {Q : Value → World → Prop}
theorem at_set {i : Int} {x y : Sec} (h : D.at i = some x) (j : Int) : (D.set i.toNat y).at j = if j = i then some y else D.at j := by
  obtain ⟨h0, h1, h2⟩ := at_lt h
  unfold Dv.at Dv.set
  simp only [List.getElem?_set]
  by_cases c : j = i
  · subst c
    have : j.toNat < D.A.length := by omega
    simp [h0, this]
  · rw [if_neg c]
    by_cases hj : 0 ≤ j
    · have : ¬ i.toNat = j.toNat := by omega
      simp [hj, this]
    · simp [hj]
theorem set_s {i : Int} {x : Sec} (h : D.at i = some x) (u : Option Sct) : ((D.set i.toNat ⟨x.s, u⟩).A.map (·.s)) = D.A.map (·.s) := by
  obtain ⟨h0, h1, h2⟩ := at_lt h
  unfold Dv.set
  rw [List.map_set]
  apply List.ext_getElem?
  intro j
  rw [List.getElem?_set]
  split
  · rename_i e
    subst e
    rw [List.length_map, if_pos (by omega), List.getElem?_map, h2]
    rfl
  · rfl
/-- what isn't sure stored in the map -/
theorem DevAt.put {w' : World} {i : Int} {x : Sec} {y : Sct} (hd : DevAt B w p v b D) (hx : D.at i = some x) {L : List (Int × Sct)} (hl : ∀ i x, (i, x) ∈ L ↔ (D.at i).bind (·.u) = some x)
    (hm : MapAt kI w' b (put (L.map fun q => (q.1, Value.agg (encS q.2).toArray)) i (.agg (encS y).toArray))) (hu : Upd b w w') : DevAt B w' p v b (D.set i.toNat ⟨x.s, some y⟩) := by
  refine ⟨hd.pB, hd.bB, by simpa [Dv.set] using hd.n, ?_, ?_, putS L i y, by rw [← put_map]; exact hm, fun j z => ?_⟩
  · rw [hu.block p hd.pb]; exact hd.hp
  · rw [set_s hx]; exact ownE_stay hd.own (fun g hg => hu.block g (hd.gblk g hg).2.1)
  · rw [putS_mem, at_set hx]
    split
    · simp [eq_comm]
    · exact hl j z
theorem f40_s (hd : DevAt B w p v b D) (h0 : 0 ≤ D.c) (h1 : D.c ≤ 1000000) (i : Int) (s : ByteArray) (h : ∀ w', DevAt B w' p v b (D.wr i s).2 → ChgS (fpD p v b) w w' → Q (.int .i64 (D.wr i s).1) w') : f40 (pv p) (.int .i64 i) (.string s) w Q := by
  unfold f40
  simp only [↓reduceIte, ↓LL, LM, Value.cells, Nat.reduceAdd, Option.some.injEq, exists_eq_left', decide_true, decide_false, if_true, if_false, reduceCtorEq, cond_true, cond_false]
  refine f72_s hd h0 h1 fun w1 d1 hu1 => ?_
  have ch1 : ChgS (fpD p v b) w w1 := ChgS.of_upd hu1 (.inl rfl)
  by_cases ch : D.h < D.c + 1
  · simp only [↓reduceIte, ↓LL, LM, Value.cells, Nat.reduceAdd, Option.some.injEq, exists_eq_left', decide_true, decide_false, if_true, if_false, reduceCtorEq, cond_true, cond_false, ch, if_true]
    have e : D.wr i s = (9, D.tick) := by unfold Dv.wr; rw [if_pos ch]
    rw [e] at h
    exact h w1 d1 ch1
  have c0 := d1.c0
  obtain ⟨a, cp, hv⟩ := d1.len
  have c0' := c0
  rw [hv] at c0'
  have eA : D.tick.A = D.A := rfl
  rw [eA] at c0'
  by_cases hi0 : i < 0
  · have e : D.wr i s = (7, D.tick) := by unfold Dv.wr; rw [if_neg ch, at_none (.inl hi0)]
    rw [e] at h
    simp only [↓reduceIte, ↓LL, LM, Value.cells, Nat.reduceAdd, Option.some.injEq, exists_eq_left', decide_true, decide_false, if_true, if_false, reduceCtorEq, cond_true, cond_false, ch, if_false, hi0]
    exact h w1 d1 ch1
  by_cases hi1 : (D.A.length : Int) ≤ i
  · have e : D.wr i s = (7, D.tick) := by unfold Dv.wr; rw [if_neg ch, at_none (.inr hi1)]
    rw [e] at h
    simp only [↓reduceIte, ↓LL, LM, Value.cells, Nat.reduceAdd, Option.some.injEq, exists_eq_left', decide_true, decide_false, if_true, if_false, reduceCtorEq, cond_true, cond_false, ch, if_false, hi0, c0', hi1]
    exact h w1 d1 ch1
  obtain ⟨x, hx⟩ := at_some (D := D) (i := i) (by omega) (by omega)
  by_cases hs : 64 < s.size
  · have e : D.wr i s = (3, D.tick) := by unfold Dv.wr; rw [if_neg ch, hx]; simp only [hs, if_true]
    rw [e] at h
    have hs' : (64 : Int) < s.size := by omega
    simp only [↓reduceIte, ↓LL, LM, Value.cells, Nat.reduceAdd, Option.some.injEq, exists_eq_left', decide_true, decide_false, if_true, if_false, reduceCtorEq, cond_true, cond_false, ch, if_false, hi0, c0', hi1, hs']
    exact h w1 d1 ch1
  have e : D.wr i s = (0, D.tick.set i.toNat ⟨x.s, some (pad s)⟩) := by unfold Dv.wr; rw [if_neg ch, hx]; simp only [hs, if_false]
  rw [e] at h
  have hs' : ¬ (64 : Int) < s.size := by omega
  simp only [↓reduceIte, ↓LL, LM, Value.cells, Nat.reduceAdd, Option.some.injEq, exists_eq_left', decide_true, decide_false, if_true, if_false, reduceCtorEq, cond_true, cond_false, ch, if_false, hi0, c0', hi1, hs']
  have b2 := b_psh w1 (.cells (Array.replicate 64 (.int .u8 0)) 113)
  have blk := blk_psh_new (w := w1) (o := .cells (Array.replicate 64 (.int .u8 0)) 113)
  refine sla_all (by decide) ?_
  have hr := run_copy_str (P := Tryd.prog) (dT := 66) (sT := 9) (ty := 3) (o := 0) (dLen := 64) (dCap := 64) (s := s) Tryd.underlying66 (by kernel_rfl) blk (by omega) (by simp; omega)
  refine ⟨_, _, hr, ?_⟩
  obtain ⟨u3, hb3⟩ := Upd_setRow (cs := (ovl (Array.replicate 64 (Value.int .u8 0)).toList 0 ((byL s).map (.int .u8))).toArray) blk
  have eo : ovl (Array.replicate 64 (Value.int .u8 0)).toList 0 ((byL s).map (.int .u8)) = encS (pad s) := by
    rw [encS_pad]
    unfold ovl padL
    have e64 : (byL s).take 64 = byL s := List.take_of_length_le (by rw [byL_len]; omega)
    rw [List.length_map, byL_len, e64, Array.toList_replicate, List.take_zero, List.nil_append, Nat.zero_add, List.drop_replicate, List.map_append, List.map_replicate]
  rw [eo] at u3 hb3 ⊢
  generalize hw3 : (psh w1 (.cells (Array.replicate 64 (.int .u8 0)) 113)).setRow w1.heap.size (encS (pad s)).toArray = w3 at *
  have b3 : Below w1.heap.size w1 w3 := b2.trans (u3.below (Nat.le_refl _))
  have d3 := d1.below b3
  have k1 : (drw w3).cell? ⟨p, 1, none⟩ = _ := d3.c1
  simp only [↓reduceIte, ↓LL, LM, Value.cells, Nat.reduceAdd, Option.some.injEq, exists_eq_left', decide_true, decide_false, if_true, if_false, reduceCtorEq, cond_true, cond_false, k1]
  refine ldn_box (show (drw w3).heap[_]? = _ from hb3) (by simp [encS_len]) ?_
  obtain ⟨L, hm, hl⟩ := d3.mp
  refine upd_map (kv := kI) KK (show MapAt kI (drw w3) b _ from hm) i _ fun w4 hm4 hu4 => ?_
  simp only [↓reduceIte, ↓LL, LM, Value.cells, Nat.reduceAdd, Option.some.injEq, exists_eq_left', decide_true, decide_false, if_true, if_false, reduceCtorEq, cond_true, cond_false]
  refine h w4 (d3.drw.put (D := D.tick) hx hl hm4 hu4) ?_
  refine ch1.trans (T := fpD p v b) (ChgS.of_below b3 |>.trans ((ChgS.refl (fpD p v b) w3).drw |>.trans (ChgS.of_upd hu4 (.inr (.inl rfl))) (fun _ _ h => h)) (fun _ _ h => h)) (fun _ _ h => h)
end
end Go.Proofs.YtongpnolikkknaaDoor

set_option maxRecDepth 20000
namespace Go.Proofs.YtongpnolikkknaaDoor
open Sh RowKit Go.MapKept
abbrev vL (L : List (Int × Sct)) : List (Int × Value) := L.map fun q => (q.1, Value.agg (encS q.2).toArray)
section
variable {B : Nat} {w : World} {p b : Nat} {v : Value} {D : Dv} {Q : Value → World → Prop}
/-- what is sure behind some of the map's entries -/
def partS (A : List Sec) (rest : List (Int × Sct)) (S : List Sct) : Prop := S.length = A.length ∧ ∀ (i : Nat) x, A[i]? = some x → S[i]? = some (if (i : Int) ∈ rest.map (·.1) then x.s else x.now)
theorem f41_loop {r : Nat} {L : List (Int × Sct)} (hn : D.A.length ≤ 4096) (hl : ∀ i x, (i, x) ∈ L ↔ (D.at i).bind (·.u) = some x) (hpB : B ≤ p) (hbB : B ≤ b) (hrB : B ≤ r) (hrb : r ≠ b) (hpb : p ≠ b) (hrp : r ≠ p) :
    ∀ (d m : Nat) (rest : List (Int × Sct)) (w : World) (S : List Sct), rest.length = d → d < m → (∀ q ∈ rest, q ∈ L) → (rest.map (·.1)).Nodup →
    w.heap[p]? = some (.cells #[v, .map (some b), .int .i64 D.c, .int .i64 D.h] 108 (0, 0)) → ownE B 113 64 encS w v S → partS D.A rest S → RangeAt kI w r b (vL L) (vL rest) → (∀ g, v.ownBlock = some g → g ≠ r ∧ g ≠ p ∧ g ≠ b) →
    (∀ w', DevAt B w' p v b { D with A := D.A.map fun x => ⟨x.now, none⟩ } → ChgS (fun k => fpD p v b k ∨ k = r) w w' → Q (.int .i64 0) w') →
    itr (fun _ _ => bot) (f41_b2 f41_j1) m (pv p) (.pointer (some ⟨r, 0, none⟩)) w Q := by
  intro d
  induction d with
  | zero =>
    intro m rest w S hr hm hsub hnd hp ho hS hR hg kk
    obtain ⟨m, rfl⟩ : ∃ x, m = x + 1 := ⟨m - 1, by omega⟩
    show f41_b2 f41_j1 _ _ _ w Q
    unfold f41_b2
    obtain rfl : rest = [] := List.length_eq_zero_iff.1 hr
    refine next_map_e hrb hR (fun _ => ?_) (fun i hi => absurd hi (by simp))
    have c1 : w.cell? ⟨p, 1, none⟩ = some (.map (some b)) := by rw [cell_of_blk hp]; rfl
    unfold f41_j1
    have get1 : (#[Value.bool false] : Array Value)[0]? = some (.bool false) := rfl
    simp only [↓reduceIte, ↓LL, LM, Value.cells, Nat.reduceAdd, Option.some.injEq, exists_eq_left', decide_true, decide_false, if_true, if_false, reduceCtorEq, cond_true, cond_false, get1, c1]
    refine clear_map (kv := kI) KK hR.map fun w' hm' hu => ?_
    simp only [↓reduceIte, ↓LL, LM, Value.cells, Nat.reduceAdd, Option.some.injEq, exists_eq_left', decide_true, decide_false, if_true, if_false, reduceCtorEq, cond_true, cond_false]
    refine kk w' ⟨hpB, hbB, by simpa using hn, ?_, ?_, [], hm', fun i x => ?_⟩ (ChgS.of_upd hu (.inl (.inr (.inl rfl))))
    · rw [hu.block p hpb]; exact hp
    · have e : (D.A.map fun x => (⟨x.now, none⟩ : Sec)).map (·.s) = S := by
        apply List.ext_getElem?
        intro i
        rw [List.map_map, List.getElem?_map]
        cases hx : D.A[i]? with
        | none =>
          have := List.getElem?_eq_none_iff.1 hx
          rw [Option.map_none, List.getElem?_eq_none (by rw [hS.1]; exact this)]
        | some x => rw [hS.2 i x hx]; simp
      show ownE B 113 64 encS w' v ((D.A.map fun x => (⟨x.now, none⟩ : Sec)).map (·.s))
      rw [e]
      exact ownE_stay ho (fun g h => hu.block g (hg g h).2.2)
    · have : (({ D with A := D.A.map fun x => ⟨x.now, none⟩ } : Dv).at i).bind (·.u) = none := by
        unfold Dv.at
        split
        · simp only [List.getElem?_map]
          cases D.A[i.toNat]? <;> rfl
        · rfl
      rw [this]
      simp
  | succ d ih =>
    intro m rest w S hr hm hsub hnd hp ho hS hR hg kk
    obtain ⟨m, rfl⟩ : ∃ x, m = x + 1 := ⟨m - 1, by omega⟩
    show f41_b2 f41_j1 _ _ _ w Q
    unfold f41_b2
    refine next_map_e hrb hR (fun h0 => absurd h0 (by intro e; rw [List.map_eq_nil_iff] at e; rw [e] at hr; simp at hr)) (fun j hj w1 hR1 hc1 hent => ?_)
    rw [List.length_map] at hj
    have he := hent w1 rfl rfl
    simp only [List.getElem_map] at he ⊢
    have get1 : ∀ (a c : Value), (#[Value.bool true, a, c] : Array Value)[0]? = some (.bool true) := fun _ _ => rfl
    simp only [↓reduceIte, ↓LL, LM, Value.cells, Nat.reduceAdd, Option.some.injEq, exists_eq_left', decide_true, decide_false, if_true, if_false, reduceCtorEq, cond_true, cond_false, get1]
    rw [smr_run he]
    have b2 := b_psh w1 (.cells (Array.replicate 64 (.int .u8 0)) 113)
    have blk := blk_psh_new (w := w1) (o := .cells (Array.replicate 64 (.int .u8 0)) 113)
    simp only [↓reduceIte, ↓LL, LM, Value.cells, Nat.reduceAdd, Option.some.injEq, exists_eq_left', decide_true, decide_false, if_true, if_false, reduceCtorEq, cond_true, cond_false]
    refine stn_box blk (by simp) (by simp [encS_len]) (by simpa using encS_one _) fun w2 h2 hu2 => ?_
    have hb2 : Below w1.heap.size w1 w2 := b2.trans (hu2.below (Nat.le_refl _))
    have hp1 := hc1.keep hp hrp.symm
    have hp2 := stay hb2 hp1
    have k0 : (drw w2).cell? ⟨p, 0, none⟩ = some v := by
      show w2.cell? _ = _
      rw [cell_of_blk hp2]; rfl
    simp only [↓reduceIte, ↓LL, LM, Value.cells, Nat.reduceAdd, Option.some.injEq, exists_eq_left', decide_true, decide_false, if_true, if_false, reduceCtorEq, cond_true, cond_false, k0]
    refine ldn_box (show (drw w2).heap[_]? = _ from h2) (by simp [encS_len]) ?_
    have hmem : rest[j] ∈ rest := List.getElem_mem hj
    have hLm := (hl rest[j].1 rest[j].2).1 (hsub _ hmem)
    obtain ⟨x, hx, hxu⟩ : ∃ x, D.at rest[j].1 = some x ∧ x.u = some rest[j].2 := by
      cases hx : D.at rest[j].1 with
      | none => rw [hx] at hLm; cases hLm
      | some x => rw [hx] at hLm; exact ⟨x, rfl, hLm⟩
    obtain ⟨q0, q1, q2⟩ := at_lt hx
    generalize hy : rest[j].2 = y at *
    generalize hk : rest[j].1 = key at *
    obtain ⟨n, rfl⟩ := Int.eq_ofNat_of_zero_le q0
    rw [Int.toNat_natCast] at q2
    have hg2 : ∀ g, v.ownBlock = some g → w2.heap[g]? = w.heap[g]? := fun g hgv => by
      obtain ⟨z1, z2, _⟩ := ownE_blk ho g hgv
      rw [hb2.block g (Nat.lt_of_lt_of_le z2 hc1.size), hc1.block g z2 (hg g hgv).1]
    have ho2 : ownE B 113 64 encS (drw w2) v S := ownE_stay ho hg2
    refine ia_stnE (j := .i64) (i := n) (y := y) encS_len encS_one ho2 (by rw [hS.1]; omega) fun w4 g hgv ho4 hu4 => ?_
    have hR2 : RangeAt kI (drw w2) r b (vL L) (vL (rest.eraseIdx j)) := by
      have := hR1.below hb2
      rw [← map_eraseIdx'] at this
      exact this
    have hR4 := hR2.stay (hu4.block b (fun e => (hg g hgv).2.2 e.symm)) (hu4.block r (fun e => (hg g hgv).1 e.symm))
    have hp4 : w4.heap[p]? = _ := (hu4.block p (fun e => (hg g hgv).2.1 e.symm)).trans hp2
    have hkeys : (rest.eraseIdx j).map (·.1) = (rest.map (·.1)).eraseIdx j := map_eraseIdx' _ _ _
    have hjk : (rest.map (·.1))[j]'(by simpa using hj) = (n : Int) := by rw [List.getElem_map]; exact hk
    try simp only [↓reduceIte, ↓LL, LM, Value.cells, Nat.reduceAdd, Option.some.injEq, exists_eq_left', decide_true, decide_false, if_true, if_false, reduceCtorEq, cond_true, cond_false]
    refine ih m (rest.eraseIdx j) w4 (S.set n y) (by rw [List.length_eraseIdx_of_lt hj]; omega) (by omega) (fun q hq => hsub q (List.mem_of_mem_eraseIdx hq)) (by rw [hkeys]; exact hnd.sublist (List.eraseIdx_sublist _ _)) hp4 ho4 ⟨by rw [List.length_set]; exact hS.1, fun i z hz => ?_⟩ hR4 hg fun w' hd' hc' => kk w' hd' ?_
    · rw [List.getElem?_set]
      split
      · rename_i e
        subst e
        rw [if_pos (by rw [hS.1]; omega)]
        rw [q2] at hz; cases hz
        have : ¬ ((n : Int) ∈ (rest.eraseIdx j).map (·.1)) := by
          rw [hkeys]
          intro hc
          obtain ⟨a, ha, hne, hae⟩ := List.mem_eraseIdx_iff_getElem.1 hc
          have e1 : (rest.map (·.1))[a]? = (rest.map (·.1))[j]? := by rw [List.getElem?_eq_getElem ha, List.getElem?_eq_getElem (by simpa using hj), hae, hjk]
          exact hne ((List.getElem?_inj ha hnd).1 e1)
        rw [if_neg this]
        unfold Sec.now; rw [hxu]; rfl
      · rename_i e
        rw [hS.2 i z hz]
        have : ((i : Int) ∈ (rest.eraseIdx j).map (·.1)) ↔ (i : Int) ∈ rest.map (·.1) := by
          rw [hkeys]
          constructor
          · exact List.mem_of_mem_eraseIdx
          · intro hc
            obtain ⟨a, ha, hae⟩ := List.mem_iff_getElem.1 hc
            refine List.mem_eraseIdx_iff_getElem.2 ⟨a, ha, ?_, hae⟩
            rintro rfl
            rw [hjk] at hae
            omega
        simp only [this]
    · have s1 : ChgS (fun k => fpD p v b k ∨ k = r) w w1 := ChgS.of_chg hc1 (.inr rfl)
      have s2 : ChgS (fun k => fpD p v b k ∨ k = r) w1 w2 := ChgS.of_below hb2
      have s4 : ChgS (fun k => fpD p v b k ∨ k = r) w2 w4 := (ChgS.refl _ w2).drw.trans (ChgS.of_upd hu4 (.inl (.inr (.inr hgv)))) (fun _ _ h => h)
      exact ((s1.trans s2 (fun _ _ h => h)).trans s4 (fun _ _ h => h)).trans hc' (fun _ _ h => h)
theorem f41_s (hd : DevAt B w p v b D) (h0 : 0 ≤ D.c) (h1 : D.c ≤ 1000000) (h : ∀ w', DevAt B w' p v b D.sync.2 → ChgS (fpD p v b) w w' → Q (.int .i64 D.sync.1) w') : f41 (pv p) w Q := by
  unfold f41
  simp only [↓reduceIte, ↓LL, LM, Value.cells, Nat.reduceAdd, Option.some.injEq, exists_eq_left', decide_true, decide_false, if_true, if_false, reduceCtorEq, cond_true, cond_false]
  refine f72_s hd h0 h1 fun w1 d1 hu1 => ?_
  have ch1 : ChgS (fpD p v b) w w1 := ChgS.of_upd hu1 (.inl rfl)
  by_cases ch : D.h < D.c + 1
  · simp only [↓reduceIte, ↓LL, LM, Value.cells, Nat.reduceAdd, Option.some.injEq, exists_eq_left', decide_true, decide_false, if_true, if_false, reduceCtorEq, cond_true, cond_false, ch, if_true]
    have e : D.sync = (9, D.tick) := by unfold Dv.sync; rw [if_pos ch]
    rw [e] at h
    exact h w1 d1 ch1
  have e : D.sync = (0, { D.tick with A := D.A.map fun x => ⟨x.now, none⟩ }) := by unfold Dv.sync; rw [if_neg ch]
  rw [e] at h
  have c1 := d1.c1
  simp only [↓reduceIte, ↓LL, LM, Value.cells, Nat.reduceAdd, Option.some.injEq, exists_eq_left', decide_true, decide_false, if_true, if_false, reduceCtorEq, cond_true, cond_false, ch, if_false, c1]
  obtain ⟨L, hm, hl⟩ := d1.mp
  refine range_map (kv := kI) KK hm fun w2 hR hb2 => ?_
  have d2 := d1.below hb2
  try simp only [↓reduceIte, ↓LL, LM, Value.cells, Nat.reduceAdd, Option.some.injEq, exists_eq_left', decide_true, decide_false, if_true, if_false, reduceCtorEq, cond_true, cond_false]
  have hrb : w1.heap.size ≠ b := by have := hm.lt; omega
  have hrp : w1.heap.size ≠ p := by have := d1.plt; omega
  have pb := d1.pb
  refine ⟨_, f41_loop (D := D.tick) (B := B) d1.n hl d1.pB d1.bB (Nat.le_trans d1.pB (Nat.le_of_lt d1.plt)) hrb pb hrp L.length (L.length + 1) L w2 (D.A.map (·.s)) rfl (by omega) (fun _ h => h) ?_ d2.hp d2.own ⟨by rw [List.length_map]; rfl, fun i x hx => ?_⟩ hR (fun g hg => ?_) fun w' hd' hc' => h w' hd' ?_⟩
  · have := hm.nodup
    rw [List.map_map] at this
    exact this
  · rw [List.getElem?_map, show D.A[i]? = some x from hx]
    split
    · rfl
    · rename_i c
      have hn : x.u = none := by
        cases hu : x.u with
        | none => rfl
        | some y =>
          exfalso
          apply c
          refine List.mem_map.2 ⟨((i : Int), y), (hl _ _).2 ?_, rfl⟩
          unfold Dv.at
          rw [if_pos (by omega), Int.toNat_natCast, show D.tick.A[i]? = some x from hx]
          exact hu
      simp [Sec.now, hn]
  · have := d1.gblk g hg
    have := hm.lt
    omega
  · refine ch1.trans ((ChgS.of_below hb2 : ChgS (fun k => fpD p v b k ∨ k = w1.heap.size) w1 w2).trans hc' (fun _ _ h => h) |>.mono' (T := fpD p v b) ?_) (fun _ _ h => h)
    rintro k hk (hf | rfl)
    · exact hf
    · omega
end
end Go.Proofs.YtongpnolikkknaaDoor

set_option maxRecDepth 20000
set_option maxHeartbeats 4000000
namespace Go.Proofs.YtongpnolikkknaaDoor
open Sh RowKit Go.MapKept
inductive De where
  | wr (i : Int) (s : ByteArray)
  | sy
def De.run : De → Dv → Int × Dv
  | .wr i s, D => D.wr i s
  | .sy, D => D.sync
/-- deeds, up to the first error -/
def runs : List De → Dv → Int × Dv
  | [], D => (0, D)
  | d :: l, D => if (d.run D).1 = 0 then runs l (d.run D).2 else d.run D
theorem sync_c (D : Dv) : D.sync.2.c = D.c + 1 := by
  unfold Dv.sync; split <;> rfl
theorem wr_c (D : Dv) (i : Int) (s : ByteArray) : (D.wr i s).2.c = D.c + 1 := by
  unfold Dv.wr
  split
  · rfl
  · split
    · rfl
    · split <;> rfl
theorem De.run_c (d : De) (D : Dv) : (d.run D).2.c = D.c + 1 := by
  cases d with
  | wr i s => exact wr_c D i s
  | sy => exact sync_c D
/-- a deed in memory -/
def dR (B : Nat) (w : World) (q p : Nat) (x : Value) : De → Prop
  | .wr i s => ∃ a b c, x = .func (.func 111) #[] #[pv a, pv b, pv c] ∧ B ≤ a ∧ B ≤ b ∧ B ≤ c ∧ w.heap[a]? = some (.cells #[pv q] 49 (0, 0)) ∧ w.heap[b]? = some (.cells #[.int .i64 i] 3 (0, 0)) ∧ w.heap[c]? = some (.cells #[.string s] 9 (0, 0))
  | .sy => x = .func (.func 41) #[pv p] #[]
def dRs (B : Nat) (w : World) (q p : Nat) : List Value → List De → Prop
  | [], [] => True
  | x :: xs, d :: ds => dR B w q p x d ∧ dRs B w q p xs ds
  | _, _ => False
theorem dR_one {B : Nat} {w : World} {q p : Nat} {x : Value} {d : De} (h : dR B w q p x d) : x.oneCell' = true ∧ x.cells = #[x] := by
  cases d with
  | wr i s => obtain ⟨a, b, c, rfl, _⟩ := h; exact ⟨rfl, rfl⟩
  | sy => obtain rfl : x = _ := h; exact ⟨rfl, rfl⟩
/-- what a change leaves of it -/
theorem dR_chg {B : Nat} {S : Nat → Prop} {w w' : World} {q p : Nat} {x : Value} {d : De} (h : dR B w q p x d) (hc : ChgS S w w')
    (hS : ∀ g cur e, B ≤ g → w.heap[g]? = some (.cells cur e (0, 0)) → (e = 49 ∨ e = 3 ∨ e = 9) → ¬ S g) : dR B w' q p x d := by
  cases d with
  | wr i s =>
    obtain ⟨a, b, c, rfl, h1, h2, h3, k1, k2, k3⟩ := h
    exact ⟨a, b, c, rfl, h1, h2, h3, hc.keep k1 (hS _ _ _ h1 k1 (.inl rfl)), hc.keep k2 (hS _ _ _ h2 k2 (.inr (.inl rfl))), hc.keep k3 (hS _ _ _ h3 k3 (.inr (.inr rfl)))⟩
  | sy => exact h
theorem dR_weak {B B' : Nat} {w : World} {q p : Nat} {x : Value} {d : De} (h : dR B w q p x d) (hB : B' ≤ B) : dR B' w q p x d := by
  cases d with
  | wr i s =>
    obtain ⟨a, b, c, rfl, h1, h2, h3, k⟩ := h
    exact ⟨a, b, c, rfl, Nat.le_trans hB h1, Nat.le_trans hB h2, Nat.le_trans hB h3, k⟩
  | sy => exact h
theorem dRs_imp {B B' : Nat} {w w' : World} {q p : Nat} : ∀ {xs : List Value} {ds : List De}, dRs B w q p xs ds → (∀ x d, dR B w q p x d → dR B' w' q p x d) → dRs B' w' q p xs ds
  | [], [], _, _ => trivial
  | x :: xs, d :: ds, h, k => ⟨k x d h.1, dRs_imp h.2 k⟩
theorem dRs_app {B : Nat} {w : World} {q p : Nat} : ∀ {xs ys : List Value} {ds es : List De}, dRs B w q p xs ds → dRs B w q p ys es → dRs B w q p (xs ++ ys) (ds ++ es)
  | [], _, [], _, _, h => h
  | x :: xs, ys, d :: ds, es, h, k => ⟨h.1, dRs_app h.2 k⟩
theorem dRs_len {B : Nat} {w : World} {q p : Nat} : ∀ {xs : List Value} {ds : List De}, dRs B w q p xs ds → xs.length = ds.length
  | [], [], _ => rfl
  | x :: xs, d :: ds, h => by rw [List.length_cons, List.length_cons, dRs_len h.2]
theorem dRs_get {B : Nat} {w : World} {q p : Nat} : ∀ {xs : List Value} {ds : List De}, dRs B w q p xs ds → ∀ i (h1 : i < xs.length) (h2 : i < ds.length), dR B w q p xs[i] ds[i]
  | x :: xs, d :: ds, h, 0, _, _ => h.1
  | x :: xs, d :: ds, h, i + 1, h1, h2 => dRs_get h.2 i (by simpa using h1) (by simpa using h2)
theorem dRs_one {B : Nat} {w : World} {q p : Nat} : ∀ {xs : List Value} {ds : List De}, dRs B w q p xs ds → ∀ x ∈ xs, x.oneCell' = true
  | [], [], _, x, hx => by simp at hx
  | y :: xs, d :: ds, h, x, hx => by
    rcases List.mem_cons.1 hx with rfl | hx
    · exact (dR_one h.1).1
    · exact dRs_one h.2 x hx
theorem slD : slT Tryd.prog 116 146 (.nilFunc) 1 8 := ⟨by kernel_rfl, by kernel_rfl⟩
end Go.Proofs.YtongpnolikkknaaDoor

set_option maxRecDepth 20000
set_option maxHeartbeats 4000000
namespace Go.Proofs.YtongpnolikkknaaDoor
open Sh RowKit Go.MapKept
/-- a row of deeds, the call's own -/
def DsAt (B C : Nat) (w : World) (q p : Nat) (v : Value) (ds : List De) : Prop := ∃ xs, ownV B 146 w v xs ∧ dRs C w q p xs ds
/-- a function that gives a sector's number -/
def Plc (w : World) (f : Value) (g : Nat → Int) : Prop := ∀ w1, Below w.heap.size w w1 → ∀ j, j < 4 → ∀ (K : Value → M) (Q : Value → World → Prop), K (.int .i64 (g j)) w1 Q → cf Tryd.prog f #[.int .i64 ((j : Nat) : Int)] K w1 Q
def pageD (g : Nat → Int) (s : ByteArray) : List De := if s.size = 256 then (List.range 4).map fun j => .wr (g j) (chunk s j) else []
def rdL (D : Dv) (g : Nat → Int) (n : Nat) : List ByteArray := (List.range n).map fun j => D.rd (g j)
def markD (b : Bool) : List De := [.wr 0 (markB b).1, .sy]
section
variable {B C : Nat} {W w w' : World} {p q b : Nat} {v : Value} {D : Dv} {Q : Value → World → Prop}
theorem Plc.mono {f : Value} {g : Nat → Int} (h : Plc w f g) (hb : Below w.heap.size w w') : Plc w' f g := fun w1 h1 => h w1 (bt hb h1)
theorem DsAt_nil : DsAt B C w q p (.slice none 0 0) [] := ⟨[], ownV_nil, trivial⟩
theorem dRs_below {xs : List Value} {ds : List De} (h : dRs C w q p xs ds) (hb : Below w.heap.size w w') : dRs C w' q p xs ds :=
  dRs_imp h fun x d hx => by
    cases d with
    | wr i s =>
      obtain ⟨a, b, c, rfl, h1, h2, h3, k1, k2, k3⟩ := hx
      exact ⟨a, b, c, rfl, h1, h2, h3, stay hb k1, stay hb k2, stay hb k3⟩
    | sy => exact hx
theorem DsAt.below {ds : List De} (h : DsAt B C w q p v ds) (hb : Below w.heap.size w w') : DsAt B C w' q p v ds := by
  obtain ⟨xs, h1, h2⟩ := h
  exact ⟨xs, ownV_below h1 hb, dRs_below h2 hb⟩
theorem f100_s {i : Int} {s : ByteArray} (kk : ∀ w' x, Below w.heap.size w w' → dR w.heap.size w' q p x (.wr i s) → Q x w') : f100 (pv q) (.int .i64 i) (.string s) w Q := by
  unfold f100
  have b1 := b_psh w (.cells #[pv q] 49)
  have k1 := blk_psh_new (w := w) (o := .cells #[pv q] 49)
  have z1 : (psh w (.cells #[pv q] 49)).heap.size = w.heap.size + 1 := size_psh
  try simp only [↓reduceIte, ↓LL, LM, Value.cells, Nat.reduceAdd, Option.some.injEq, exists_eq_left', decide_true, decide_false, if_true, if_false, reduceCtorEq, cond_true, cond_false]
  generalize psh w (.cells #[pv q] 49) = w1 at *
  have b2 := b_psh w1 (.cells #[.int .i64 i] 3)
  have k2 := blk_psh_new (w := w1) (o := .cells #[.int .i64 i] 3)
  have z2 : (psh w1 (.cells #[.int .i64 i] 3)).heap.size = w1.heap.size + 1 := size_psh
  generalize psh w1 (.cells #[.int .i64 i] 3) = w2 at *
  have b3 := b_psh w2 (.cells #[.string s] 9)
  have k3 := blk_psh_new (w := w2) (o := .cells #[.string s] 9)
  generalize psh w2 (.cells #[.string s] 9) = w3 at *
  have k2 := stay b3 k2
  have k1 := stay (bt b2 b3) k1
  exact kk _ _ (bt b1 (bt b2 b3)) ⟨_, _, _, rfl, Nat.le_refl _, by omega, by omega, k1, k2, k3⟩
/-- one deed more -/
theorem ap_d {x : Value} {ds : List De} {d : De} {K : Value → M} (h : DsAt B C w q p v ds) (hx : dR C w q p x d) (hl : ds.length ≤ 100000) (hB : B ≤ w.heap.size)
    (kk : ∀ w' v', Below B w w' → DsAt B C w' q p v' (ds ++ [d]) → ChgS (fun k => v.ownBlock = some k) w w' → (∀ g, v'.ownBlock = some g → v.ownBlock = some g ∨ w.heap.size ≤ g) → K v' w' Q) :
    sm Tryd.prog (Instr.buildSlice 116 1 #[(0, x)]) (fun u => sm Tryd.prog (Builtin.append_ #[116, 116] 116 #[v, u]) K) w Q := by
  obtain ⟨xs, h1, h2⟩ := h
  obtain ⟨o1, o2⟩ := dR_one hx
  have hxl := dRs_len h2
  refine ap_V slD rfl o1 o2 h1 (by unfold maxLen; omega) (by omega) hB fun v' w' ho hf hsz hos hown => ?_
  have hc : ChgS (fun k => v.ownBlock = some k) w w' := ⟨hos.1, hos.2.1, hos.2.2, hsz, fun k hk hn => hf k hk hn⟩
  have hS : ∀ g cur e, C ≤ g → w.heap[g]? = some (.cells cur e (0, 0)) → (e = 49 ∨ e = 3 ∨ e = 9) → ¬ v.ownBlock = some g := by
    intro g cur e _ hg he hn
    obtain ⟨_, _, cur', hc'⟩ := ownV_lt h1 g hn
    rw [hc'] at hg
    cases hg
    rcases he with he | he | he <;> revert he <;> decide
  refine kk w' v' (hc.below (fun k hk => (ownV_lt h1 k hk).1) hB) ⟨xs ++ [x], ho, dRs_app (dRs_imp h2 fun y d' hy => dR_chg hy hc hS) ⟨dR_chg hx hc hS, trivial⟩⟩ hc hown
/-- deeds behind deeds -/
theorem ap_ds {u : Value} {B2 : Nat} {ds es : List De} {K : Value → M} (h : DsAt B C w q p v ds) (h2 : DsAt B2 C w q p u es) (hl : ds.length + es.length ≤ 100000) (hB : B ≤ w.heap.size)
    (kk : ∀ w' v', Below B w w' → DsAt B C w' q p v' (ds ++ es) → ChgS (fun k => v.ownBlock = some k) w w' → (∀ g, v'.ownBlock = some g → v.ownBlock = some g ∨ w.heap.size ≤ g) → K v' w' Q) :
    sm Tryd.prog (Builtin.append_ #[116, 116] 116 #[v, u]) K w Q := by
  obtain ⟨xs, h1, h2x⟩ := h
  obtain ⟨ys, k1, k2⟩ := h2
  have hxl := dRs_len h2x
  have hyl := dRs_len k2
  obtain ⟨i, g1, g2, g3, g4, g5⟩ := slT_info slD
  have hS : ∀ g cur e, C ≤ g → w.heap[g]? = some (.cells cur e (0, 0)) → (e = 49 ∨ e = 3 ∨ e = 9) → ¬ v.ownBlock = some g := by
    intro g cur e _ hg he hn
    obtain ⟨_, _, cur', hc'⟩ := ownV_lt h1 g hn
    rw [hc'] at hg
    cases hg
    rcases he with he | he | he <;> revert he <;> decide
  rcases ownV_cases k1 with ⟨rfl, rfl⟩ | ⟨g, cap, cur, rfl, hg, hbk, hn, hm, hs, ht⟩
  · have e0 : es = [] := List.length_eq_zero_iff.1 hyl.symm
    subst e0
    refine ⟨v, w, run_append_owned_none w B 116 116 146 i 1 g1 g2 v xs.length xs h1, kk w v ⟨rfl, rfl, rfl, Nat.le_refl _, fun _ _ => rfl⟩ ?_ (ChgS.refl _ w) (fun g hg => .inl hg)⟩
    rw [List.append_nil]
    exact ⟨xs, h1, h2x⟩
  · obtain ⟨v', w', hrun, ho', hg', _, hf⟩ := run_append_own_at (P := Tryd.prog) w B 116 116 146 i _ 1 8 g1 g2 g3 g4 g5 rfl (by decide) v xs.length xs h1 ⟨g, 0, none⟩ ys.length cap ys (by simp) (by
        intro j u hj
        rw [add_lit, Nat.zero_add, cell_of_blk hbk]
        have hlt : j < ys.length := by
          rcases Nat.lt_or_ge j ys.length with c | c
          · exact c
          · rw [List.getElem?_eq_none c] at hj; cases hj
        have e3 : (cur.toList.take ys.length)[j]? = ys[j]? := by rw [ht]
        rw [List.getElem?_take_of_lt hlt, hj] at e3
        simpa using e3) (fun x hx => dRs_one k2 x hx) (by unfold maxLen; omega) (by omega) hB
    have hc : ChgS (fun k => v.ownBlock = some k) w w' := ChgS.grown hg' fun k hk => hk
    refine ⟨v', w', hrun, kk w' v' (hc.below (fun k hk => (ownV_lt h1 k hk).1) hB) ⟨xs ++ ys, ?_, dRs_app (dRs_imp h2x fun y d' hy => dR_chg hy hc hS) (dRs_imp k2 fun y d' hy => dR_chg hy hc hS)⟩ hc (fun g hg => ?_)⟩
    · unfold ownV; rw [List.length_append]; exact ho'
    · rcases hf with hf | hf
      · left; rw [← hf]; exact hg
      · right; rw [hf] at hg; cases hg; omega
end
end Go.Proofs.YtongpnolikkknaaDoor

set_option maxRecDepth 20000
set_option maxHeartbeats 4000000
namespace Go.Proofs.YtongpnolikkknaaDoor
open Sh RowKit Go.MapKept
theorem enW : ∀ args w, (callFunc 111 args).run Tryd.prog w = .ok (.enter 111 args) w := enters_of Tryd.func111 (by kernel_rfl) rfl
theorem enS : ∀ args w, (callFunc 41 args).run Tryd.prog w = .ok (.enter 41 args) w := enters_of Tryd.func41 (by kernel_rfl) rfl
def pageT (g : Nat → Int) (s : ByteArray) (n : Nat) : List De := (List.range n).map fun j => .wr (g j) (chunk s j)
theorem pageT_succ (g : Nat → Int) (s : ByteArray) (n : Nat) : pageT g s (n + 1) = pageT g s n ++ [.wr (g n) (chunk s n)] := by
  unfold pageT; rw [List.range_succ, List.map_append]; rfl
theorem pageT_len (g : Nat → Int) (s : ByteArray) (n : Nat) : (pageT g s n).length = n := by unfold pageT; simp
theorem rdL_succ (D : Dv) (g : Nat → Int) (n : Nat) : rdL D g (n + 1) = rdL D g n ++ [D.rd (g n)] := by
  unfold rdL; rw [List.range_succ, List.map_append]; rfl
theorem rdL_len (D : Dv) (g : Nat → Int) (n : Nat) : (rdL D g n).length = n := by unfold rdL; simp
theorem cutL_get {s : ByteArray} {n i : Nat} (h : i < (cutL s n).length) : (cutL s n)[i] = chunk s i := by
  have e : (cutL s n)[i]? = some (chunk s i) := by
    have : i < n := by rwa [cutL_len] at h
    unfold cutL
    rw [List.getElem?_map, List.getElem?_range this]; rfl
  rw [List.getElem?_eq_getElem h] at e
  exact Option.some.inj e
theorem ownV_weak {B B' : Nat} {e : TypeId} {w : World} {v : Value} {xs : List Value} (h : ownV B e w v xs) (hB : B' ≤ B) : ownV B' e w v xs := by
  rcases ownV_cases h with ⟨rfl, rfl⟩ | ⟨g, cap, cur, rfl, hg, hb, hn, hm, hs, ht⟩
  · exact ownV_nil
  · exact ownV_mk (Nat.le_trans hB hg) hb hn hm hs ht
theorem litD (a b c p : Nat) (w : World) : (Instr.buildSlice 116 2 #[(0, .func (.func 111) #[] #[pv a, pv b, pv c]), (1, .func (.func 41) #[pv p] #[])]).run Tryd.prog w = .ok (.slice (some ⟨w.heap.size, 0, none⟩) 2 2) (psh w (.cells #[.func (.func 111) #[] #[pv a, pv b, pv c], .func (.func 41) #[pv p] #[]] 146)) := by
  kernel_rfl
section
variable {B C : Nat} {W w w' : World} {p q b : Nat} {v : Value} {D : Dv} {Q : Value → World → Prop}
theorem page_loop {f u : Value} {g : Nat → Int} {s : ByteArray} (hf : Plc W f g) (hu : rdT W u (cutL s 4)) (hs : s.size = 256) : ∀ (d m i : Nat) (w : World) (v : Value), i + d = 4 → d < m → Below W.heap.size W w → DsAt W.heap.size W.heap.size w q p v (pageT g s i) →
    (∀ w' v', Below W.heap.size W w' → DsAt W.heap.size W.heap.size w' q p v' (pageT g s 4) → Q v' w') →
    itr (fun _ _ _ _ _ _ => bot) (f95_b2 f95_j1) m (pv q) f v u (.int .i64 4) (.int .i64 ((i : Nat) : Int)) w Q := by
  intro d
  induction d with
  | zero =>
    intro m i w v hi hm hb ho kk
    obtain ⟨m, rfl⟩ : ∃ x, m = x + 1 := ⟨m - 1, by omega⟩
    show f95_b2 f95_j1 _ _ _ _ _ _ _ w Q
    unfold f95_b2
    have hi4 : i = 4 := by omega
    subst hi4
    have c : ¬ ((4 : Nat) : Int) < 4 := by decide
    try simp only [↓reduceIte, ↓LL, LM, Value.cells, Nat.reduceAdd, Option.some.injEq, exists_eq_left', decide_true, decide_false, if_true, if_false, reduceCtorEq, cond_true, cond_false, c]
    unfold f95_j1
    try simp only [↓reduceIte, ↓LL, LM, Value.cells, Nat.reduceAdd, Option.some.injEq, exists_eq_left', decide_true, decide_false, if_true, if_false, reduceCtorEq, cond_true, cond_false]
    exact kk w v hb ho
  | succ d ih =>
    intro m i w v hi hm hb ho kk
    obtain ⟨m, rfl⟩ : ∃ x, m = x + 1 := ⟨m - 1, by omega⟩
    show f95_b2 f95_j1 _ _ _ _ _ _ _ w Q
    unfold f95_b2
    have c : (i : Int) < 4 := by omega
    have hil : i < (cutL s 4).length := by rw [cutL_len]; omega
    obtain ⟨ax, cx, hax⟩ := ld_t hu hil
    have qx := cx _ hb
    have ex : (cutL s 4)[i] = chunk s i := cutL_get hil
    rw [ex] at qx
    have h3 : IntKind.i64.wrap ((i : Int) + 1) = ((i + 1 : Nat) : Int) := by rw [w64 (by omega) (by omega)]; rfl
    try simp only [↓reduceIte, ↓LL, LM, Value.cells, Nat.reduceAdd, Option.some.injEq, exists_eq_left', decide_true, decide_false, if_true, if_false, reduceCtorEq, cond_true, cond_false, c, hax, qx]
    refine hf w hb i (by omega) _ _ ?_
    try simp only [↓reduceIte, ↓LL, LM, Value.cells, Nat.reduceAdd, Option.some.injEq, exists_eq_left', decide_true, decide_false, if_true, if_false, reduceCtorEq, cond_true, cond_false]
    refine f100_s (p := p) fun w1 x b1 hx => ?_
    have hx := dR_weak hx hb.size
    try simp only [↓reduceIte, ↓LL, LM, Value.cells, Nat.reduceAdd, Option.some.injEq, exists_eq_left', decide_true, decide_false, if_true, if_false, reduceCtorEq, cond_true, cond_false]
    refine ap_d (ho.below b1) hx (by rw [pageT_len]; omega) (bt hb b1).size fun w2 v2 b2 o2 _ _ => ?_
    have b2 := (bt hb b1).trans b2
    try simp only [↓reduceIte, ↓LL, LM, Value.cells, Nat.reduceAdd, Option.some.injEq, exists_eq_left', decide_true, decide_false, if_true, if_false, reduceCtorEq, cond_true, cond_false, h3]
    rw [← pageT_succ] at o2
    exact ih m (i + 1) w2 v2 (by omega) (by omega) b2 o2 kk
theorem f95_s {f : Value} {g : Nat → Int} {s : ByteArray} (hf : Plc w f g) (kk : ∀ w' v', Below w.heap.size w w' → DsAt w.heap.size w.heap.size w' q p v' (pageD g s) → Q v' w') : f95 (pv q) f (.string s) w Q := by
  unfold f95
  try simp only [↓reduceIte, ↓LL, LM, Value.cells, Nat.reduceAdd, Option.some.injEq, exists_eq_left', decide_true, decide_false, if_true, if_false, reduceCtorEq, cond_true, cond_false]
  refine f23_s (fun hs => ?_) (fun hs w1 u b1 o1 => ?_)
  · try simp only [↓reduceIte, ↓LL, LM, Value.cells, Nat.reduceAdd, Option.some.injEq, exists_eq_left', decide_true, decide_false, if_true, if_false, reduceCtorEq, cond_true, cond_false, get0, get1]
    have e : pageD g s = [] := by unfold pageD; rw [if_neg hs]
    rw [e] at kk
    refine ⟨1, ?_⟩
    show f95_b2 f95_j1 _ _ _ _ _ _ _ w Q
    unfold f95_b2
    have c : ¬ ((0 : Nat) : Int) < ((0 : Nat) : Int) := by decide
    try simp only [↓reduceIte, ↓LL, LM, Value.cells, Nat.reduceAdd, Option.some.injEq, exists_eq_left', decide_true, decide_false, if_true, if_false, reduceCtorEq, cond_true, cond_false, c]
    unfold f95_j1
    try simp only [↓reduceIte, ↓LL, LM, Value.cells, Nat.reduceAdd, Option.some.injEq, exists_eq_left', decide_true, decide_false, if_true, if_false, reduceCtorEq, cond_true, cond_false]
    exact kk w _ (Below.refl _ _) DsAt_nil
  · have r1 := rdT_own o1
    try simp only [↓reduceIte, ↓LL, LM, Value.cells, Nat.reduceAdd, Option.some.injEq, exists_eq_left', decide_true, decide_false, if_true, if_false, reduceCtorEq, cond_true, cond_false, get0, get1]
    rw [lnl_T r1, cutL_len]
    try simp only [↓reduceIte, ↓LL, LM, Value.cells, Nat.reduceAdd, Option.some.injEq, exists_eq_left', decide_true, decide_false, if_true, if_false, reduceCtorEq, cond_true, cond_false]
    have e : pageD g s = pageT g s 4 := by unfold pageD; rw [if_pos hs]; rfl
    rw [e] at kk
    refine ⟨5, page_loop (W := w1) (p := p) (hf.mono b1) r1 hs 4 5 0 w1 _ (by omega) (by omega) (Below.refl _ _) DsAt_nil fun w2 v2 b2 o2 => ?_⟩
    refine kk w2 v2 (bt b1 b2) ?_
    obtain ⟨xs, h1, h2⟩ := o2
    exact ⟨xs, ownV_weak h1 b1.size, dRs_imp h2 fun x d hx => dR_weak hx b1.size⟩
theorem f97_s {y : Bool} (hq : w.cell? ⟨q, 0, none⟩ = some (pv p)) (kk : ∀ w' v', Below w.heap.size w w' → DsAt w.heap.size w.heap.size w' q p v' (markD y) → Q v' w') : f97 (pv q) (.bool y) w Q := by
  unfold f97
  try simp only [↓reduceIte, ↓LL, LM, Value.cells, Nat.reduceAdd, Option.some.injEq, exists_eq_left', decide_true, decide_false, if_true, if_false, reduceCtorEq, cond_true, cond_false, hq]
  refine f18_s fun w1 b1 => ?_
  have b1 := of_drw' b1
  have hq1 : w1.cell? ⟨q, 0, none⟩ = some (pv p) := cell_below b1 hq
  try simp only [↓reduceIte, ↓LL, LM, Value.cells, Nat.reduceAdd, Option.some.injEq, exists_eq_left', decide_true, decide_false, if_true, if_false, reduceCtorEq, cond_true, cond_false]
  refine ⟨by rw [Kld_e]; exact hq1, ?_⟩
  refine f100_s (p := p) fun w2 x b2 hx => ?_
  have hq2 : w2.cell? ⟨q, 0, none⟩ = some (pv p) := cell_below b2 hq1
  have hx0 := hx
  obtain ⟨a, b, c, rfl, _⟩ := hx
  try simp only [↓reduceIte, ↓LL, LM, Value.cells, Nat.reduceAdd, Option.some.injEq, exists_eq_left', decide_true, decide_false, if_true, if_false, reduceCtorEq, cond_true, cond_false]
  refine ⟨by rw [Kld_e]; exact hq2, ?_⟩
  refine ⟨_, _, litD a b c p w2, ?_⟩
  have b3 := b_psh w2 (.cells #[.func (.func 111) #[] #[pv a, pv b, pv c], .func (.func 41) #[pv p] #[]] 146)
  have k3 := blk_psh_new (w := w2) (o := .cells #[.func (.func 111) #[] #[pv a, pv b, pv c], .func (.func 41) #[pv p] #[]] 146)
  have b12 := bt b1 b2
  refine kk _ _ (bt b12 b3) ⟨[_, _], ownV_mk (xs := [_, _]) b12.size k3 (Nat.le_refl 2) (by unfold maxLen; decide) rfl rfl, dR_weak (dR_chg hx0 (ChgS.of_below b3 (S := fun _ => False)) fun _ _ _ _ _ _ h => h) b1.size, rfl, trivial⟩
theorem join_loop {f : Value} {g : Nat → Int} (hd : DevAt B W p v b D) (hq : W.cell? ⟨q, 0, none⟩ = some (pv p)) (hf : Plc W f g) {j1 : Value → M} : ∀ (d m i : Nat) (w : World) (u : Value), i + d = 4 → d < m → Below W.heap.size W w → ownV W.heap.size 9 w u ((rdL D g i).map .string) →
    (∀ w' u', Below W.heap.size W w' → ownV W.heap.size 9 w' u' ((rdL D g 4).map .string) → j1 u' w' Q) →
    itr (fun _ _ _ _ => bot) (f68_b2 j1) m (pv q) f u (.int .i64 ((i : Nat) : Int)) w Q := by
  intro d
  induction d with
  | zero =>
    intro m i w u hi hm hb ho kk
    obtain ⟨m, rfl⟩ : ∃ x, m = x + 1 := ⟨m - 1, by omega⟩
    show f68_b2 j1 _ _ _ _ _ w Q
    unfold f68_b2
    have hi4 : i = 4 := by omega
    subst hi4
    have c : ¬ ((4 : Nat) : Int) < 4 := by decide
    try simp only [↓reduceIte, ↓LL, LM, Value.cells, Nat.reduceAdd, Option.some.injEq, exists_eq_left', decide_true, decide_false, if_true, if_false, reduceCtorEq, cond_true, cond_false, c]
    exact kk w u hb ho
  | succ d ih =>
    intro m i w u hi hm hb ho kk
    obtain ⟨m, rfl⟩ : ∃ x, m = x + 1 := ⟨m - 1, by omega⟩
    show f68_b2 j1 _ _ _ _ _ w Q
    unfold f68_b2
    have c : (i : Int) < 4 := by omega
    have bd : Below w.heap.size w (drw w) := ⟨rfl, rfl, rfl, Nat.le_refl _, fun _ _ => rfl⟩
    have hbd := bt hb bd
    have hqd : (drw w).cell? ⟨q, 0, none⟩ = some (pv p) := cell_below hbd hq
    have h3 : IntKind.i64.wrap ((i : Int) + 1) = ((i + 1 : Nat) : Int) := by rw [w64 (by omega) (by omega)]; rfl
    try simp only [↓reduceIte, ↓LL, LM, Value.cells, Nat.reduceAdd, Option.some.injEq, exists_eq_left', decide_true, decide_false, if_true, if_false, reduceCtorEq, cond_true, cond_false, c, hqd]
    refine hf (drw w) hbd i (by omega) _ _ ?_
    try simp only [↓reduceIte, ↓LL, LM, Value.cells, Nat.reduceAdd, Option.some.injEq, exists_eq_left', decide_true, decide_false, if_true, if_false, reduceCtorEq, cond_true, cond_false]
    refine ⟨by rw [Kld_e]; exact hqd, ?_⟩
    refine f70_s ((hd.below hbd)) (g i) fun w1 b1 => ?_
    have hb1 := bt hbd b1
    try simp only [↓reduceIte, ↓LL, LM, Value.cells, Nat.reduceAdd, Option.some.injEq, exists_eq_left', decide_true, decide_false, if_true, if_false, reduceCtorEq, cond_true, cond_false]
    have ho1 := ownV_below ho (bt bd b1)
    refine ap_T ho1 hb1 (by rw [rdL_len]; omega) fun w2 u2 o2 b2 => ?_
    rw [← rdL_succ] at o2
    try simp only [↓reduceIte, ↓LL, LM, Value.cells, Nat.reduceAdd, Option.some.injEq, exists_eq_left', decide_true, decide_false, if_true, if_false, reduceCtorEq, cond_true, cond_false, h3]
    exact ih m (i + 1) w2 u2 (by omega) (by omega) b2 o2 kk
theorem f68_s {f : Value} {g : Nat → Int} (hd : DevAt B w p v b D) (hq : w.cell? ⟨q, 0, none⟩ = some (pv p)) (hf : Plc w f g) (kk : ∀ w', Below w.heap.size w w' → Q (.string (joinB (rdL D g 4)).1) w') : f68 (pv q) f w Q := by
  unfold f68
  try simp only [↓reduceIte, ↓LL, LM, Value.cells, Nat.reduceAdd, Option.some.injEq, exists_eq_left', decide_true, decide_false, if_true, if_false, reduceCtorEq, cond_true, cond_false]
  refine ⟨5, join_loop (W := w) hd hq hf 4 5 0 w _ (by omega) (by omega) (Below.refl _ _) ownV_nil fun w1 u1 b1 o1 => ?_⟩
  unfold f68_j1
  try simp only [↓reduceIte, ↓LL, LM, Value.cells, Nat.reduceAdd, Option.some.injEq, exists_eq_left', decide_true, decide_false, if_true, if_false, reduceCtorEq, cond_true, cond_false]
  refine f25_s (rdT_own o1) (by rw [rdL_len]; decide) fun w2 b2 => ?_
  try simp only [↓reduceIte, ↓LL, LM, Value.cells, Nat.reduceAdd, Option.some.injEq, exists_eq_left', decide_true, decide_false, if_true, if_false, reduceCtorEq, cond_true, cond_false, get0, get1]
  exact kk w2 (bt b1 b2)
end
end Go.Proofs.YtongpnolikkknaaDoor

set_option maxRecDepth 20000
set_option maxHeartbeats 4000000
namespace Go.Proofs.YtongpnolikkknaaDoor
open Sh RowKit Go.MapKept
section
variable {B C : Nat} {W w w' : World} {p q b : Nat} {v : Value} {D : Dv} {Q : Value → World → Prop}
/-- no block of a device -/
theorem dev_ne (hd : DevAt B w p v b D) {g : Nat} {cur : Array Value} {e : TypeId} {fr : Nat × Nat} (hg : w.heap[g]? = some (.cells cur e fr)) (h1 : e ≠ 108) (h2 : e ≠ 113) : ¬ fpD p v b g := by
  rintro (rfl | rfl | hk)
  · rw [hd.hp] at hg; cases hg; exact h1 rfl
  · obtain ⟨L, ⟨es, clock, hm, _⟩, _⟩ := hd.mp
    rw [hm] at hg; cases hg
  · obtain ⟨_, _, cur', hc⟩ := ownE_blk hd.own g hk
    rw [hc] at hg; cases hg; exact h2 rfl
theorem dR_dev (hd : DevAt B w p v b D) {x : Value} {d : De} (h : dR C w q p x d) (hc : ChgS (fpD p v b) w w') : dR C w' q p x d :=
  dR_chg h hc fun g cur e _ hg he => dev_ne hd hg (by rcases he with rfl | rfl | rfl <;> decide) (by rcases he with rfl | rfl | rfl <;> decide)
theorem pg_dev (hd : DevAt B w p v b D) {cur : Array Value} {fr : Nat × Nat} (hq : w.heap[q]? = some (.cells cur 110 fr)) (hc : ChgS (fpD p v b) w w') : w'.heap[q]? = some (.cells cur 110 fr) :=
  hc.keep hq (dev_ne hd hq (by decide) (by decide))
theorem own_dev {e : TypeId} {u : Value} {xs : List Value} (hd : DevAt B w p v b D) (h : ownV C e w u xs) (h1 : e ≠ 108) (h2 : e ≠ 113) (hc : ChgS (fpD p v b) w w') : ownV C e w' u xs :=
  ownV_stay h fun g hg => by
    obtain ⟨_, hl, cur, hcur⟩ := ownV_lt h g hg
    rw [hcur]; exact hc.keep hcur (dev_ne hd hcur h1 h2)
/-- one deed -/
theorem deed_s {x : Value} {d : De} {K : Value → M} {cur : Array Value} (hd : DevAt B w p v b D) (h0 : 0 ≤ D.c) (h1 : D.c ≤ 1000000) (hq : w.heap[q]? = some (.cells cur 110 (0, 0))) (hq0 : cur[0]? = some (pv p)) (hx : dR C w q p x d)
    (kk : ∀ w', DevAt B w' p v b (d.run D).2 → ChgS (fpD p v b) w w' → K (.int .i64 (d.run D).1) w' Q) : cf Tryd.prog x #[] K w Q := by
  cases d with
  | wr i s =>
    obtain ⟨a, b', c, rfl, _, _, _, k1, k2, k3⟩ := hx
    refine cf_p enW ?_
    refine s111 (pv a) (pv b') (pv c) w _ ?_
    unfold f111
    have c1 : (drw w).cell? ⟨a, 0, none⟩ = some (pv q) := by rw [cell_of_blk (show (drw w).heap[a]? = _ from k1)]; rfl
    have c2 : (drw w).cell? ⟨b', 0, none⟩ = some (.int .i64 i) := by rw [cell_of_blk (show (drw w).heap[b']? = _ from k2)]; rfl
    have c3 : (drw w).cell? ⟨c, 0, none⟩ = some (.string s) := by rw [cell_of_blk (show (drw w).heap[c]? = _ from k3)]; rfl
    have c4 : (drw w).cell? ⟨q, 0, none⟩ = some (pv p) := by rw [cell_of_blk (show (drw w).heap[q]? = _ from hq)]; exact hq0
    try simp only [↓reduceIte, ↓LL, LM, Value.cells, Nat.reduceAdd, Option.some.injEq, exists_eq_left', decide_true, decide_false, if_true, if_false, reduceCtorEq, cond_true, cond_false, c1, c2, c3, c4]
    refine f40_s hd.drw h0 h1 i s fun w1 d1 hc1 => ?_
    try simp only [↓reduceIte, ↓LL, LM, Value.cells, Nat.reduceAdd, Option.some.injEq, exists_eq_left', decide_true, decide_false, if_true, if_false, reduceCtorEq, cond_true, cond_false]
    exact kk w1 d1 hc1.of_drw
  | sy =>
    obtain rfl : x = _ := hx
    refine cf_p enS ?_
    refine s41 (pv p) w _ ?_
    exact f41_s hd h0 h1 fun w1 d1 hc1 => kk w1 d1 hc1
theorem all_loop {u : Value} {xs : List Value} {ds : List De} {cur : Array Value} (hd0 : DevAt B W p v b D) (hq : W.heap[q]? = some (.cells cur 110 (0, 0))) (hq0 : cur[0]? = some (pv p)) (ho : ownV C 146 W u xs) (hx : dRs C W q p xs ds) (hl : ds.length ≤ 100000) : ∀ (d m i : Nat) (w : World) (Dk : Dv), i + d = ds.length → d < m → ChgS (fpD p v b) W w → DevAt B w p v b Dk → 0 ≤ Dk.c → Dk.c + d ≤ 1000000 →
    (∀ w', DevAt B w' p v b (runs (ds.drop i) Dk).2 → ChgS (fpD p v b) W w' → Q (.int .i64 (runs (ds.drop i) Dk).1) w') →
    itr (fun _ _ _ => bot) (f74_b2 f74_j1) m u (.int .i64 ((ds.length : Nat) : Int)) (.int .i64 ((i : Nat) : Int)) w Q := by
  have hxl := dRs_len hx
  intro d
  induction d with
  | zero =>
    intro m i w Dk hi hm hc hd h0 h1 kk
    obtain ⟨m, rfl⟩ : ∃ x, m = x + 1 := ⟨m - 1, by omega⟩
    show f74_b2 f74_j1 _ _ _ _ w Q
    unfold f74_b2
    have c : ¬ (i : Int) < (ds.length : Nat) := by omega
    try simp only [↓reduceIte, ↓LL, LM, Value.cells, Nat.reduceAdd, Option.some.injEq, exists_eq_left', decide_true, decide_false, if_true, if_false, reduceCtorEq, cond_true, cond_false, c]
    unfold f74_j1
    try simp only [↓reduceIte, ↓LL, LM, Value.cells, Nat.reduceAdd, Option.some.injEq, exists_eq_left', decide_true, decide_false, if_true, if_false, reduceCtorEq, cond_true, cond_false]
    rw [List.drop_of_length_le (by omega)] at kk
    exact kk w hd hc
  | succ d ih =>
    intro m i w Dk hi hm hc hd h0 h1 kk
    obtain ⟨m, rfl⟩ : ∃ x, m = x + 1 := ⟨m - 1, by omega⟩
    show f74_b2 f74_j1 _ _ _ _ w Q
    unfold f74_b2
    have c : (i : Int) < (ds.length : Nat) := by omega
    have hil : i < ds.length := by omega
    have hilx : i < xs.length := by omega
    have hne : xs ≠ [] := by intro e; rw [e] at hilx; simp at hilx
    have ho' := own_dev hd0 ho (by decide) (by decide) hc
    obtain ⟨g, cap, eu, hown, _, _, hcell⟩ := ownV_blk ho' hne
    have hix : ∀ (K : Value → M), ia 1 u (.int .i64 ((i : Nat) : Int)) K w Q = K (.pointer (some ⟨g, i, none⟩)) w Q := fun K => by rw [eu]; exact ia_at (by omega)
    have hcx := hcell i hilx
    have h3 : IntKind.i64.wrap ((i : Int) + 1) = ((i + 1 : Nat) : Int) := by rw [w64 (by omega) (by omega)]; rfl
    try simp only [↓reduceIte, ↓LL, LM, Value.cells, Nat.reduceAdd, Option.some.injEq, exists_eq_left', decide_true, decide_false, if_true, if_false, reduceCtorEq, cond_true, cond_false, c, hix, hcx]
    have e1 : ds.drop i = ds[i] :: ds.drop (i + 1) := List.drop_eq_getElem_cons hil
    have e2 : runs (ds.drop i) Dk = if (ds[i].run Dk).1 = 0 then runs (ds.drop (i + 1)) (ds[i].run Dk).2 else ds[i].run Dk := by rw [e1]; rfl
    refine deed_s hd h0 (by omega) (pg_dev hd0 hq hc) hq0 (dR_dev hd0 (dRs_get hx i hilx hil) hc) fun w1 d1 hc1 => ?_
    have hc1' := hc.trans hc1 fun _ _ h => h
    have hcc := ds[i].run_c Dk
    by_cases hz : (ds[i].run Dk).1 = 0
    · rw [if_pos hz] at e2
      try simp only [↓reduceIte, ↓LL, LM, Value.cells, Nat.reduceAdd, Option.some.injEq, exists_eq_left', decide_true, decide_false, if_true, if_false, reduceCtorEq, cond_true, cond_false, hz, ne_eq, h3]
      refine ih m (i + 1) w1 _ (by omega) (by omega) hc1' d1 (by omega) (by omega) ?_
      rw [← e2]
      exact kk
    · rw [if_neg hz] at e2
      try simp only [↓reduceIte, ↓LL, LM, Value.cells, Nat.reduceAdd, Option.some.injEq, exists_eq_left', decide_true, decide_false, if_true, if_false, reduceCtorEq, cond_true, cond_false, hz, ne_eq]
      rw [e2] at kk
      exact kk w1 d1 hc1'
theorem f74_s {u : Value} {ds : List De} {cur : Array Value} {B2 : Nat} (hd : DevAt B w p v b D) (hq : w.heap[q]? = some (.cells cur 110 (0, 0))) (hq0 : cur[0]? = some (pv p)) (ho : DsAt C C w q p u ds) (hl : ds.length ≤ 100000) (h0 : 0 ≤ D.c) (h1 : D.c + ds.length ≤ 1000000)
    (kk : ∀ w', DevAt B w' p v b (runs ds D).2 → ChgS (fpD p v b) w w' → Q (.int .i64 (runs ds D).1) w') : f74 u w Q := by
  obtain ⟨xs, ho, hx⟩ := ho
  have hxl := dRs_len hx
  unfold f74
  refine lnl_V ho ?_
  try simp only [↓reduceIte, ↓LL, LM, Value.cells, Nat.reduceAdd, Option.some.injEq, exists_eq_left', decide_true, decide_false, if_true, if_false, reduceCtorEq, cond_true, cond_false]
  rw [hxl]
  exact ⟨ds.length + 1, all_loop (W := w) hd hq hq0 ho hx hl ds.length (ds.length + 1) 0 w D (by omega) (by omega) (ChgS.refl _ _) hd h0 (by omega) (by rw [List.drop_zero]; exact kk)⟩
end
end Go.Proofs.YtongpnolikkknaaDoor

set_option maxRecDepth 20000
set_option maxHeartbeats 4000000
namespace Go.Proofs.YtongpnolikkknaaDoor
open Sh RowKit Go.MapKept
def imG (k : Nat) : Nat → Int := fun j => 2 + 4 * ((k : Nat) : Int) + ((j : Nat) : Int)
def plG (n : Int) : Nat → Int := fun j => 126 + 4 * n + ((j : Nat) : Int)
theorem enO : ∀ args w, (callFunc 69 args).run Tryd.prog w = .ok (.enter 69 args) w := enters_of Tryd.func69 (by kernel_rfl) rfl
theorem enR1 : ∀ args w, (callFunc 94 args).run Tryd.prog w = .ok (.enter 94 args) w := enters_of Tryd.func94 (by kernel_rfl) rfl
theorem enR2 : ∀ args w, (callFunc 96 args).run Tryd.prog w = .ok (.enter 96 args) w := enters_of Tryd.func96 (by kernel_rfl) rfl
section
variable {B C : Nat} {W w w' : World} {p q b : Nat} {v : Value} {D : Dv} {Q : Value → World → Prop}
theorem plc_O {a : Nat} {n : Int} {t : TypeId} (h : w.heap[a]? = some (.cells #[.int .i64 n] t (0, 0))) (h0 : 0 ≤ n) (h1 : n ≤ 1000000) : Plc w (.func (.func 69) #[] #[pv a]) (plG n) := by
  intro w1 hb j hj K Q kk
  refine cf_p enO ?_
  refine s69 (.int .i64 ((j : Nat) : Int)) (pv a) w1 _ ?_
  unfold f69
  have c : w1.cell? ⟨a, 0, none⟩ = some (.int .i64 n) := by rw [cell_of_blk (stay hb h)]; rfl
  try simp only [↓reduceIte, ↓LL, LM, Value.cells, Nat.reduceAdd, Option.some.injEq, exists_eq_left', decide_true, decide_false, if_true, if_false, reduceCtorEq, cond_true, cond_false, c]
  refine f21_s ⟨h0, h1⟩ (by omega) ?_
  try simp only [↓reduceIte, ↓LL, LM, Value.cells, Nat.reduceAdd, Option.some.injEq, exists_eq_left', decide_true, decide_false, if_true, if_false, reduceCtorEq, cond_true, cond_false]
  exact kk
theorem plc_R1 {a : Nat} {k : Nat} {t : TypeId} (h : w.heap[a]? = some (.cells #[.int .i64 ((k : Nat) : Int)] t (0, 0))) (h1 : k ≤ 1000000) : Plc w (.func (.func 94) #[] #[pv a]) (imG k) := by
  intro w1 hb j hj K Q kk
  refine cf_p enR1 ?_
  refine s94 (.int .i64 ((j : Nat) : Int)) (pv a) w1 _ ?_
  unfold f94
  have c : w1.cell? ⟨a, 0, none⟩ = some (.int .i64 ((k : Nat) : Int)) := by rw [cell_of_blk (stay hb h)]; rfl
  try simp only [↓reduceIte, ↓LL, LM, Value.cells, Nat.reduceAdd, Option.some.injEq, exists_eq_left', decide_true, decide_false, if_true, if_false, reduceCtorEq, cond_true, cond_false, c]
  refine f20_s ⟨by omega, by omega⟩ (by omega) ?_
  try simp only [↓reduceIte, ↓LL, LM, Value.cells, Nat.reduceAdd, Option.some.injEq, exists_eq_left', decide_true, decide_false, if_true, if_false, reduceCtorEq, cond_true, cond_false]
  exact kk
theorem plc_R2 {a : Nat} {n : Int} {t : TypeId} (h : w.heap[a]? = some (.cells #[.int .i64 n] t (0, 0))) (h0 : 0 ≤ n) (h1 : n ≤ 1000000) : Plc w (.func (.func 96) #[] #[pv a]) (plG n) := by
  intro w1 hb j hj K Q kk
  refine cf_p enR2 ?_
  refine s96 (.int .i64 ((j : Nat) : Int)) (pv a) w1 _ ?_
  unfold f96
  have c : w1.cell? ⟨a, 0, none⟩ = some (.int .i64 n) := by rw [cell_of_blk (stay hb h)]; rfl
  try simp only [↓reduceIte, ↓LL, LM, Value.cells, Nat.reduceAdd, Option.some.injEq, exists_eq_left', decide_true, decide_false, if_true, if_false, reduceCtorEq, cond_true, cond_false, c]
  refine f21_s ⟨h0, h1⟩ (by omega) ?_
  try simp only [↓reduceIte, ↓LL, LM, Value.cells, Nat.reduceAdd, Option.some.injEq, exists_eq_left', decide_true, decide_false, if_true, if_false, reduceCtorEq, cond_true, cond_false]
  exact kk
theorem MapAt_keep {α : Type} {kv : α → Value} {L : List (α × Value)} (h : MapAt kv w b L) (hk : w'.heap[b]? = w.heap[b]?) : MapAt kv w' b L := by
  obtain ⟨es, clock, h1, h2, h3⟩ := h
  exact ⟨es, clock, hk.trans h1, h2, h3⟩
theorem DevAt.lt (hd : DevAt B w p v b D) : ∀ k, fpD p v b k → k < w.heap.size := by
  rintro k (rfl | rfl | hk)
  · exact hd.plt
  · obtain ⟨L, hm, _⟩ := hd.mp; exact hm.lt
  · exact (hd.gblk k hk).2.2.2
theorem DevAt.chg {S : Nat → Prop} (hd : DevAt B w p v b D) (hc : ChgS S w w') (hS : ∀ k, fpD p v b k → ¬ S k) : DevAt B w' p v b D := by
  obtain ⟨L, hm, hl⟩ := hd.mp
  have hk : ∀ k, fpD p v b k → w'.heap[k]? = w.heap[k]? := fun k h => hc.block k (hd.lt k h) (hS k h)
  exact ⟨hd.pB, hd.bB, hd.n, (hk p (.inl rfl)).trans hd.hp, ownE_stay hd.own fun g hg => hk g (.inr (.inr hg)), L, MapAt_keep hm (hk b (.inr (.inl rfl))), hl⟩
/-- a row of other things changed -/
theorem DevAt.chgV {e : TypeId} {u : Value} {xs : List Value} (hd : DevAt B w p v b D) (ho : ownV C e w u xs) (h1 : e ≠ 108) (h2 : e ≠ 113) (hc : ChgS (fun k => u.ownBlock = some k) w w') : DevAt B w' p v b D :=
  hd.chg hc fun k hk hu => by
    obtain ⟨_, _, cur, hcur⟩ := ownV_lt ho k hu
    exact dev_ne hd hcur h1 h2 hk
theorem ownI_chg {e : TypeId} {k : IntKind} {l : List Int} {u : Value} {S : Nat → Prop} (h : ownI C e k w u l) (hc : ChgS S w w') (hS : ∀ g, u.ownBlock = some g → ¬ S g) : ownI C e k w' u l := by
  obtain ⟨h1, h2⟩ := h
  refine ⟨h1, ?_⟩
  rcases h2 with h2 | ⟨g, cap, cur, rfl, hg, hb', rest⟩
  · exact .inl h2
  · exact .inr ⟨g, cap, cur, rfl, hg, hc.keep hb' (hS g rfl), rest⟩
theorem ownV_chg {e : TypeId} {xs : List Value} {u : Value} {S : Nat → Prop} (h : ownV C e w u xs) (hc : ChgS S w w') (hS : ∀ g, u.ownBlock = some g → ¬ S g) : ownV C e w' u xs :=
  ownV_stay h fun g hg => by
    obtain ⟨_, hl, cur, hcur⟩ := ownV_lt h g hg
    rw [hcur]; exact hc.keep hcur (hS g hg)
theorem DsAt_chg {ds : List De} {u : Value} {S : Nat → Prop} (h : DsAt B C w q p u ds) (hc : ChgS S w w') (hS : ∀ k, C ≤ k → ¬ S k) (hS2 : ∀ k, B ≤ k → ¬ S k) : DsAt B C w' q p u ds := by
  obtain ⟨xs, h1, h2⟩ := h
  exact ⟨xs, ownV_chg h1 hc fun g hg => hS2 g (ownV_lt h1 g hg).1, dRs_imp h2 fun x d hx => dR_chg hx hc fun g _ _ hg _ _ => hS g hg⟩
theorem DsAt_lt {ds : List De} {u : Value} (h : DsAt B C w q p u ds) : ∀ g, u.ownBlock = some g → B ≤ g ∧ g < w.heap.size := by
  obtain ⟨xs, h1, h2⟩ := h
  exact fun g hg => ⟨(ownV_lt h1 g hg).1, (ownV_lt h1 g hg).2.1⟩
end
end Go.Proofs.YtongpnolikkknaaDoor

set_option maxRecDepth 20000
set_option maxHeartbeats 4000000
namespace Go.Proofs.YtongpnolikkknaaDoor
open Sh RowKit Go.MapKept
/-- a page out of its image -/
def imP (D : Dv) (k : Nat) : ByteArray := (joinB (rdL D (imG k) 4)).1
/-- pages brought back, and the deeds of it; none: there is no such page -/
def recLs (D : Dv) : List Int → Nat → List ByteArray → List De → Option (List ByteArray × List De)
  | [], _, L, ds => some (L, ds)
  | n :: r, k, L, ds => if (L.length : Int) ≤ n then none else recLs D r (k + 1) (L.set n.toNat (imP D k)) (ds ++ pageD (plG n) (imP D k))
theorem pageD_len (g : Nat → Int) (s : ByteArray) : (pageD g s).length ≤ 4 := by
  unfold pageD
  split
  · simp
  · simp
section
variable {e : TypeId} {B C Bp : Nat} {W w w' : World} {p q b : Nat} {v u lv : Value} {D : Dv} {Q : Value → World → Prop}
theorem Upd_keep {r g : Nat} {o : Obj} (hu : Upd r w w') (h : w.heap[g]? = some o) (hne : g ≠ r) : w'.heap[g]? = some o := by rw [hu.block g hne]; exact h
theorem DsAt.weak {B' C' : Nat} {ds : List De} {u : Value} (h : DsAt B C w q p u ds) (hB : B' ≤ B) (hC : C' ≤ C) : DsAt B' C' w q p u ds := by
  obtain ⟨xs, h1, h2⟩ := h
  exact ⟨xs, ownV_weak h1 hB, dRs_imp h2 fun x d hx => dR_weak hx hC⟩
theorem cell_V {xs : List Value} {i : Nat} (h : ownV C e w u xs) (hi : i < xs.length) : ∃ g, (∀ (K : Value → M) (w1 : World) (Q : Value → World → Prop), ia 1 u (.int .i64 ((i : Nat) : Int)) K w1 Q = K (.pointer (some ⟨g, i, none⟩)) w1 Q) ∧ w.cell? ⟨g, i, none⟩ = some xs[i] ∧ u.ownBlock = some g := by
  have hne : xs ≠ [] := by intro e; rw [e] at hi; simp at hi
  obtain ⟨g, cap, eu, hown, _, _, hcell⟩ := ownV_blk h hne
  exact ⟨g, fun K w1 Q => by rw [eu]; exact ia_at hi, hcell i hi, hown⟩
theorem lnl_own {xs : List Value} (h : ownV C e w u xs) : ∀ (K : Value → M) (w1 : World) (Q : Value → World → Prop), lnl u K w1 Q = K (.int .i64 ((xs.length : Nat) : Int)) w1 Q := by
  intro K w1 Q
  obtain ⟨p, c, rfl⟩ := ownV_len h
  rw [lnl_e]
theorem recover_loop {L0 : List ByteArray} {l : List Int} {st c : Value} {j1 : Value → Value → M} {Bl : Nat} (hd : DevAt B W p v b D) (hq : W.heap[q]? = some (.cells #[pv p, u, st, c] 110 (0, 0))) (hu0 : ownV Bp 9 W u (L0.map .string)) (hlv : ownI Bl 3 .i64 W lv l)
    (hl : l.length ≤ 31) (hbd : ∀ x ∈ l, 0 ≤ x ∧ x ≤ 65535) : ∀ (d m i : Nat) (w : World) (L : List ByteArray) (ds : List De) (v5 : Value), i + d = l.length → d < m → ChgS (fun k => u.ownBlock = some k) W w → ownV Bp 9 w u (L.map .string) → L.length = L0.length → DsAt W.heap.size W.heap.size w q p v5 ds → ds.length ≤ 4 * i →
    (recLs D (l.drop i) i L ds = none → ∀ w', ChgS (fun k => u.ownBlock = some k) W w' → Q (.int .i64 10) w') →
    (∀ L' ds', recLs D (l.drop i) i L ds = some (L', ds') → ∀ w' v', ChgS (fun k => u.ownBlock = some k) W w' → ownV Bp 9 w' u (L'.map .string) → L'.length = L0.length → DsAt W.heap.size W.heap.size w' q p v' ds' → ds'.length ≤ 4 * l.length → j1 (pv q) v' w' Q) →
    itr (fun _ _ _ _ _ => bot) (f71_b2 j1) m (pv q) v5 lv (.int .i64 ((l.length : Nat) : Int)) (.int .i64 ((i : Nat) : Int)) w Q := by
  intro d
  induction d with
  | zero =>
    intro m i w L ds v5 hi hm hc hu hL hds hdl kf kk
    obtain ⟨m, rfl⟩ : ∃ x, m = x + 1 := ⟨m - 1, by omega⟩
    show f71_b2 j1 _ _ _ _ _ _ w Q
    unfold f71_b2
    have c : ¬ (i : Int) < (l.length : Nat) := by omega
    try simp only [↓reduceIte, ↓LL, LM, Value.cells, Nat.reduceAdd, Option.some.injEq, exists_eq_left', decide_true, decide_false, if_true, if_false, reduceCtorEq, cond_true, cond_false, c]
    rw [List.drop_of_length_le (by omega)] at kk
    exact kk L ds rfl w v5 hc hu hL hds (by omega)
  | succ d ih =>
    intro m i w L ds v5 hi hm hc hu hL hds hdl kf kk
    obtain ⟨m, rfl⟩ : ∃ x, m = x + 1 := ⟨m - 1, by omega⟩
    show f71_b2 j1 _ _ _ _ _ _ w Q
    unfold f71_b2
    have c : (i : Int) < (l.length : Nat) := by omega
    have hil : i < l.length := by omega
    have uT : ∀ g, u.ownBlock = some g → g < W.heap.size ∧ ∃ cur, W.heap[g]? = some (.cells cur 9 (0, 0)) := fun g hg => ⟨(ownV_lt hu0 g hg).2.1, (ownV_lt hu0 g hg).2.2⟩
    have hlw : ownI Bl 3 .i64 w lv l := ownI_chg hlv hc fun g hg hn => by
      obtain ⟨_, cur, hcur⟩ := uT g hn
      obtain ⟨_, h2⟩ := hlv
      rcases h2 with ⟨rfl, _⟩ | ⟨g', cap, cur', rfl, _, hb', _⟩
      · cases hg
      · cases hg; rw [hcur] at hb'; cases hb'
    have hqw := hc.keep hq (fun hn => by obtain ⟨_, cur, hcur⟩ := uT q hn; rw [hcur] at hq; cases hq)
    have hdw := hd.chgV hu0 (by decide) (by decide) hc
    have edr : l.drop i = l[i] :: l.drop (i + 1) := List.drop_eq_getElem_cons hil
    obtain ⟨n0, n1'⟩ := hbd l[i] (List.getElem_mem hil)
    obtain ⟨ax, cx, hax⟩ := ld_i (ownI_rd hlw) hil
    have qx := cx w (Below.refl _ _)
    generalize l[i] = n at *
    try simp only [↓reduceIte, ↓LL, LM, Value.cells, Nat.reduceAdd, Option.some.injEq, exists_eq_left', decide_true, decide_false, if_true, if_false, reduceCtorEq, cond_true, cond_false, c, hax, qx]
    -- two boxes
    have b1 := b_psh w (.cells #[.int .i64 0] 3)
    have k1 := blk_psh_new (w := w) (o := .cells #[.int .i64 0] 3)
    have z1 : (psh w (.cells #[.int .i64 0] 3)).heap.size = w.heap.size + 1 := size_psh
    generalize psh w (.cells #[.int .i64 0] 3) = w1 at *
    have b2 := b_psh w1 (.cells #[.int .i64 0] 3)
    have k2 := blk_psh_new (w := w1) (o := .cells #[.int .i64 0] 3)
    have k1 := stay b2 k1
    have z2 : (psh w1 (.cells #[.int .i64 0] 3)).heap.size = w1.heap.size + 1 := size_psh
    generalize psh w1 (.cells #[.int .i64 0] 3) = w2 at *
    refine st_box (o := 0) (v := .int .i64 ((i : Nat) : Int)) k1 (by decide) rfl fun w3 k1 u3 => ?_
    have k2 := Upd_keep u3 k2 (by omega)
    refine st_box (o := 0) (v := .int .i64 n) k2 (by decide) rfl fun w4 k2 u4 => ?_
    have k1 := Upd_keep u4 k1 (by omega)
    have k1 : w4.heap[w.heap.size]? = some (.cells #[.int .i64 ((i : Nat) : Int)] 3 (0, 0)) := k1
    have k2 : w4.heap[w1.heap.size]? = some (.cells #[.int .i64 n] 3 (0, 0)) := k2
    have b4 : Below w.heap.size w w4 := ((bt b1 b2).trans (u3.below (Nat.le_refl _))).trans (u4.below (by omega))
    have c7 : w4.cell? ⟨w1.heap.size, 0, none⟩ = some (.int .i64 n) := by rw [cell_of_blk k2]; rfl
    have hq4 := stay b4 hqw
    have cq1 : w4.cell? ⟨q, 1, none⟩ = some u := by rw [cell_of_blk hq4]; rfl
    have hu4 := ownV_below hu b4
    have lu := lnl_own hu4
    rw [List.length_map] at lu
    by_cases hn : (L.length : Int) ≤ n
    · have hn' : n ≥ (L.length : Int) := hn
      try simp only [↓reduceIte, ↓LL, LM, Value.cells, Nat.reduceAdd, Option.some.injEq, exists_eq_left', decide_true, decide_false, if_true, if_false, reduceCtorEq, cond_true, cond_false, c7, cq1, lu, hn, hn']
      refine kf (by rw [edr]; unfold recLs; rw [if_pos hn]) _ ?_
      exact hc.trans (ChgS.of_below b4 (S := fun k => u.ownBlock = some k)).drw fun _ _ h => h
    · have hn' : ¬ n ≥ (L.length : Int) := hn
      have edr2 : recLs D (l.drop i) i L ds = recLs D (l.drop (i + 1)) (i + 1) (L.set n.toNat (imP D i)) (ds ++ pageD (plG n) (imP D i)) := by rw [edr]; show (if _ then _ else _) = _; rw [if_neg hn]
      rw [edr2] at kf kk
      try simp only [↓reduceIte, ↓LL, LM, Value.cells, Nat.reduceAdd, Option.some.injEq, exists_eq_left', decide_true, decide_false, if_true, if_false, reduceCtorEq, cond_true, cond_false, c7, cq1, lu, hn, hn']
      refine f68_s ((hdw.below b4).drw.drw) (by rw [cell_drw, cell_drw, cell_of_blk hq4]; rfl) (plc_R1 (show (drw (drw w4)).heap[w.heap.size]? = _ from k1) (by omega)) fun w5 b5 => ?_
      have b5 := of_drw' (of_drw' b5)
      have k2 := stay b5 k2
      have hq5 := stay b5 hq4
      have c7 : w5.cell? ⟨w1.heap.size, 0, none⟩ = some (.int .i64 n) := by rw [cell_of_blk k2]; rfl
      have cq1 : w5.cell? ⟨q, 1, none⟩ = some u := by rw [cell_of_blk hq5]; rfl
      have hu5 := ownV_below hu4 b5
      have eim : (joinB (rdL D (imG i) 4)).1 = imP D i := rfl
      obtain ⟨n, rfl⟩ := Int.eq_ofNat_of_zero_le n0
      have hnl : n < (L.map Value.string).length := by rw [List.length_map]; omega
      have b05 := bt b4 b5
      try simp only [↓reduceIte, ↓LL, LM, Value.cells, Nat.reduceAdd, Option.some.injEq, exists_eq_left', decide_true, decide_false, if_true, if_false, reduceCtorEq, cond_true, cond_false]
      refine ⟨by rw [Kld_e]; exact c7, ?_⟩
      refine ⟨by rw [Kld_e]; exact cq1, ?_⟩
      rw [eim]
      refine ia_stV hu5 hnl rfl fun w6 g6 hg6 hu6 up6 => ?_
      have eset : (L.map Value.string).set n (.string (imP D i)) = (L.set n (imP D i)).map .string := by rw [List.map_set]
      rw [eset] at hu6
      have hgW : g6 < W.heap.size := (uT g6 hg6).1
      have s6 : W.heap.size ≤ w.heap.size := hc.size
      have k2 := Upd_keep up6 k2 (by omega)
      have hq6 := Upd_keep up6 hq5 (fun e => by obtain ⟨_, cur, hcur⟩ := uT g6 hg6; rw [e] at hq; rw [hcur] at hq; cases hq)
      have c7 : w6.cell? ⟨w1.heap.size, 0, none⟩ = some (.int .i64 ((n : Nat) : Int)) := by rw [cell_of_blk k2]; rfl
      have cq1 : w6.cell? ⟨q, 1, none⟩ = some u := by rw [cell_of_blk hq6]; rfl
      have hnl6 : n < ((L.set n (imP D i)).map Value.string).length := by rw [List.length_map, List.length_set]; rw [List.length_map] at hnl; exact hnl
      obtain ⟨g', hia, hcu, _⟩ := cell_V hu6 hnl6
      have eg : ((L.set n (imP D i)).map Value.string)[n] = .string (imP D i) := by simp
      rw [eg] at hcu
      have hc6 : ChgS (fun k => u.ownBlock = some k) W w6 := hc.trans ((ChgS.of_below b05 (S := fun k => u.ownBlock = some k)).trans (ChgS.of_upd up6 hg6) fun _ _ h => h) fun _ _ h => h
      have hds6 : DsAt W.heap.size W.heap.size w6 q p v5 ds := by
        have h5 := hds.below b05
        exact DsAt_chg h5 (ChgS.of_upd up6 rfl (S := fun k => k = g6)) (fun k hk e => by omega) (fun k hk e => by omega)
      have h3 : IntKind.i64.wrap ((i : Int) + 1) = ((i + 1 : Nat) : Int) := by rw [w64 (by omega) (by omega)]; rfl
      try simp only [↓reduceIte, ↓LL, LM, Value.cells, Nat.reduceAdd, Option.some.injEq, exists_eq_left', decide_true, decide_false, if_true, if_false, reduceCtorEq, cond_true, cond_false, c7, cq1, hia, hcu]
      refine f95_s (p := p) (plc_R2 (show (drw w6).heap[w1.heap.size]? = _ from k2) (by omega) (by omega)) fun w7 v7 b7 d7 => ?_
      have b7 := of_drw' b7
      have d7 : DsAt w6.heap.size w6.heap.size w7 q p v7 _ := d7
      have s56 : w6.heap.size = w5.heap.size := up6.size
      have sW : W.heap.size ≤ w6.heap.size := hc6.size
      have pl := pageD_len (plG ((n : Nat) : Int)) (imP D i)
      try simp only [↓reduceIte, ↓LL, LM, Value.cells, Nat.reduceAdd, Option.some.injEq, exists_eq_left', decide_true, decide_false, if_true, if_false, reduceCtorEq, cond_true, cond_false]
      refine ap_ds (hds6.below b7) (d7.weak (Nat.le_refl _) sW) (by omega) (Nat.le_trans sW b7.size) fun w8 v8 b8 d8 hc8 fr8 => ?_
      try simp only [↓reduceIte, ↓LL, LM, Value.cells, Nat.reduceAdd, Option.some.injEq, exists_eq_left', decide_true, decide_false, if_true, if_false, reduceCtorEq, cond_true, cond_false, h3]
      have hc7 : ChgS (fun k => u.ownBlock = some k) W w7 := hc6.trans (ChgS.of_below b7) fun _ _ h => h
      have hc8' : ChgS (fun k => u.ownBlock = some k) W w8 := hc7.trans hc8 fun k hk h => by have := (DsAt_lt (hds6.below b7) k h).1; omega
      refine ih m (i + 1) w8 _ _ v8 (by omega) (by omega) hc8' ?_ (by rw [List.length_set]; exact hL) d8 (by rw [List.length_append]; omega) kf kk
      exact ownV_chg (ownV_below hu6 b7) hc8 fun g hg h => by have := (DsAt_lt (hds6.below b7) g h).1; have := (uT g hg).1; omega
end
end Go.Proofs.YtongpnolikkknaaDoor

set_option maxRecDepth 20000
set_option maxHeartbeats 4000000
namespace Go.Proofs.YtongpnolikkknaaDoor
open Sh RowKit Go.MapKept
def recB (D : Dv) (L : List ByteArray) : Int × Dv × List ByteArray :=
  if dirB (D.rd 1) = true then match recLs D (lst (D.rd 1)) 0 L [] with
    | none => (10, D, L)
    | some (L', ds) => ((runs (ds ++ [.sy] ++ markD false) D).1, (runs (ds ++ [.sy] ++ markD false) D).2, L')
  else (10, D, L)
theorem rd_size (D : Dv) (i : Int) : (D.rd i).size ≤ 64 := by
  unfold Dv.rd
  cases h : D.at i with
  | none => show (⟨#[]⟩ : ByteArray).size ≤ 64; decide
  | some x => exact Nat.le_of_eq x.now.2
theorem dirB_lst {s : ByteArray} (h : dirB s = true) : (rdA s).1 = lst s ∧ (lst s).length ≤ 31 ∧ (lst s).Nodup ∧ ∀ x ∈ lst s, 0 ≤ x ∧ x ≤ 65535 := by
  have e := rdA_ok (dir_iff.1 h).1
  obtain ⟨_, h2, h3, _⟩ := of_decide_eq_true h
  rw [e] at h3
  have h4 := of_decide_eq_true h3
  exact ⟨by rw [e], by rw [lst_len]; exact h2, h4.1, h4.2⟩
section
variable {e : TypeId} {B C Bp : Nat} {W w w' : World} {p q b : Nat} {v u lv : Value} {D : Dv} {Q : Value → World → Prop}
theorem f71_s {L : List ByteArray} {st c : Value} (hd : DevAt B w p v b D) (hq : w.heap[q]? = some (.cells #[pv p, u, st, c] 110 (0, 0))) (hu : ownV Bp 9 w u (L.map .string)) (h0 : 0 ≤ D.c) (h1 : D.c + 200 ≤ 1000000)
    (kk : ∀ w', DevAt B w' p v b (recB D L).2.1 → ChgS (fun k => u.ownBlock = some k ∨ fpD p v b k) w w' → ((recB D L).1 = 0 → ownV Bp 9 w' u ((recB D L).2.2.map .string)) → Q (.int .i64 (recB D L).1) w') : f71 (pv q) w Q := by
  unfold f71
  have cq0 : w.cell? ⟨q, 0, none⟩ = some (pv p) := by rw [cell_of_blk hq]; rfl
  try simp only [↓reduceIte, ↓LL, LM, Value.cells, Nat.reduceAdd, Option.some.injEq, exists_eq_left', decide_true, decide_false, if_true, if_false, reduceCtorEq, cond_true, cond_false, cq0]
  refine f70_s hd 1 fun w1 b1 => ?_
  try simp only [↓reduceIte, ↓LL, LM, Value.cells, Nat.reduceAdd, Option.some.injEq, exists_eq_left', decide_true, decide_false, if_true, if_false, reduceCtorEq, cond_true, cond_false]
  have hz := rd_size D 1
  refine f15_s (by omega) (fun w2 b2 hdir => ?_) (fun w2 lv b2 hdir hlv => ?_)
  · have b02 := bt b1 b2
    have e : recB D L = (10, D, L) := by unfold recB; rw [if_neg (by rw [hdir]; decide)]
    rw [e] at kk
    have z : ¬ (10 : Int) = 0 := by decide
    try simp only [↓reduceIte, ↓LL, LM, Value.cells, Nat.reduceAdd, Option.some.injEq, exists_eq_left', decide_true, decide_false, if_true, if_false, reduceCtorEq, cond_true, cond_false, get0, get1, ne_eq, z]
    exact kk w2 (hd.below b02) (ChgS.of_below b02) (fun h => absurd h z)
  · have b02 := bt b1 b2
    obtain ⟨e1, l31, lnd, lbd⟩ := dirB_lst hdir
    rw [e1] at hlv
    have hq2 := stay b02 hq
    have hu2 := ownV_below hu b02
    have hd2 := hd.below b02
    have llv : ∀ (K : Value → M) (w1 : World) (Q : Value → World → Prop), lnl lv K w1 Q = K (.int .i64 (((lst (D.rd 1)).length : Nat) : Int)) w1 Q := fun K w1 Q => by
      obtain ⟨pl, cl, el, _⟩ := ownI_len hlv
      rw [el, lnl_e]
    try simp only [↓reduceIte, ↓LL, LM, Value.cells, Nat.reduceAdd, Option.some.injEq, exists_eq_left', decide_true, decide_false, if_true, if_false, reduceCtorEq, cond_true, cond_false, get0, get1, ne_eq, llv]
    have eB : recB D L = match recLs D (lst (D.rd 1)) 0 L [] with
      | none => (10, D, L)
      | some (L', ds) => ((runs (ds ++ [.sy] ++ markD false) D).1, (runs (ds ++ [.sy] ++ markD false) D).2, L') := by unfold recB; rw [if_pos hdir]
    refine ⟨_, recover_loop (W := w2) hd2 hq2 hu2 hlv l31 lbd (lst (D.rd 1)).length ((lst (D.rd 1)).length + 1) 0 w2 L [] _ (by omega) (by omega) (ChgS.refl _ _) hu2 rfl DsAt_nil (by simp) (fun hn w3 hc3 => ?_) (fun L' ds' hs w3 v3 hc3 hu3 hL3 hds3 hdl3 => ?_)⟩
    · rw [List.drop_zero] at hn
      rw [hn] at eB
      have eB : recB D L = (10, D, L) := eB
      rw [eB] at kk
      have z : ¬ (10 : Int) = 0 := by decide
      have hc := (ChgS.of_below b02 (S := fun k => u.ownBlock = some k)).trans hc3 fun _ _ h => h
      exact kk w3 (hd.chgV hu (by decide) (by decide) hc) (hc.mono fun k h => .inl h) (fun h => absurd h z)
    · rw [List.drop_zero] at hs
      rw [hs] at eB
      have eB : recB D L = ((runs (ds' ++ [.sy] ++ markD false) D).1, (runs (ds' ++ [.sy] ++ markD false) D).2, L') := eB
      rw [eB] at kk
      have hc := (ChgS.of_below b02 (S := fun k => u.ownBlock = some k)).trans hc3 fun _ _ h => h
      have uq : ¬ u.ownBlock = some q := fun hn => by
        obtain ⟨_, _, cur, hcur⟩ := ownV_lt hu q hn
        rw [hcur] at hq; cases hq
      have hq3 := hc.keep hq uq
      have cq0 : w3.cell? ⟨q, 0, none⟩ = some (pv p) := by rw [cell_of_blk hq3]; rfl
      have s3 : w2.heap.size ≤ w3.heap.size := hc3.size
      unfold f71_j1
      try simp only [↓reduceIte, ↓LL, LM, Value.cells, Nat.reduceAdd, Option.some.injEq, exists_eq_left', decide_true, decide_false, if_true, if_false, reduceCtorEq, cond_true, cond_false, cq0]
      refine ap_d hds3 (show dR w2.heap.size w3 q p _ .sy from rfl) (by omega) s3 fun w4 v4 b4 d4 hc4 _ => ?_
      have hc4' : ChgS (fun k => u.ownBlock = some k) w w4 := hc.trans hc4 fun k hk h => by have := (DsAt_lt hds3 k h).1; have := b02.size; omega
      have hq4 := hc4'.keep hq uq
      try simp only [↓reduceIte, ↓LL, LM, Value.cells, Nat.reduceAdd, Option.some.injEq, exists_eq_left', decide_true, decide_false, if_true, if_false, reduceCtorEq, cond_true, cond_false]
      refine f97_s (p := p) (by rw [cell_of_blk hq4]; rfl) fun w5 v5 b5 d5 => ?_
      have s4 : w2.heap.size ≤ w4.heap.size := Nat.le_trans s3 b4.size
      try simp only [↓reduceIte, ↓LL, LM, Value.cells, Nat.reduceAdd, Option.some.injEq, exists_eq_left', decide_true, decide_false, if_true, if_false, reduceCtorEq, cond_true, cond_false]
      refine ap_ds (d4.below b5) (d5.weak (Nat.le_refl _) s4) (by simp [markD]; omega) (Nat.le_trans s4 b5.size) fun w6 v6 b6 d6 hc6 _ => ?_
      have hc5' : ChgS (fun k => u.ownBlock = some k) w w5 := hc4'.trans (ChgS.of_below b5) fun _ _ h => h
      have hc6' : ChgS (fun k => u.ownBlock = some k) w w6 := hc5'.trans hc6 fun k hk h => by have := (DsAt_lt (d4.below b5) k h).1; have := b02.size; omega
      have hd6 := hd.chgV hu (by decide) (by decide) hc6'
      have hu6 : ownV Bp 9 w6 u (L'.map .string) := by
        have h4 := ownV_chg hu3 hc4 fun g hg h => by have := (DsAt_lt hds3 g h).1; have := (ownV_lt hu2 g hg).2.1; omega
        exact ownV_chg (ownV_below h4 b5) hc6 fun g hg h => by have := (DsAt_lt (d4.below b5) g h).1; have := (ownV_lt hu2 g hg).2.1; omega
      try simp only [↓reduceIte, ↓LL, LM, Value.cells, Nat.reduceAdd, Option.some.injEq, exists_eq_left', decide_true, decide_false, if_true, if_false, reduceCtorEq, cond_true, cond_false]
      have hlen : (ds' ++ [De.sy] ++ markD false).length ≤ 200 := by simp [markD]; omega
      refine f74_s (B2 := 0) hd6 (hc6'.keep hq uq) rfl d6 (by omega) h0 (by omega) fun w7 d7 hc7 => ?_
      try simp only [↓reduceIte, ↓LL, LM, Value.cells, Nat.reduceAdd, Option.some.injEq, exists_eq_left', decide_true, decide_false, if_true, if_false, reduceCtorEq, cond_true, cond_false]
      exact kk w7 d7 ((hc6'.mono fun k h => .inl h).trans (hc7.mono fun k h => .inr h) fun _ _ h => h) (fun _ => own_dev hd6 hu6 (by decide) (by decide) hc7)
end
end Go.Proofs.YtongpnolikkknaaDoor

set_option maxRecDepth 20000
set_option maxHeartbeats 4000000
namespace Go.Proofs.YtongpnolikkknaaDoor
open Sh RowKit Go.MapKept
def pgP (D : Dv) (n : Nat) : ByteArray := (joinB (rdL D (plG n) 4)).1
def pgL (D : Dv) (N : Nat) : List ByteArray := (List.range N).map (pgP D)
theorem pgL_succ (D : Dv) (N : Nat) : pgL D (N + 1) = pgL D N ++ [pgP D N] := by unfold pgL; rw [List.range_succ, List.map_append]; rfl
theorem pgL_len (D : Dv) (N : Nat) : (pgL D N).length = N := by unfold pgL; simp
/-- a pager opened: the error, the device behind it, the pages -/
def openB (D : Dv) (n : Int) : Int × Dv × List ByteArray :=
  if n < 1 ∨ 160 < n ∨ (D.A.length : Int) < 126 + 4 * n then (1, D, []) else if mkd (D.rd 0) = true then recB D (pgL D n.toNat) else (0, D, pgL D n.toNat)
theorem buildPg (p : Nat) (w : World) : (Instr.build 110 #[(0, pv p)]).run Tryd.prog w = .ok (.agg #[pv p, .slice none 0 0, .bool false, .int .i64 0]) w := by
  kernel_rfl
theorem slS : slT Tryd.prog 39 9 (.string ⟨#[]⟩) 1 16 := sl39
section
variable {e : TypeId} {B C Bp : Nat} {W w w' : World} {p q b : Nat} {v u lv : Value} {D : Dv} {Q : Value → World → Prop}
/-- one text more; what was read ahead is there still -/
theorem ap_Tk {F : World → Prop} {s : ByteArray} {l : List ByteArray} {K : Value → M} (hF : F (psh w (.cells #[.string s] 9))) (h : ownV B 9 w v (l.map .string)) (hl : l.length ≤ 1000000) (hB : B ≤ w.heap.size)
    (kk : ∀ w' v', ownV B 9 w' v' ((l ++ [s]).map .string) → ChgS (fun k => v.ownBlock = some k) w w' → (∀ g, v'.ownBlock = some g → v.ownBlock = some g ∨ w.heap.size ≤ g) → K v' w' Q) :
    sm Tryd.prog (Instr.buildSlice 39 1 #[(0, .string s)]) (fun t => kp F (sm Tryd.prog (Builtin.append_ #[39, 39] 39 #[v, t]) K)) w Q := by
  refine bsl1 slS rfl rfl ?_
  refine ⟨hF, ?_⟩
  have h1 : (psh w (.cells #[.string s] 9)).ownsRow B 9 1 v (l.map Value.string).length (l.map .string) := World.ownsRow.alloc h _
  obtain ⟨i, g1, g2, g3, g4, g5⟩ := slT_info slS
  obtain ⟨v', w', hr, ho, hg, _, hf⟩ := run_append_own_at (P := Tryd.prog) (psh w (.cells #[.string s] 9)) B 39 39 9 i _ 1 16 g1 g2 g3 g4 g5 rfl (by decide) v (l.map Value.string).length (l.map .string) h1 ⟨w.heap.size, 0, none⟩ 1 1 [.string s] rfl (by
    intro j u hj
    cases j with
    | zero => simp at hj; subst hj; rw [add_lit, cell_psh_new]; rfl
    | succ j => simp at hj) (by intro u hu; simp at hu; subst hu; rfl) (by rw [List.length_map]; unfold maxLen; omega) (by rw [List.length_map]; omega) (by rw [size_psh]; omega)
  refine ⟨v', w', hr, kk w' v' ?_ ⟨hg.os, hg.tape, hg.output, by have := hg.size; rw [size_psh] at this; omega, fun k hk hne => ?_⟩ ?_⟩
  · unfold ownV
    have e1 : ((l ++ [s]).map Value.string) = l.map .string ++ [.string s] := by rw [List.map_append]; rfl
    rw [e1, List.length_append]; exact ho
  · rw [hg.block k (by rw [size_psh]; omega) (fun e => hne e.symm), blk_psh_old hk]
  · intro g hgv
    rcases hf with hf | hf
    · left; rw [← hf]; exact hgv
    · right
      rw [hf, size_psh] at hgv
      cases hgv; omega
theorem open_loop {n : Nat} {j1 : Value → Value → M} (hd : DevAt B W p v b D) (hn : n ≤ 1000) (hqW : W.heap.size ≤ q) : ∀ (d m i : Nat) (w : World) (u : Value), i + d = n → d < m → Below W.heap.size W w → w.heap[q]? = some (.cells #[pv p, u, .bool false, .int .i64 0] 110 (0, 0)) → ownV W.heap.size 9 w u ((pgL D i).map .string) →
    (∀ w' u', Below W.heap.size W w' → w'.heap[q]? = some (.cells #[pv p, u', .bool false, .int .i64 0] 110 (0, 0)) → ownV W.heap.size 9 w' u' ((pgL D n).map .string) → j1 (pv p) (pv q) w' Q) →
    itr (fun _ _ _ _ => bot) (f38_b2 j1) m (pv p) (pv q) (.int .i64 ((n : Nat) : Int)) (.int .i64 ((i : Nat) : Int)) w Q := by
  intro d
  induction d with
  | zero =>
    intro m i w u hi hm hb hq ho kk
    obtain ⟨m, rfl⟩ : ∃ x, m = x + 1 := ⟨m - 1, by omega⟩
    show f38_b2 j1 _ _ _ _ _ w Q
    unfold f38_b2
    have c : ¬ (i : Int) < (n : Nat) := by omega
    try simp only [↓reduceIte, ↓LL, LM, Value.cells, Nat.reduceAdd, Option.some.injEq, exists_eq_left', decide_true, decide_false, if_true, if_false, reduceCtorEq, cond_true, cond_false, c]
    have : i = n := by omega
    rw [this] at ho
    exact kk w u hb hq ho
  | succ d ih =>
    intro m i w u hi hm hb hq ho kk
    obtain ⟨m, rfl⟩ : ∃ x, m = x + 1 := ⟨m - 1, by omega⟩
    show f38_b2 j1 _ _ _ _ _ w Q
    unfold f38_b2
    have c : (i : Int) < (n : Nat) := by omega
    have h3 : IntKind.i64.wrap ((i : Int) + 1) = ((i + 1 : Nat) : Int) := by rw [w64 (by omega) (by omega)]; rfl
    have b1 := b_psh w (.cells #[.int .i64 0] 3)
    have k1 := blk_psh_new (w := w) (o := .cells #[.int .i64 0] 3)
    try simp only [↓reduceIte, ↓LL, LM, Value.cells, Nat.reduceAdd, Option.some.injEq, exists_eq_left', decide_true, decide_false, if_true, if_false, reduceCtorEq, cond_true, cond_false, c]
    generalize psh w (.cells #[.int .i64 0] 3) = w1 at *
    refine st_box (o := 0) (v := .int .i64 ((i : Nat) : Int)) k1 (by decide) rfl fun w2 k2 u2 => ?_
    have k2 : w2.heap[w.heap.size]? = some (.cells #[.int .i64 ((i : Nat) : Int)] 3 (0, 0)) := k2
    have b2 : Below w.heap.size w w2 := b1.trans (u2.below (Nat.le_refl _))
    have hq2 := stay b2 hq
    have c1 : w2.cell? ⟨q, 1, none⟩ = some u := by rw [cell_of_blk hq2]; rfl
    have hb2 := bt hb b2
    try simp only [↓reduceIte, ↓LL, LM, Value.cells, Nat.reduceAdd, Option.some.injEq, exists_eq_left', decide_true, decide_false, if_true, if_false, reduceCtorEq, cond_true, cond_false, c1]
    refine f68_s ((hd.below hb2).drw) (by rw [cell_drw, cell_of_blk hq2]; rfl) (plc_O (show (drw w2).heap[w.heap.size]? = _ from k2) (by omega) (by omega)) fun w3 b3 => ?_
    have b3 := of_drw' b3
    have hq3 := stay b3 hq2
    have hb3 := bt hb2 b3
    have c1 : w3.cell? ⟨q, 1, none⟩ = some u := by rw [cell_of_blk hq3]; rfl
    have ho3 := ownV_below ho (bt b2 b3)
    try simp only [↓reduceIte, ↓LL, LM, Value.cells, Nat.reduceAdd, Option.some.injEq, exists_eq_left', decide_true, decide_false, if_true, if_false, reduceCtorEq, cond_true, cond_false]
    refine ⟨by rw [Kld_e]; exact c1, ?_⟩
    have b4 := b_psh w3 (.cells #[.string (joinB (rdL D (plG ((i : Nat) : Int)) 4)).1] 9)
    refine ap_Tk (by rw [Kld_e]; exact cell_below b4 c1) ho3 (by rw [pgL_len]; omega) hb3.size fun w5 u5 o5 hc5 fr5 => ?_
    have uT : ∀ g, u.ownBlock = some g → W.heap.size ≤ g ∧ g ≠ q := fun g hg => by
      obtain ⟨h1, _, cur, hcur⟩ := ownV_lt ho g hg
      exact ⟨h1, fun e => by rw [e, hq] at hcur; cases hcur⟩
    have hq5 := hc5.keep hq3 fun h => (uT q h).2 rfl
    have hb5 : Below W.heap.size W w5 := hb3.trans (hc5.below (fun k hk => (uT k hk).1) hb3.size)
    try simp only [↓reduceIte, ↓LL, LM, Value.cells, Nat.reduceAdd, Option.some.injEq, exists_eq_left', decide_true, decide_false, if_true, if_false, reduceCtorEq, cond_true, cond_false]
    refine st_box (o := 1) (v := u5) hq5 (show 1 < 4 by decide) (by obtain ⟨x, y, rfl⟩ := ownV_len o5; rfl) fun w6 hq6 u6 => ?_
    have hq6 : w6.heap[q]? = some (.cells #[pv p, u5, .bool false, .int .i64 0] 110 (0, 0)) := hq6
    try simp only [↓reduceIte, ↓LL, LM, Value.cells, Nat.reduceAdd, Option.some.injEq, exists_eq_left', decide_true, decide_false, if_true, if_false, reduceCtorEq, cond_true, cond_false, h3]
    refine ih m (i + 1) w6 u5 (by omega) (by omega) (hb5.trans (u6.below hqW)) hq6 ?_ kk
    rw [pgL_succ]
    exact ownV_stay o5 fun g hg => u6.block g fun e => by
      obtain ⟨_, _, cur, hcur⟩ := ownV_lt o5 g hg
      rw [e, hq5] at hcur; cases hcur
theorem pt58 : Tryd.prog.underlying 58 = some (.pointer (Tryd.prog.pointee 58)) := pt23
theorem f38_s {n : Int} (hd : DevAt B w p v b D) (h0 : 0 ≤ D.c) (h1 : D.c + 200 ≤ 1000000)
    (k1 : (openB D n).1 ≠ 0 → ∀ w', DevAt B w' p v b (openB D n).2.1 → ChgS (fpD p v b) w w' → Q (.tuple #[.pointer none, .int .i64 (openB D n).1]) w')
    (k0 : (openB D n).1 = 0 → ∀ w' q u, w.heap.size ≤ q → w'.heap[q]? = some (.cells #[pv p, u, .bool false, .int .i64 0] 110 (0, 0)) → ownV w.heap.size 9 w' u ((openB D n).2.2.map .string) → DevAt B w' p v b (openB D n).2.1 → ChgS (fpD p v b) w w' → Q (.tuple #[pv q, .int .i64 0]) w') : f38 (pv p) (.int .i64 n) w Q := by
  unfold f38
  rw [pn_eq pt58]
  by_cases c1 : n < 1
  · have e : openB D n = (1, D, []) := by unfold openB; rw [if_pos (.inl c1)]
    rw [e] at k1
    try simp only [↓reduceIte, ↓LL, LM, Value.cells, Nat.reduceAdd, Option.some.injEq, exists_eq_left', decide_true, decide_false, if_true, if_false, reduceCtorEq, cond_true, cond_false, Option.isNone, c1]
    exact k1 (show ¬ (1 : Int) = 0 by decide) w hd (ChgS.refl _ _)
  by_cases c2 : 160 < n
  · have e : openB D n = (1, D, []) := by unfold openB; rw [if_pos (.inr (.inl c2))]
    rw [e] at k1
    have c2' : n > 160 := c2
    try simp only [↓reduceIte, ↓LL, LM, Value.cells, Nat.reduceAdd, Option.some.injEq, exists_eq_left', decide_true, decide_false, if_true, if_false, reduceCtorEq, cond_true, cond_false, Option.isNone, c1, c2, c2']
    exact k1 (show ¬ (1 : Int) = 0 by decide) w hd (ChgS.refl _ _)
  have c2' : ¬ n > 160 := c2
  try simp only [↓reduceIte, ↓LL, LM, Value.cells, Nat.reduceAdd, Option.some.injEq, exists_eq_left', decide_true, decide_false, if_true, if_false, reduceCtorEq, cond_true, cond_false, Option.isNone, c1, c2, c2']
  refine f39_s hd ?_
  try simp only [↓reduceIte, ↓LL, LM, Value.cells, Nat.reduceAdd, Option.some.injEq, exists_eq_left', decide_true, decide_false, if_true, if_false, reduceCtorEq, cond_true, cond_false]
  refine f22_s ⟨by omega, by omega⟩ ?_
  by_cases c3 : ((D.A.length : Nat) : Int) < 126 + 4 * n
  · have e : openB D n = (1, D, []) := by unfold openB; rw [if_pos (.inr (.inr c3))]
    rw [e] at k1
    try simp only [↓reduceIte, ↓LL, LM, Value.cells, Nat.reduceAdd, Option.some.injEq, exists_eq_left', decide_true, decide_false, if_true, if_false, reduceCtorEq, cond_true, cond_false, c3]
    exact k1 (show ¬ (1 : Int) = 0 by decide) w hd (ChgS.refl _ _)
  have eO : openB D n = if mkd (D.rd 0) = true then recB D (pgL D n.toNat) else (0, D, pgL D n.toNat) := by
    unfold openB; rw [if_neg (by omega)]
  obtain ⟨n, rfl⟩ := Int.eq_ofNat_of_zero_le (show 0 ≤ n by omega)
  rw [Int.toNat_natCast] at eO
  try simp only [↓reduceIte, ↓LL, LM, Value.cells, Nat.reduceAdd, Option.some.injEq, exists_eq_left', decide_true, decide_false, if_true, if_false, reduceCtorEq, cond_true, cond_false, c3]
  rw [smr_run (buildPg p w)]
  have b1 := b_psh w (.cells #[pv p, .slice none 0 0, .bool false, .int .i64 0] 110)
  have q1 := blk_psh_new (w := w) (o := .cells #[pv p, .slice none 0 0, .bool false, .int .i64 0] 110)
  try simp only [↓reduceIte, ↓LL, LM, Value.cells, Nat.reduceAdd, Option.some.injEq, exists_eq_left', decide_true, decide_false, if_true, if_false, reduceCtorEq, cond_true, cond_false]
  generalize psh w (.cells #[pv p, .slice none 0 0, .bool false, .int .i64 0] 110) = w1 at *
  refine ⟨_, open_loop (W := w) hd (by omega) (Nat.le_refl _) n (n + 1) 0 w1 _ (by omega) (by omega) b1 q1 ownV_nil fun w2 u2 b2 q2 o2 => ?_⟩
  have hd2 := hd.below b2
  unfold f38_j1
  try simp only [↓reduceIte, ↓LL, LM, Value.cells, Nat.reduceAdd, Option.some.injEq, exists_eq_left', decide_true, decide_false, if_true, if_false, reduceCtorEq, cond_true, cond_false]
  refine f70_s hd2 0 fun w3 b3 => ?_
  have b03 := bt b2 b3
  have hd3 := hd.below b03
  have q3 := stay b3 q2
  have o3 := ownV_below o2 b3
  have uq : ∀ g, u2.ownBlock = some g → w.heap.size ≤ g := fun g hg => (ownV_lt o3 g hg).1
  try simp only [↓reduceIte, ↓LL, LM, Value.cells, Nat.reduceAdd, Option.some.injEq, exists_eq_left', decide_true, decide_false, if_true, if_false, reduceCtorEq, cond_true, cond_false]
  refine f19_s ?_
  by_cases cm : mkd (D.rd 0) = true
  · rw [if_pos cm] at eO
    rw [eO] at k0 k1
    try simp only [↓reduceIte, ↓LL, LM, Value.cells, Nat.reduceAdd, Option.some.injEq, exists_eq_left', decide_true, decide_false, if_true, if_false, reduceCtorEq, cond_true, cond_false, cm]
    refine f71_s hd3 q3 o3 h0 h1 fun w4 d4 hc4 ho4 => ?_
    have hc04 : ChgS (fpD p v b) w w4 := (ChgS.of_below b03 (S := fpD p v b)).trans (hc4.mono' (T := fun k => u2.ownBlock = some k ∨ fpD p v b k) fun k _ h => h) (fun k hk h => by
      rcases h with h | h
      · have := uq k h; omega
      · exact h)
    by_cases cz : (recB D (pgL D n)).1 = 0
    · have q4 := hc4.keep q3 fun h => by
        rcases h with h | h
        · obtain ⟨_, _, cur, hcur⟩ := ownV_lt o3 _ h
          rw [hcur] at q3; cases q3
        · exact dev_ne hd3 q3 (by decide) (by decide) h
      unfold f38_j3
      try simp only [↓reduceIte, ↓LL, LM, Value.cells, Nat.reduceAdd, Option.some.injEq, exists_eq_left', decide_true, decide_false, if_true, if_false, reduceCtorEq, cond_true, cond_false, cz, ne_eq]
      exact k0 cz w4 _ u2 (Nat.le_refl _) q4 (ho4 cz) d4 hc04
    · try simp only [↓reduceIte, ↓LL, LM, Value.cells, Nat.reduceAdd, Option.some.injEq, exists_eq_left', decide_true, decide_false, if_true, if_false, reduceCtorEq, cond_true, cond_false, cz, ne_eq]
      exact k1 cz w4 d4 hc04
  · have cm' : mkd (D.rd 0) = false := by simpa using cm
    rw [if_neg cm] at eO
    rw [eO] at k0
    unfold f38_j3
    try simp only [↓reduceIte, ↓LL, LM, Value.cells, Nat.reduceAdd, Option.some.injEq, exists_eq_left', decide_true, decide_false, if_true, if_false, reduceCtorEq, cond_true, cond_false, cm']
    exact k0 rfl w3 _ u2 (Nat.le_refl _) q3 o3 hd3 (ChgS.of_below b03)
end
end Go.Proofs.YtongpnolikkknaaDoor

set_option maxRecDepth 20000
set_option maxHeartbeats 4000000
namespace Go.Proofs.YtongpnolikkknaaDoor
open Sh RowKit Go.MapKept
abbrev Ch := Int × ByteArray
def pgR (L : List ByteArray) (n : Int) : ByteArray × Int := if 0 ≤ n ∧ n < L.length then (L.getD n.toNat ⟨#[]⟩, 0) else (⟨#[]⟩, 7)
theorem pt49 : Tryd.prog.underlying 49 = some (.pointer (Tryd.prog.pointee 49)) := by kernel_rfl
section
variable {e : TypeId} {B C Bp : Nat} {W w w' : World} {p q b : Nat} {v u lv : Value} {D : Dv} {Q : Value → World → Prop}
theorem f44_s {L : List ByteArray} {st c : Value} {n : Int} (hq : w.heap[q]? = some (.cells #[pv p, u, st, c] 110 (0, 0))) (hu : ownV Bp 9 w u (L.map .string)) (kk : Q (.tuple #[.string (pgR L n).1, .int .i64 (pgR L n).2]) w) : f44 (pv q) (.int .i64 n) w Q := by
  unfold f44
  rw [pn_eq pt49]
  have c1 : w.cell? ⟨q, 1, none⟩ = some u := by rw [cell_of_blk hq]; rfl
  have lu := lnl_own hu
  rw [List.length_map] at lu
  unfold pgR at kk
  by_cases h0 : n < 0
  · rw [if_neg (by omega)] at kk
    try simp only [↓reduceIte, ↓LL, LM, Value.cells, Nat.reduceAdd, Option.some.injEq, exists_eq_left', decide_true, decide_false, if_true, if_false, reduceCtorEq, cond_true, cond_false, Option.isNone, h0]
    exact kk
  by_cases h1 : (L.length : Int) ≤ n
  · rw [if_neg (by omega)] at kk
    have h1' : n ≥ (L.length : Int) := h1
    try simp only [↓reduceIte, ↓LL, LM, Value.cells, Nat.reduceAdd, Option.some.injEq, exists_eq_left', decide_true, decide_false, if_true, if_false, reduceCtorEq, cond_true, cond_false, Option.isNone, h0, c1, lu, h1, h1']
    exact kk
  obtain ⟨n, rfl⟩ := Int.eq_ofNat_of_zero_le (show 0 ≤ n by omega)
  have hn : n < L.length := by omega
  have h1' : ¬ ((n : Nat) : Int) ≥ (L.length : Int) := h1
  rw [if_pos (by omega)] at kk
  obtain ⟨g, hia, hc, _⟩ := cell_V hu (i := n) (by rw [List.length_map]; exact hn)
  rw [List.getElem_map] at hc
  have eg : L.getD ((n : Nat) : Int).toNat ⟨#[]⟩ = L[n] := by rw [Int.toNat_natCast, List.getD_eq_getElem?_getD, List.getElem?_eq_getElem hn]; rfl
  rw [eg] at kk
  try simp only [↓reduceIte, ↓LL, LM, Value.cells, Nat.reduceAdd, Option.some.injEq, exists_eq_left', decide_true, decide_false, if_true, if_false, reduceCtorEq, cond_true, cond_false, Option.isNone, h0, c1, lu, h1, h1', hia, hc]
  exact kk
theorem f46_s {L : List ByteArray} {st c : Value} (hq : w.heap[q]? = some (.cells #[pv p, u, st, c] 110 (0, 0))) (hu : ownV Bp 9 w u (L.map .string)) (kk : Q (.int .i64 (L.length : Nat)) w) : f46 (pv q) w Q := by
  unfold f46
  rw [pn_eq pt49]
  have c1 : w.cell? ⟨q, 1, none⟩ = some u := by rw [cell_of_blk hq]; rfl
  have lu := lnl_own hu
  rw [List.length_map] at lu
  try simp only [↓reduceIte, ↓LL, LM, Value.cells, Nat.reduceAdd, Option.some.injEq, exists_eq_left', decide_true, decide_false, if_true, if_false, reduceCtorEq, cond_true, cond_false, Option.isNone, c1, lu]
  exact kk
theorem lnl_S {α : Type} {n : Nat} {R : RepT α} {l : List α} (h : rdS n R w v l) : ∀ (K : Value → M) (w1 : World) (Q : Value → World → Prop), lnl v K w1 Q = K (.int .i64 ((l.length : Nat) : Int)) w1 Q := by
  intro K w1 Q
  rcases h with ⟨rfl, rfl⟩ | ⟨a, c, rfl, _⟩ <;> rw [lnl_e] <;> rfl
end
end Go.Proofs.YtongpnolikkknaaDoor

set_option maxRecDepth 20000
set_option maxHeartbeats 4000000
namespace Go.Proofs.YtongpnolikkknaaDoor
open Sh RowKit Go.MapKept
theorem slI : slT Tryd.prog 22 3 (.int .i64 0) 1 8 := sl29
section
variable {e : TypeId} {B C Bp : Nat} {W w w' : World} {p q b : Nat} {v u lv : Value} {D : Dv} {Q : Value → World → Prop}
end
end Go.Proofs.YtongpnolikkknaaDoor

set_option maxRecDepth 20000
set_option maxHeartbeats 4000000
namespace Go.Proofs.YtongpnolikkknaaDoor
open Sh RowKit Go.MapKept
section
variable {e : TypeId} {B C Bp : Nat} {W w w' : World} {p q b : Nat} {v u lv : Value} {D : Dv} {Q : Value → World → Prop}
end
end Go.Proofs.YtongpnolikkknaaDoor

set_option maxRecDepth 20000
set_option maxHeartbeats 4000000
namespace Go.Proofs.YtongpnolikkknaaDoor
open Sh RowKit Go.MapKept
structure Pg where
  L : List ByteArray
  st : Bool
  c : Int
section
variable {e : TypeId} {B C Bp Bc : Nat} {W w w' : World} {p q b : Nat} {v u lv : Value} {D : Dv} {Q : Value → World → Prop}
end
end Go.Proofs.YtongpnolikkknaaDoor

set_option maxRecDepth 20000
namespace Go.Proofs.YtongpnolikkknaaDoor
open Sh RowKit Go.MapKept
def De.ex : De → List Sec → List Sec
  | .wr i s, A => match A[i.toNat]? with
    | some x => A.set i.toNat ⟨x.s, some (pad s)⟩
    | none => A
  | .sy, A => A.map fun x => ⟨x.now, none⟩
def exs (ds : List De) (A : List Sec) : List Sec := ds.foldl (fun A d => d.ex A) A
/-- deeds that write, none of them to sector i -/
def Off (i : Nat) (ds : List De) : Prop := ∀ d ∈ ds, ∃ (a : Nat) (s : ByteArray), d = .wr (a : Int) s ∧ i ≠ a
theorem Off.take {i : Nat} {ds : List De} (h : Off i ds) (k : Nat) : Off i (ds.take k) := fun d hd => h d (List.mem_of_mem_take hd)
/-- a crash: what is sure stays; a mark says what one of both says -/
def Cr (A A' : List Sec) : Prop := A'.length = A.length ∧ ∀ (i : Nat) (x : Sec), A[i]? = some x → ∃ z, A'[i]? = some ⟨z, none⟩ ∧ (x.u = none → z = x.s) ∧ (mkd z.1 = mkd x.s.1 ∨ mkd z.1 = mkd x.now.1)
theorem Cr.sure {A A' : List Sec} (h : Cr A A') {i : Nat} {z : Sct} (hz : A[i]? = some ⟨z, none⟩) : A'[i]? = some ⟨z, none⟩ := by
  obtain ⟨y, h1, h2, _⟩ := h.2 i _ hz
  have e : y = z := h2 rfl
  rw [h1, e]
theorem Cr.all {A A' : List Sec} (h : Cr A A') : ∀ x ∈ A', x.u = none := by
  intro x hx
  obtain ⟨i, hi, rfl⟩ := List.mem_iff_getElem.1 hx
  have hi2 : i < A.length := by rw [← h.1]; exact hi
  obtain ⟨z, h1, _⟩ := h.2 i A[i] (List.getElem?_eq_getElem hi2)
  rw [List.getElem?_eq_getElem hi] at h1
  rw [Option.some.inj h1]
end Go.Proofs.YtongpnolikkknaaDoor

set_option maxRecDepth 20000
namespace Go.Proofs.YtongpnolikkknaaDoor
open Sh RowKit Go.MapKept
theorem pad_64 {s : ByteArray} (h : s.size = 64) : (pad s).1 = s := by
  show strOfNums (padL s) = s
  unfold padL
  rw [h, List.take_of_length_le (by rw [byL_len]; omega)]
  show strOfNums (byL s ++ []) = s
  rw [List.append_nil, son_byL]
theorem pad_chunk {s : ByteArray} {j : Nat} (h : s.size = 256) (hj : j < 4) : (pad (chunk s j)).1 = chunk s j := pad_64 (chunk_size h hj)
def PgS (A : List Sec) (L : List ByteArray) : Prop := ∀ (n : Nat) (s : ByteArray), L[n]? = some s → ∀ j, j < 4 → A[126 + 4 * n + j]? = some ⟨pad (chunk s j), none⟩
def Ing (A : List Sec) (L : List ByteArray) (l : List Int) : Prop := ∃ d : Sct, A[1]? = some ⟨d, none⟩ ∧ dirB d.1 = true ∧ lst d.1 = l ∧ (∀ n ∈ l, n < (L.length : Int)) ∧
  (∀ (k : Nat) (n : Int) (s : ByteArray), l[k]? = some n → L[n.toNat]? = some s → ∀ j, j < 4 → A[2 + 4 * k + j]? = some ⟨pad (chunk s j), none⟩) ∧
  (∀ (n : Nat) (s : ByteArray), ((n : Nat) : Int) ∉ l → L[n]? = some s → ∀ j, j < 4 → A[126 + 4 * n + j]? = some ⟨pad (chunk s j), none⟩)
def Mk (A : List Sec) (b : Bool) : Prop := ∃ z : Sct, A[0]? = some ⟨z, none⟩ ∧ mkd z.1 = b
structure Fit (A : List Sec) (L : List ByteArray) : Prop where
  len : 126 + 4 * L.length ≤ A.length
  sz : ∀ s ∈ L, s.size = 256
  n1 : 1 ≤ L.length
  n2 : L.length ≤ 160
theorem PgS.sub {A A' : List Sec} {L : List ByteArray} (h : PgS A L) (hs : ∀ i z, 126 ≤ i → A[i]? = some ⟨z, none⟩ → A'[i]? = some ⟨z, none⟩) : PgS A' L := fun n s hn j hj => hs _ _ (by omega) (h n s hn j hj)
theorem Ing.ok {A : List Sec} {L : List ByteArray} {l : List Int} (h : Ing A L l) : l.length ≤ 31 ∧ l.Nodup ∧ ∀ n ∈ l, 0 ≤ n ∧ n < (L.length : Int) := by
  obtain ⟨d, _, hd, rfl, hl, _⟩ := h
  obtain ⟨_, h2, h3, h4⟩ := dirB_lst hd
  exact ⟨h2, h3, fun n hn => ⟨(h4 n hn).1, hl n hn⟩⟩
theorem Ing.sub {A A' : List Sec} {L : List ByteArray} {l : List Int} (h : Ing A L l) (hs : ∀ i z, i ≠ 0 → (∀ n ∈ l, ∀ j, j < 4 → i ≠ 126 + 4 * n.toNat + j) → A[i]? = some ⟨z, none⟩ → A'[i]? = some ⟨z, none⟩) : Ing A' L l := by
  obtain ⟨h31, hnd, hbd⟩ := h.ok
  obtain ⟨d, h1, hd, hl, hb, him, hpg⟩ := h
  refine ⟨d, hs _ _ (by omega) (fun n _ j _ => by omega) h1, hd, hl, hb, fun k n s hk hn j hj => hs _ _ (by omega) (fun n' _ j' _ => ?_) (him k n s hk hn j hj), fun n s hn hs' j hj => hs _ _ (by omega) (fun n' hn' j' hj' e => ?_) (hpg n s hn hs' j hj)⟩
  · have := (List.getElem?_eq_some_iff.1 hk).1
    omega
  · have := hbd n' hn'
    have e2 : ((n : Nat) : Int) = n' := by omega
    exact hn (e2 ▸ hn')
theorem Mk.sub {A A' : List Sec} {b : Bool} (h : Mk A b) (hs : ∀ z, A[0]? = some ⟨z, none⟩ → A'[0]? = some ⟨z, none⟩) : Mk A' b := by
  obtain ⟨z, h1, h2⟩ := h
  exact ⟨z, hs z h1, h2⟩
/-- at each deed, not behind the last -/
def Pre (C : List Sec → Prop) (ds : List De) (A : List Sec) : Prop := ∀ k, k < ds.length → C (exs (ds.take k) A)
theorem Pre.mono {C C' : List Sec → Prop} {ds : List De} {A : List Sec} (h : Pre C ds A) (hc : ∀ A, C A → C' A) : Pre C' ds A := fun k hk => hc _ (h k hk)
/-- pages read -/
theorem rd_nat {D : Dv} {i : Nat} {y : Sec} (h : D.A[i]? = some y) : D.rd ((i : Nat) : Int) = y.now.1 := by
  unfold Dv.rd Dv.at
  rw [if_pos (by omega), Int.toNat_natCast, h]; rfl
theorem join_at {D : Dv} {b : Nat} {g : Nat → Int} {s : ByteArray} (hg : ∀ j, g j = ((b + j : Nat) : Int)) (hs : s.size = 256) (h : ∀ j, j < 4 → D.A[b + j]? = some ⟨pad (chunk s j), none⟩) : (joinB (rdL D g 4)).1 = s := by
  have e : rdL D g 4 = cutL s 4 := by
    unfold rdL cutL
    refine List.map_congr_left fun j hj => ?_
    have hj := List.mem_range.1 hj
    rw [hg j, rd_nat (h j hj)]
    exact pad_chunk hs hj
  rw [e, joinB_ok (by rw [cutL_len]) (fun x hx => by
    obtain ⟨j, hj, rfl⟩ := List.mem_map.1 hx
    exact chunk_size hs (List.mem_range.1 hj))]
  exact (cut_back hs).2
theorem plG_nat (n : Nat) (j : Nat) : plG ((n : Nat) : Int) j = ((126 + 4 * n + j : Nat) : Int) := by unfold plG; omega
theorem pgL_eq {D : Dv} {L : List ByteArray} (hz : ∀ s ∈ L, s.size = 256) (hp : PgS D.A L) : pgL D L.length = L := by
  apply List.ext_getElem?
  intro n
  unfold pgL
  rw [List.getElem?_map]
  by_cases c : n < L.length
  · rw [List.getElem?_range c, List.getElem?_eq_getElem c]
    have := hz L[n] (List.getElem_mem c)
    show some (pgP D n) = _
    unfold pgP
    rw [join_at (plG_nat n) this (hp n _ (List.getElem?_eq_getElem c))]
  · rw [List.getElem?_eq_none (by rw [List.length_range]; omega), List.getElem?_eq_none (by omega)]; rfl
theorem openB_un {D : Dv} {L : List ByteArray} (h : Fit D.A L) : openB D (L.length : Nat) = if mkd (D.rd 0) = true then recB D (pgL D L.length) else (0, D, pgL D L.length) := by
  have := h.len
  have := h.n1
  have := h.n2
  unfold openB
  rw [if_neg (by omega), Int.toNat_natCast]
theorem mk_rd {D : Dv} {b : Bool} (h : Mk D.A b) : mkd (D.rd 0) = b := by
  obtain ⟨z, h1, h2⟩ := h
  rw [show (0 : Int) = ((0 : Nat) : Int) from rfl, rd_nat h1]
  exact h2
theorem open_no {D : Dv} {L : List ByteArray} (h : Fit D.A L) (hm : Mk D.A false) (hp : PgS D.A L) : openB D (L.length : Nat) = (0, D, L) := by
  rw [openB_un h, mk_rd hm, if_neg (by decide), pgL_eq h.sz hp]
theorem getD_some {L : List ByteArray} {n : Nat} (h : n < L.length) : L[n]? = some (L.getD n ⟨#[]⟩) := by rw [List.getD_eq_getElem?_getD, List.getElem?_eq_getElem h]; rfl
theorem nodup_map_inj {α β : Type} {f : α → β} {l : List α} (h : l.Nodup) (hf : ∀ a ∈ l, ∀ b ∈ l, f a = f b → a = b) : (l.map f).Nodup := by
  induction l with
  | nil => exact List.nodup_nil
  | cons a l ih =>
    obtain ⟨h1, h2⟩ := List.nodup_cons.1 h
    rw [List.map_cons, List.nodup_cons]
    refine ⟨fun hc => ?_, ih h2 fun a ha b hb => hf a (List.mem_cons_of_mem _ ha) b (List.mem_cons_of_mem _ hb)⟩
    obtain ⟨b, hb, e⟩ := List.mem_map.1 hc
    exact h1 (hf b (List.mem_cons_of_mem _ hb) a (List.mem_cons_self ..) e ▸ hb)
end Go.Proofs.YtongpnolikkknaaDoor

set_option maxRecDepth 20000
namespace Go.Proofs.YtongpnolikkknaaDoor
open Sh RowKit Go.MapKept
/-- a new device's pages -/
theorem new_mk (n : Nat) (h : 0 < n) : Mk (newD n).A false := ⟨pad ⟨#[]⟩, by unfold newD; rw [List.getElem?_replicate, if_pos h], by show mkd (markB false).1 = false; exact mkd_mark false⟩
theorem zs_chunk {j : Nat} (hj : j < 4) : chunk (zs 256) j = zs 64 := by
  apply byL_inj
  unfold chunk
  rw [byL_take, byL_zs, byL_zs]
  rcases (by omega : j = 0 ∨ j = 1 ∨ j = 2 ∨ j = 3) with rfl | rfl | rfl | rfl <;> decide
theorem pad_zs : pad (zs 64) = pad ⟨#[]⟩ := by
  apply Subtype.ext
  rw [pad_64 (zs_size 64)]
  apply byL_inj
  rw [byL_zs, byL_pad]
  rfl
theorem new_pgs (m n : Nat) (h : 126 + 4 * m ≤ n) : PgS (newD n).A (List.replicate m (zs 256)) := by
  intro k s hs j hj
  rw [List.getElem?_replicate] at hs
  split at hs
  · rename_i hk
    obtain rfl : zs 256 = s := Option.some.inj hs
    unfold newD
    rw [List.getElem?_replicate, if_pos (by omega), zs_chunk hj, pad_zs]
  · cases hs
theorem new_fit (m n : Nat) (h1 : 1 ≤ m) (h2 : m ≤ 160) (h : 126 + 4 * m ≤ n) : Fit (newD n).A (List.replicate m (zs 256)) :=
  ⟨by unfold newD; simp; exact h, fun s hs => by rw [List.eq_of_mem_replicate hs]; exact zs_size 256, by simpa using h1, by simpa using h2⟩
end Go.Proofs.YtongpnolikkknaaDoor

set_option maxRecDepth 20000
set_option maxHeartbeats 4000000
namespace Go.Proofs.YtongpnolikkknaaDoor
open Sh RowKit Go.MapKept
section
variable {B : Nat} {W w : World} {Q : Value → World → Prop}
end
end Go.Proofs.YtongpnolikkknaaDoor

set_option maxRecDepth 20000
set_option maxHeartbeats 4000000
namespace Go.Proofs.YtongpnolikkknaaDoor
open Sh RowKit Go.MapKept
theorem w8 {i : Int} : IntKind.u8.wrap i = i % 256 := by
  unfold IntKind.wrap
  simp [IntKind.signed, IntKind.bits]
section
variable {B : Nat} {W w : World} {Q : Value → World → Prop}
theorem rdI_lnl {k : IntKind} {v : Value} {l : List Int} (h : rdI k w v l) : ∀ (K : Value → M) (w1 : World) (Q : Value → World → Prop), lnl v K w1 Q = K (.int .i64 ((l.length : Nat) : Int)) w1 Q := by
  intro K w1 Q
  obtain ⟨p, c, rfl, _⟩ := h
  rw [lnl_e]
end
end Go.Proofs.YtongpnolikkknaaDoor

namespace Go.Proofs.YtongpnolikkknaaDoor
open Sh RowKit Go.MapKept
theorem wf8 {x : Int} (h : (Lit.int .u8 x).wf = true) : 0 ≤ x ∧ x ≤ 255 := by
  unfold Lit.wf at h
  simp [IntKind.min, IntKind.max, IntKind.signed, IntKind.bits] at h
  omega
structure Bat where
  ps : List Int
  bs : List Int
  vp : Value
  vb : Value
theorem uu8 : Tryd.prog.underlying 5 = some (.int .u8) := by kernel_rfl
end Go.Proofs.YtongpnolikkknaaDoor

set_option maxRecDepth 20000
set_option maxHeartbeats 4000000
namespace Go.Proofs.YtongpnolikkknaaDoor
open Sh RowKit Go.MapKept
/-- a device that is sure, its mark says no -/
structure Rdy (D : Dv) (L : List ByteArray) : Prop where
  fit : Fit D.A L
  mark : Mk D.A false
  pg : PgS D.A L
theorem open_rdy {D : Dv} {L : List ByteArray} (h : Rdy D L) : openB D (L.length : Nat) = (0, D, L) := open_no h.fit h.mark h.pg
theorem rdy_new {m N : Nat} (h1 : 1 ≤ m) (h2 : m ≤ 160) (h : 126 + 4 * m ≤ N) : Rdy (newD N) (List.replicate m (zs 256)) := ⟨new_fit m N h1 h2 h, new_mk N (by omega), new_pgs m N h⟩
theorem open_new {m N : Nat} (h1 : 1 ≤ m) (h2 : m ≤ 160) (h : 126 + 4 * m ≤ N) : openB (newD N) (m : Nat) = (0, newD N, List.replicate m (zs 256)) := by
  have := open_rdy (rdy_new h1 h2 h)
  rwa [List.length_replicate] at this
structure PgAt (B : Nat) (w : World) (q p b : Nat) (v u : Value) (G : Pg) (D : Dv) : Prop where
  dev : DevAt B w p v b D
  qB : B ≤ q
  hq : w.heap[q]? = some (.cells #[pv p, u, .bool G.st, .int .i64 G.c] 110 (0, 0))
  hu : ownV B 9 w u (G.L.map .string)
def fpP (q p b : Nat) (v u : Value) : Nat → Prop := fun k => k = q ∨ u.ownBlock = some k ∨ fpD p v b k
section
variable {B : Nat} {W w w' : World} {q p b : Nat} {v u : Value} {G : Pg} {D : Dv} {Q : Value → World → Prop}
theorem PgAt.below (h : PgAt B w q p b v u G D) (hb : Below w.heap.size w w') : PgAt B w' q p b v u G D := ⟨h.dev.below hb, h.qB, stay hb h.hq, ownV_below h.hu hb⟩
theorem PgAt.fpB (h : PgAt B w q p b v u G D) : ∀ k, fpP q p b v u k → B ≤ k := by
  rintro k (rfl | hk | hk)
  · exact h.qB
  · exact (ownV_lt h.hu k hk).1
  · exact fpD_B h.dev k hk
theorem PgAt.lt (h : PgAt B w q p b v u G D) : ∀ k, fpP q p b v u k → k < w.heap.size := by
  rintro k (rfl | hk | hk)
  · exact blk_lt h.hq
  · exact (ownV_lt h.hu k hk).2.1
  · exact h.dev.lt k hk
theorem PgAt.chg {S : Nat → Prop} (h : PgAt B w q p b v u G D) (hc : ChgS S w w') (hS : ∀ k, fpP q p b v u k → ¬ S k) : PgAt B w' q p b v u G D :=
  ⟨h.dev.chg hc fun k hk => hS k (.inr (.inr hk)), h.qB, hc.keep h.hq (hS q (.inl rfl)), ownV_chg h.hu hc fun g hg => hS g (.inr (.inl hg))⟩
theorem PgAt.bs {B0 : Nat} (h : PgAt B w q p b v u G D) (hc : ChgS (fpP q p b v u) w w') (h0 : B0 ≤ B) (hB : B0 ≤ w.heap.size) : Below B0 w w' := hc.below (fun k hk => Nat.le_trans h0 (h.fpB k hk)) hB
/-- opened, without an error -/
theorem open_at {B0 : Nat} {n : Int} {D' : Dv} {L : List ByteArray} (hd : DevAt B w p v b D) (h0 : 0 ≤ D.c) (h1 : D.c + 200 ≤ 1000000) (hB0 : B0 ≤ B) (hBw : B0 ≤ w.heap.size) (e : openB D n = (0, D', L))
    (kk : ∀ w' q u, w.heap.size ≤ q → PgAt B0 w' q p b v u ⟨L, false, 0⟩ D' → DevAt B w' p v b D' → ownV w.heap.size 9 w' u (L.map .string) → ChgS (fpD p v b) w w' → Q (.tuple #[pv q, .int .i64 0]) w') : f38 (pv p) (.int .i64 n) w Q := by
  have e1 : (openB D n).1 = 0 := by rw [e]
  have e2 : (openB D n).2.1 = D' := by rw [e]
  have e3 : (openB D n).2.2 = L := by rw [e]
  refine f38_s hd h0 h1 (fun h => absurd e1 h) (fun _ w' q u hqw hq hu hd' hc => ?_)
  rw [e2] at hd'
  rw [e3] at hu
  refine kk w' q u hqw ⟨?_, Nat.le_trans hBw hqw, hq, ownV_weak hu hBw⟩ hd' hu hc
  obtain ⟨L', hm, hl⟩ := hd'.mp
  exact ⟨Nat.le_trans hB0 hd'.pB, Nat.le_trans hB0 hd'.bB, hd'.n, hd'.hp, ownE_weak hd'.own hB0, L', hm, hl⟩
end
end Go.Proofs.YtongpnolikkknaaDoor

set_option maxRecDepth 20000
namespace Go.Proofs.YtongpnolikkknaaDoor
open Sh RowKit Go.MapKept
structure Ca where
  sz : Nat
  K : List Ch
  h : Int
  m : Int
/-- one used -/
def useK (sz : Nat) (x : Ch) (K : List Ch) : List Ch := (x :: K).take sz
def rdC (C : Ca) (L : List ByteArray) (n : Int) : (ByteArray × Int) × Ca :=
  match C.K.find? (fun x => decide (x.1 = n)) with
  | some x => ((x.2, 0), { C with K := useK C.sz x (C.K.filter fun y => decide (y.1 ≠ n)), h := C.h + 1 })
  | none => if (pgR L n).2 = 0 then (((pgR L n).1, 0), { C with K := useK C.sz (n, (pgR L n).1) C.K, m := C.m + 1 }) else ((⟨#[]⟩, (pgR L n).2), C)
def nums (K : List Ch) : List Int := K.map (·.1)
/-- numbers: the one used last first -/
def upN (T : List Int) (n : Int) : List Int := n :: T.filter fun y => decide (y ≠ n)
theorem filter_same {T : List Int} {n : Int} (h : n ∉ T) : (T.filter fun y => decide (y ≠ n)) = T := List.filter_eq_self.2 fun a ha => by
  simp only [decide_eq_true_eq]
  rintro rfl
  exact h ha
theorem filter_take {n : Int} : ∀ (T : List Int) (k : Nat), T.Nodup → ((T.take (k + 1)).filter fun y => decide (y ≠ n)).take k = (T.filter fun y => decide (y ≠ n)).take k
  | [], k, _ => by simp
  | a :: T, k, h => by
    obtain ⟨h1, h2⟩ := List.nodup_cons.1 h
    rw [List.take_succ_cons]
    by_cases e : a = n
    · subst e
      have c : decide (a ≠ a) = false := by simp
      rw [List.filter_cons_of_neg (by simp), List.filter_cons_of_neg (by simp), filter_same (fun hc => h1 (List.mem_of_mem_take hc)), filter_same h1, List.take_take, Nat.min_self]
    · rw [List.filter_cons_of_pos (by simpa using e), List.filter_cons_of_pos (by simpa using e)]
      cases k with
      | zero => rfl
      | succ k => rw [List.take_succ_cons, List.take_succ_cons, filter_take T k h2]
/-- a cache keeps a beginning of what was used -/
theorem upN_take {n : Int} {T : List Int} (h : T.Nodup) (sz : Nat) : (n :: (T.take sz).filter fun y => decide (y ≠ n)).take sz = (upN T n).take sz := by
  cases sz with
  | zero => rfl
  | succ k =>
    unfold upN
    rw [List.take_succ_cons, List.take_succ_cons, filter_take T k h]
theorem upN_nodup {T : List Int} {n : Int} (h : T.Nodup) : (upN T n).Nodup := List.nodup_cons.2 ⟨by simp, h.filter _⟩
theorem nums_filter (K : List Ch) (n : Int) : nums (K.filter fun y => decide (y.1 ≠ n)) = (nums K).filter fun y => decide (y ≠ n) := by
  unfold nums
  rw [List.filter_map]; rfl
theorem find_mem {K : List Ch} {n : Int} {x : Ch} (h : K.find? (fun x => decide (x.1 = n)) = some x) : x ∈ K ∧ x.1 = n := by
  have h1 := List.find?_some h
  exact ⟨List.mem_of_find?_eq_some h, by simpa using h1⟩
theorem find_not {K : List Ch} {n : Int} (h : K.find? (fun x => decide (x.1 = n)) = none) : n ∉ nums K := by
  intro hc
  obtain ⟨x, hx, rfl⟩ := List.mem_map.1 hc
  have := List.find?_eq_none.1 h x hx
  simp at this
/-- what is kept behind a read -/
theorem rdC_nums {C : Ca} {L : List ByteArray} {n : Int} {T : List Int} (hT : T.Nodup) (hK : nums C.K = T.take C.sz) (hb : ∀ t ∈ T, 0 ≤ t ∧ t < (L.length : Int)) :
    if 0 ≤ n ∧ n < (L.length : Int) then (rdC C L n).1.2 = 0 ∧ nums (rdC C L n).2.K = (upN T n).take C.sz ∧ (rdC C L n).2.sz = C.sz ∧ (rdC C L n).2.h = C.h + (if n ∈ T.take C.sz then 1 else 0) ∧ (rdC C L n).2.m = C.m + (if n ∈ T.take C.sz then 0 else 1)
    else (rdC C L n).1 = (⟨#[]⟩, 7) ∧ (rdC C L n).2 = C := by
  unfold rdC
  cases hf : C.K.find? (fun x => decide (x.1 = n)) with
  | some x =>
    obtain ⟨h1, h2⟩ := find_mem hf
    have hm : n ∈ T.take C.sz := by rw [← hK, ← h2]; exact List.mem_map.2 ⟨x, h1, rfl⟩
    have := hb n (List.mem_of_mem_take hm)
    rw [if_pos this, if_pos hm, if_pos hm]
    refine ⟨rfl, ?_, rfl, rfl, by show C.m = C.m + 0; omega⟩
    show nums (useK C.sz x (C.K.filter fun y => decide (y.1 ≠ n))) = _
    unfold useK
    have e : nums ((x :: C.K.filter fun y => decide (y.1 ≠ n)).take C.sz) = (nums (x :: C.K.filter fun y => decide (y.1 ≠ n))).take C.sz := by unfold nums; rw [List.map_take]
    rw [e, show nums (x :: C.K.filter fun y => decide (y.1 ≠ n)) = x.1 :: nums (C.K.filter fun y => decide (y.1 ≠ n)) from rfl, nums_filter, hK, h2, upN_take hT]
  | none =>
    have h1 := find_not hf
    rw [hK] at h1
    by_cases c : 0 ≤ n ∧ n < (L.length : Int)
    · have e0 : (pgR L n).2 = 0 := by unfold pgR; rw [if_pos c]
      simp only [e0, if_true]
      rw [if_pos c, if_neg h1, if_neg h1]
      refine ⟨trivial, ?_, trivial, by show C.h = C.h + 0; omega, rfl⟩
      show nums (useK C.sz (n, (pgR L n).1) C.K) = _
      unfold useK
      have e : nums (((n, (pgR L n).1) :: C.K).take C.sz) = (nums ((n, (pgR L n).1) :: C.K)).take C.sz := by unfold nums; rw [List.map_take]
      rw [e, show nums ((n, (pgR L n).1) :: C.K) = n :: nums C.K from rfl, hK]
      have : T.take C.sz = (T.take C.sz).filter fun y => decide (y ≠ n) := (filter_same h1).symm
      rw [this, upN_take hT]
    · have e7 : pgR L n = (⟨#[]⟩, 7) := by unfold pgR; rw [if_neg c]
      simp only [e7]
      rw [if_neg c]
      exact ⟨rfl, rfl⟩
theorem upN_mem {T : List Int} {n t : Int} (h : t ∈ upN T n) : t = n ∨ t ∈ T := by
  rcases List.mem_cons.1 h with rfl | h
  · exact .inl rfl
  · exact .inr ((List.mem_filter.1 h).1)
end Go.Proofs.YtongpnolikkknaaDoor

set_option maxRecDepth 20000
namespace Go.Proofs.YtongpnolikkknaaDoor
open Sh RowKit Go.MapKept
/-- a link; none: the head -/
abbrev Nd := Option Nat
def setP (f : Nd → Nd × Nd) (y v : Nd) : Nd → Nd × Nd := fun n => if n = y then (v, (f n).2) else f n
def setN (f : Nd → Nd × Nd) (y v : Nd) : Nd → Nd × Nd := fun n => if n = y then ((f n).1, v) else f n
/-- neighbours -/
def sg (a : Nd) : List Nd → List (Nd × Nd)
  | [] => []
  | b :: l => (a, b) :: sg b l
def lastD (a : Nd) : List Nd → Nd
  | [] => a
  | b :: l => lastD b l
def Ring (f : Nd → Nd × Nd) (l : List Nd) : Prop := ∀ p ∈ sg none (l ++ [none]), (f p.1).2 = p.2 ∧ (f p.2).1 = p.1
theorem sg_app : ∀ (l1 l2 : List Nd) (a : Nd), sg a (l1 ++ l2) = sg a l1 ++ sg (lastD a l1) l2
  | [], _, _ => rfl
  | b :: l1, l2, a => by
    show (a, b) :: sg b (l1 ++ l2) = (a, b) :: (sg b l1 ++ sg (lastD b l1) l2)
    rw [sg_app l1 l2 b]
theorem sg_snd : ∀ (l : List Nd) (a : Nd), (sg a l).map (·.2) = l
  | [], _ => rfl
  | b :: l, a => by
    show b :: (sg b l).map (·.2) = _
    rw [sg_snd l b]
theorem sg_fst : ∀ (l : List Nd) (a b : Nd), (sg a (l ++ [b])).map (·.1) = a :: l
  | [], _, _ => rfl
  | c :: l, a, b => by
    show a :: (sg c (l ++ [b])).map (·.1) = _
    rw [sg_fst l c b]
theorem lastD_mem : ∀ (l : List Nd) (a : Nd), lastD a l ∈ a :: l
  | [], a => List.mem_cons_self ..
  | b :: l, a => List.mem_cons_of_mem _ (lastD_mem l b)
theorem lastD_snoc : ∀ (l : List Nd) (a b : Nd), lastD a (l ++ [b]) = b
  | [], _, _ => rfl
  | c :: l, a, b => lastD_snoc l c b
theorem tail_split (l : List Nd) : ∃ n c, l ++ [none] = n :: c ∧ n ∈ none :: l := by
  cases l with
  | nil => exact ⟨none, [], rfl, List.mem_cons_self ..⟩
  | cons a l => exact ⟨a, l ++ [none], rfl, by simp⟩
section
variable {f : Nd → Nd × Nd} {l l1 l2 : List Nd} {x : Nd}
/-- a link's neighbours -/
theorem ring_at (h : Ring f (l1 ++ x :: l2)) : (f x).1 = lastD none l1 ∧ ∀ n c, l2 ++ [none] = n :: c → (f x).2 = n := by
  have e : ∀ n c, l2 ++ [none] = n :: c → sg none ((l1 ++ x :: l2) ++ [none]) = sg none l1 ++ (lastD none l1, x) :: (x, n) :: sg n c := by
    intro n c hc
    rw [List.append_assoc, List.cons_append, hc, sg_app]
    rfl
  refine ⟨?_, fun n c hc => ?_⟩
  · obtain ⟨n, c, hc, _⟩ := tail_split l2
    exact (h (lastD none l1, x) (by rw [e n c hc]; simp)).2
  · exact (h (x, n) (by rw [e n c hc]; simp)).1
theorem ring_head (h : Ring f l) : ∀ n c, l ++ [none] = n :: c → (f none).2 = n := by
  intro n c hc
  exact (h (none, n) (by rw [hc]; exact List.mem_cons_self ..)).1
theorem ring_last (h : Ring f l) : (f none).1 = lastD none l := by
  refine (h (lastD none l, none) ?_).2
  rw [sg_app]
  exact List.mem_append_right _ (List.mem_cons_self ..)
/-- one taken out -/
theorem ring_out (h : Ring f (l1 ++ x :: l2)) (hn : (none :: (l1 ++ x :: l2)).Nodup) :
    (f x).1 ∈ none :: (l1 ++ l2) ∧ (f x).2 ∈ none :: (l1 ++ l2) ∧ Ring (setP (setN f (f x).1 (f x).2) (f x).2 (f x).1) (l1 ++ l2) := by
  obtain ⟨n, c, hc, hm⟩ := tail_split l2
  obtain ⟨ep, en⟩ := ring_at h
  have en := en n c hc
  have e1 : sg none ((l1 ++ x :: l2) ++ [none]) = sg none l1 ++ (lastD none l1, x) :: (x, n) :: sg n c := by
    rw [List.append_assoc, List.cons_append, hc, sg_app]
    rfl
  have e2 : sg none ((l1 ++ l2) ++ [none]) = sg none l1 ++ (lastD none l1, n) :: sg n c := by
    rw [List.append_assoc, hc, sg_app]
    rfl
  have hF : ((sg none l1 ++ (lastD none l1, x) :: (x, n) :: sg n c).map (·.1)).Nodup := by rw [← e1, sg_fst]; exact hn
  have hS : ((sg none l1 ++ (lastD none l1, x) :: (x, n) :: sg n c).map (·.2)).Nodup := by
    rw [← e1, sg_snd]
    have hp : ((l1 ++ x :: l2) ++ [none]).Perm (none :: (l1 ++ x :: l2)) := List.perm_append_comm.trans (List.Perm.refl _)
    exact hp.nodup_iff.2 hn
  rw [ep, en]
  refine ⟨?_, ?_, ?_⟩
  · have := lastD_mem l1 none
    rcases List.mem_cons.1 this with h | h
    · rw [h]; exact List.mem_cons_self ..
    · exact List.mem_cons_of_mem _ (List.mem_append_left _ h)
  · rcases List.mem_cons.1 hm with h | h
    · rw [h]; exact List.mem_cons_self ..
    · exact List.mem_cons_of_mem _ (List.mem_append_right _ h)
  · generalize lastD none l1 = p at *
    rw [List.map_append, List.nodup_append] at hF hS
    have hh := h
    unfold Ring at h ⊢
    rw [e1] at h
    rw [e2]
    have keyF : ∀ a ∈ sg none l1 ++ sg n c, a.1 ≠ p := by
      intro a ha e
      rcases List.mem_append.1 ha with ha | ha
      · exact hF.2.2 a.1 (List.mem_map.2 ⟨a, ha, rfl⟩) p (by simp) e
      · have := hF.2.1
        simp only [List.map_cons, List.nodup_cons] at this
        exact this.1 (List.mem_cons_of_mem _ (List.mem_map.2 ⟨a, ha, e⟩))
    have keyS : ∀ a ∈ sg none l1 ++ sg n c, a.2 ≠ n := by
      intro a ha e
      rcases List.mem_append.1 ha with ha | ha
      · exact hS.2.2 a.2 (List.mem_map.2 ⟨a, ha, rfl⟩) n (by simp) e
      · have := hS.2.1
        simp only [List.map_cons, List.nodup_cons] at this
        exact this.2.1 (List.mem_map.2 ⟨a, ha, e⟩)
    have same : ∀ a ∈ sg none l1 ++ sg n c, ((setP (setN f p n) n p) a.1).2 = a.2 ∧ ((setP (setN f p n) n p) a.2).1 = a.1 := by
      intro a ha
      have hfa := h a (by
        rcases List.mem_append.1 ha with ha | ha
        · exact List.mem_append_left _ ha
        · exact List.mem_append_right _ (List.mem_cons_of_mem _ (List.mem_cons_of_mem _ ha)))
      have k1 := keyF a ha
      have k2 := keyS a ha
      constructor
      · have : ((setP (setN f p n) n p) a.1).2 = (f a.1).2 := by
          unfold setP setN
          by_cases c1 : a.1 = n
          · rw [if_pos c1]; simp only; rw [if_neg k1]
          · rw [if_neg c1, if_neg k1]
        rw [this]; exact hfa.1
      · have : ((setP (setN f p n) n p) a.2).1 = (f a.2).1 := by
          unfold setP setN
          rw [if_neg k2]
          by_cases c1 : a.2 = p
          · rw [if_pos c1]
          · rw [if_neg c1]
        rw [this]; exact hfa.2
    intro a ha
    rcases List.mem_append.1 ha with ha | ha
    · exact same a (List.mem_append_left _ ha)
    · rcases List.mem_cons.1 ha with rfl | ha
      · constructor
        · show ((setP (setN f p n) n p) p).2 = n
          unfold setP setN
          by_cases c1 : p = n
          · simp [c1]
          · simp [c1]
        · show ((setP (setN f p n) n p) n).1 = p
          unfold setP
          simp
      · exact same a (List.mem_append_right _ ha)
/-- one put first -/
theorem ring_first (h : Ring f l) (hn : (none :: x :: l).Nodup) :
    (f none).2 ∈ none :: l ∧ Ring (setP (setN (setN (setP f x none) x (f none).2) none x) (f none).2 x) (x :: l) := by
  obtain ⟨n, c, hc, hm⟩ := tail_split l
  have en := ring_head h n c hc
  rw [en]
  refine ⟨hm, ?_⟩
  obtain ⟨hn1, hn2⟩ := List.nodup_cons.1 hn
  obtain ⟨hn3, hn4⟩ := List.nodup_cons.1 hn2
  have x0 : x ≠ none := fun e => hn1 (by rw [← e]; exact List.mem_cons_self ..)
  have e1 : sg none (l ++ [none]) = (none, n) :: sg n c := by rw [hc]; rfl
  have e2 : sg none ((x :: l) ++ [none]) = (none, x) :: (x, n) :: sg n c := by
    show (none, x) :: sg x (l ++ [none]) = _
    rw [hc]; rfl
  have hF : (((none, n) :: sg n c).map (·.1)).Nodup := by
    rw [← e1, sg_fst]
    exact List.nodup_cons.2 ⟨fun hm => hn1 (List.mem_cons_of_mem _ hm), hn4⟩
  have hS : (((none, n) :: sg n c).map (·.2)).Nodup := by
    rw [← e1, sg_snd]
    have hp : (l ++ [none]).Perm (none :: l) := List.perm_append_comm.trans (List.Perm.refl _)
    exact hp.nodup_iff.2 (List.nodup_cons.2 ⟨fun hm => hn1 (List.mem_cons_of_mem _ hm), hn4⟩)
  have hxn : x ≠ n := fun e => by
    rcases List.mem_cons.1 hm with h | h
    · exact x0 (e.trans h)
    · exact hn3 (by rw [e]; exact h)
  unfold Ring at h ⊢
  rw [e1] at h
  rw [e2]
  simp only [List.map_cons, List.nodup_cons] at hF hS
  intro a ha
  rcases List.mem_cons.1 ha with rfl | ha
  · constructor
    · show ((setP (setN (setN (setP f x none) x n) none x) n x) none).2 = x
      unfold setP setN
      by_cases c1 : none = n
      · simp [← c1]
      · simp [c1]
    · show ((setP (setN (setN (setP f x none) x n) none x) n x) x).1 = none
      unfold setP setN
      simp [hxn, x0]
  · rcases List.mem_cons.1 ha with rfl | ha
    · constructor
      · show ((setP (setN (setN (setP f x none) x n) none x) n x) x).2 = n
        unfold setP setN
        simp [hxn, x0]
      · show ((setP (setN (setN (setP f x none) x n) none x) n x) n).1 = x
        unfold setP
        simp
    · have hfa := h a (List.mem_cons_of_mem _ ha)
      have a1 : a.1 ≠ none := fun e => hF.1 (List.mem_map.2 ⟨a, ha, e⟩)
      have a2 : a.2 ≠ n := fun e => hS.1 (List.mem_map.2 ⟨a, ha, e⟩)
      have hsub1 : a.1 ∈ none :: l := by
        have : a.1 ∈ (sg none (l ++ [none])).map (·.1) := List.mem_map.2 ⟨a, by rw [e1]; exact List.mem_cons_of_mem _ ha, rfl⟩
        rwa [sg_fst] at this
      have hsub2 : a.2 ∈ l ++ [none] := by
        have : a.2 ∈ (sg none (l ++ [none])).map (·.2) := List.mem_map.2 ⟨a, by rw [e1]; exact List.mem_cons_of_mem _ ha, rfl⟩
        rwa [sg_snd] at this
      have a3 : a.1 ≠ x := fun e => by
        rcases List.mem_cons.1 hsub1 with h | h
        · exact a1 h
        · exact hn3 (by rw [← e]; exact h)
      have a4 : a.2 ≠ x := fun e => by
        rcases List.mem_append.1 hsub2 with h | h
        · exact hn3 (by rw [← e]; exact h)
        · exact x0 (by rw [← e]; exact List.mem_singleton.1 h)
      constructor
      · have : ((setP (setN (setN (setP f x none) x n) none x) n x) a.1).2 = (f a.1).2 := by
          unfold setP setN
          by_cases c1 : a.1 = n
          · simp only [c1, if_pos rfl]
            rw [c1] at a1 a3
            simp [a1, a3]
          · simp [c1, a1, a3]
        rw [this]; exact hfa.1
      · have : ((setP (setN (setN (setP f x none) x n) none x) n x) a.2).1 = (f a.2).1 := by
          unfold setP setN
          by_cases c1 : a.2 = none
          · simp [a2, a4, c1]
            rw [c1] at a2 a4
            simp [a2, a4]
          · simp [a2, a4, c1]
        rw [this]; exact hfa.2
end
end Go.Proofs.YtongpnolikkknaaDoor

set_option maxRecDepth 20000
set_option maxHeartbeats 4000000
namespace Go.Proofs.YtongpnolikkknaaDoor
open Sh RowKit Go.MapKept
def ptc (c : Nat) : Nd → Addr
  | none => ⟨c, 2, none⟩
  | some a => ⟨a, 0, none⟩
def ptn (c : Nat) : Nd → Addr
  | none => ⟨c, 3, none⟩
  | some a => ⟨a, 1, none⟩
theorem pta0 (c : Nat) (y : Nd) : (ptc c y).add 0 = ptc c y := by cases y <;> rfl
theorem pta1 (c : Nat) (y : Nd) : (ptc c y).add 1 = ptn c y := by cases y <;> rfl
abbrev Pp (c : Nat) (y : Nd) : Value := .pointer (some (ptc c y))
def cCell (c q : Nat) (sz n : Int) (mb : Nat) (h m : Int) (f : Nd → Nd × Nd) : Array Value :=
  #[pv q, .int .i64 sz, Pp c (f none).1, Pp c (f none).2, .int .i64 0, .string ⟨#[]⟩, .int .i64 n, .map (some mb), .int .i64 h, .int .i64 m]
def lCell (c : Nat) (f : Nd → Nd × Nd) (e : Nat × Ch) : Array Value := #[Pp c (f (some e.1)).1, Pp c (f (some e.1)).2, .int .i64 e.2.1, .string e.2.2]
structure Mm (B : Nat) (w : World) (c q : Nat) (sz n : Int) (mb : Nat) (h m : Int) (f : Nd → Nd × Nd) (E : List (Nat × Ch)) : Prop where
  cB : B ≤ c
  eB : ∀ e ∈ E, B ≤ e.1
  cb : w.heap[c]? = some (.cells (cCell c q sz n mb h m f) 99 (0, 0))
  lk : ∀ e ∈ E, w.heap[e.1]? = some (.cells (lCell c f e) 95 (0, 0))
  nd : (E.map (·.1)).Nodup
def InE (E : List (Nat × Ch)) (y : Nd) : Prop := y = none ∨ ∃ e ∈ E, y = some e.1
/-- the blocks of it -/
def fpM (c : Nat) (E : List (Nat × Ch)) : Nat → Prop := fun k => k = c ∨ ∃ e ∈ E, k = e.1
theorem setP_eq {f : Nd → Nd × Nd} {y v : Nd} : setP f y v y = (v, (f y).2) := by unfold setP; rw [if_pos rfl]
theorem setP_ne {f : Nd → Nd × Nd} {y v n : Nd} (h : n ≠ y) : setP f y v n = f n := by unfold setP; rw [if_neg h]
theorem setN_eq {f : Nd → Nd × Nd} {y v : Nd} : setN f y v y = ((f y).1, v) := by unfold setN; rw [if_pos rfl]
theorem setN_ne {f : Nd → Nd × Nd} {y v n : Nd} (h : n ≠ y) : setN f y v n = f n := by unfold setN; rw [if_neg h]
theorem nd_inj {E : List (Nat × Ch)} (hn : (E.map (·.1)).Nodup) {e e' : Nat × Ch} (h : e ∈ E) (h' : e' ∈ E) (he : e.1 = e'.1) : e = e' := by
  induction E with
  | nil => cases h
  | cons x E ih =>
    rw [List.map_cons] at hn
    obtain ⟨h1, h2⟩ := List.nodup_cons.1 hn
    rcases List.mem_cons.1 h with k | k
    · rcases List.mem_cons.1 h' with k' | k'
      · rw [k, k']
      · exact absurd (List.mem_map.2 ⟨e', k', by rw [← he, k]⟩) h1
    · rcases List.mem_cons.1 h' with k' | k'
      · exact absurd (List.mem_map.2 ⟨e, k, by rw [he, k']⟩) h1
      · exact ih h2 k k'
section
variable {B : Nat} {w w' : World} {c q mb : Nat} {sz n h m : Int} {f : Nd → Nd × Nd} {E : List (Nat × Ch)} {y v : Nd} {K0 : M} {Q : Value → World → Prop}
theorem Mm.ne (hm : Mm B w c q sz n mb h m f E) : ∀ e ∈ E, e.1 ≠ c := fun e he hc => by
  have h1 := hm.lk e he
  rw [hc, hm.cb] at h1
  have h2 := Option.some.inj h1
  injection h2 with _ h3 _
  exact absurd h3 (by decide)
theorem Mm.below (hm : Mm B w c q sz n mb h m f E) (hb : Below w.heap.size w w') : Mm B w' c q sz n mb h m f E := ⟨hm.cB, hm.eB, stay hb hm.cb, fun e he => stay hb (hm.lk e he), hm.nd⟩
theorem Mm.chg {S : Nat → Prop} (hm : Mm B w c q sz n mb h m f E) (hc : ChgS S w w') (hS : ∀ k, fpM c E k → ¬ S k) : Mm B w' c q sz n mb h m f E := ⟨hm.cB, hm.eB, hc.keep hm.cb (hS c (.inl rfl)), fun e he => hc.keep (hm.lk e he) (hS e.1 (.inr ⟨e, he, rfl⟩)), hm.nd⟩
theorem Mm.sub {E' : List (Nat × Ch)} (hm : Mm B w c q sz n mb h m f E) (hs : E'.Sublist E) : Mm B w c q sz n mb h m f E' := ⟨hm.cB, fun e he => hm.eB e (hs.subset he), hm.cb, fun e he => hm.lk e (hs.subset he), hm.nd.sublist (hs.map _)⟩
theorem Mm.fpB (hm : Mm B w c q sz n mb h m f E) : ∀ k, fpM c E k → B ≤ k := by
  rintro k (rfl | ⟨e, he, rfl⟩)
  · exact hm.cB
  · exact hm.eB e he
theorem Mm.lt (hm : Mm B w c q sz n mb h m f E) : ∀ k, fpM c E k → k < w.heap.size := by
  rintro k (rfl | ⟨e, he, rfl⟩)
  · exact blk_lt hm.cb
  · exact blk_lt (hm.lk e he)
theorem Mm.gP (hm : Mm B w c q sz n mb h m f E) (hy : InE E y) : w.cell? (ptc c y) = some (Pp c (f y).1) := by
  rcases hy with rfl | ⟨e, he, rfl⟩
  · show w.cell? ⟨c, 2, none⟩ = _
    rw [cell_of_blk hm.cb]; rfl
  · show w.cell? ⟨e.1, 0, none⟩ = _
    rw [cell_of_blk (hm.lk e he)]; rfl
theorem Mm.gN (hm : Mm B w c q sz n mb h m f E) (hy : InE E y) : w.cell? (ptn c y) = some (Pp c (f y).2) := by
  rcases hy with rfl | ⟨e, he, rfl⟩
  · show w.cell? ⟨c, 3, none⟩ = _
    rw [cell_of_blk hm.cb]; rfl
  · show w.cell? ⟨e.1, 1, none⟩ = _
    rw [cell_of_blk (hm.lk e he)]; rfl
theorem Mm.c6 (hm : Mm B w c q sz n mb h m f E) : w.cell? ⟨c, 6, none⟩ = some (.int .i64 n) := by rw [cell_of_blk hm.cb]; rfl
theorem Mm.sP (hm : Mm B w c q sz n mb h m f E) (hy : InE E y) (kk : ∀ w', Mm B w' c q sz n mb h m (setP f y v) E → (∀ S : Nat → Prop, (∀ k, fpM c E k → S k) → ChgS S w w') → K0 w' Q) : st (.pointer (some (ptc c y))) (Pp c v) K0 w Q := by
  rcases hy with rfl | ⟨e, he, rfl⟩
  · refine st_box (o := 2) (v := Pp c v) hm.cb (by show 2 < 10; decide) rfl fun w1 h1 u1 => kk w1 ⟨hm.cB, hm.eB, ?_, fun e he => ?_, hm.nd⟩ fun S hS => ChgS.of_upd u1 (hS _ (.inl rfl))
    · rw [h1]
      unfold cCell
      rw [setP_eq]
      rfl
    · rw [u1.block e.1 (hm.ne e he), hm.lk e he]
      unfold lCell
      rw [setP_ne (by simp)]
  · refine st_box (o := 0) (v := Pp c v) (hm.lk e he) (by show 0 < 4; decide) rfl fun w1 h1 u1 => kk w1 ⟨hm.cB, hm.eB, ?_, fun e' he' => ?_, hm.nd⟩ fun S hS => ChgS.of_upd u1 (hS _ (.inr ⟨e, he, rfl⟩))
    · rw [u1.block c (hm.ne e he).symm, hm.cb]
      unfold cCell
      rw [setP_ne (by simp)]
    · by_cases hee : e'.1 = e.1
      · obtain rfl := nd_inj hm.nd he' he hee
        rw [h1]
        unfold lCell
        rw [setP_eq]
        rfl
      · rw [u1.block e'.1 hee, hm.lk e' he']
        unfold lCell
        rw [setP_ne (by simpa using hee)]
theorem Mm.sN (hm : Mm B w c q sz n mb h m f E) (hy : InE E y) (kk : ∀ w', Mm B w' c q sz n mb h m (setN f y v) E → (∀ S : Nat → Prop, (∀ k, fpM c E k → S k) → ChgS S w w') → K0 w' Q) : st (.pointer (some (ptn c y))) (Pp c v) K0 w Q := by
  rcases hy with rfl | ⟨e, he, rfl⟩
  · refine st_box (o := 3) (v := Pp c v) hm.cb (by show 3 < 10; decide) rfl fun w1 h1 u1 => kk w1 ⟨hm.cB, hm.eB, ?_, fun e he => ?_, hm.nd⟩ fun S hS => ChgS.of_upd u1 (hS _ (.inl rfl))
    · rw [h1]
      unfold cCell
      rw [setN_eq]
      rfl
    · rw [u1.block e.1 (hm.ne e he), hm.lk e he]
      unfold lCell
      rw [setN_ne (by simp)]
  · refine st_box (o := 1) (v := Pp c v) (hm.lk e he) (by show 1 < 4; decide) rfl fun w1 h1 u1 => kk w1 ⟨hm.cB, hm.eB, ?_, fun e' he' => ?_, hm.nd⟩ fun S hS => ChgS.of_upd u1 (hS _ (.inr ⟨e, he, rfl⟩))
    · rw [u1.block c (hm.ne e he).symm, hm.cb]
      unfold cCell
      rw [setN_ne (by simp)]
    · by_cases hee : e'.1 = e.1
      · obtain rfl := nd_inj hm.nd he' he hee
        rw [h1]
        unfold lCell
        rw [setN_eq]
        rfl
      · rw [u1.block e'.1 hee, hm.lk e' he']
        unfold lCell
        rw [setN_ne (by simpa using hee)]
/-- one of the cache's own numbers stored -/
theorem Mm.sI {o : Nat} {x : Int} {n' h' m' : Int} (hm : Mm B w c q sz n mb h m f E) (ho : o < 10) (he : (cCell c q sz n mb h m f).setIfInBounds o (.int .i64 x) = cCell c q sz n' mb h' m' f) (kk : ∀ w', Mm B w' c q sz n' mb h' m' f E → (∀ S : Nat → Prop, (∀ k, fpM c E k → S k) → ChgS S w w') → K0 w' Q) : st (.pointer (some ⟨c, o, none⟩)) (.int .i64 x) K0 w Q := by
  refine st_box (o := o) (v := .int .i64 x) hm.cb (by show o < 10; exact ho) rfl fun w1 h1 u1 => kk w1 ⟨hm.cB, hm.eB, by rw [h1, he], fun e he => by rw [u1.block e.1 (hm.ne e he), hm.lk e he], hm.nd⟩ fun S hS => ChgS.of_upd u1 (hS _ (.inl rfl))
theorem f65_s {e : Nat × Ch} (hm : Mm B w c q sz n mb h m f E) (he : e ∈ E) (hp : InE E (f (some e.1)).1) (hx : InE E (f (some e.1)).2) (hn : 0 ≤ n) (hn2 : n ≤ 1000)
    (kk : ∀ w', Mm B w' c q sz (n - 1) mb h m (setP (setN f (f (some e.1)).1 (f (some e.1)).2) (f (some e.1)).2 (f (some e.1)).1) E → ChgS (fpM c E) w w' → Q (.tuple #[]) w') :
    f65 (.pointer (some ⟨c, 2, none⟩)) (pv e.1) w Q := by
  unfold f65
  have hmd : Mm B (drw w) c q sz n mb h m f E := ⟨hm.cB, hm.eB, hm.cb, hm.lk, hm.nd⟩
  have c0 : (drw w).cell? ⟨e.1, 0, none⟩ = some (Pp c (f (some e.1)).1) := hmd.gP (y := some e.1) (.inr ⟨e, he, rfl⟩)
  have c1 : (drw w).cell? ⟨e.1, 1, none⟩ = some (Pp c (f (some e.1)).2) := hmd.gN (y := some e.1) (.inr ⟨e, he, rfl⟩)
  have c0' : w.cell? ⟨e.1, 0, none⟩ = some (Pp c (f (some e.1)).1) := c0
  have c1' : w.cell? ⟨e.1, 1, none⟩ = some (Pp c (f (some e.1)).2) := c1
  have ew : IntKind.i64.wrap (n - 1) = n - 1 := w64 (by omega) (by omega)
  try simp only [↓reduceIte, ↓LL, LM, Value.cells, Nat.reduceAdd, Option.some.injEq, exists_eq_left', decide_true, decide_false, if_true, if_false, reduceCtorEq, cond_true, cond_false, c0, c1, c0', c1', pta0, pta1]
  generalize (f (some e.1)).1 = p at *
  generalize (f (some e.1)).2 = x at *
  refine hmd.sN hp fun w1 m1 g1 => ?_
  try simp only [↓reduceIte, ↓LL, LM, Value.cells, Nat.reduceAdd, Option.some.injEq, exists_eq_left', decide_true, decide_false, if_true, if_false, reduceCtorEq, cond_true, cond_false, pta0, pta1]
  refine m1.sP hx fun w2 m2 g2 => ?_
  have c6 := m2.c6
  try simp only [↓reduceIte, ↓LL, LM, Value.cells, Nat.reduceAdd, Option.some.injEq, exists_eq_left', decide_true, decide_false, if_true, if_false, reduceCtorEq, cond_true, cond_false, c6, ew]
  refine m2.sI (by decide) rfl fun w3 m3 g3 => ?_
  try simp only [↓reduceIte, ↓LL, LM, Value.cells, Nat.reduceAdd, Option.some.injEq, exists_eq_left', decide_true, decide_false, if_true, if_false, reduceCtorEq, cond_true, cond_false]
  refine kk w3 m3 ?_
  have s1 : ChgS (fpM c E) (drw w) w1 := g1 _ fun _ h => h
  exact ((s1.trans (g2 _ fun _ h => h) fun _ _ h => h).trans (g3 _ fun _ h => h) fun _ _ h => h).of_drw
theorem f93_s {e : Nat × Ch} {va vb : Value} (hm : Mm B w c q sz n mb h m f E) (hne : e.1 ∉ E.map (·.1)) (heB : B ≤ e.1) (hblk : w.heap[e.1]? = some (.cells #[va, vb, .int .i64 e.2.1, .string e.2.2] 95 (0, 0))) (hx : InE E (f none).2) (hn : 0 ≤ n) (hn2 : n ≤ 1000)
    (kk : ∀ w', Mm B w' c q sz (n + 1) mb h m (setP (setN (setN (setP f (some e.1) none) (some e.1) (f none).2) none (some e.1)) (f none).2 (some e.1)) (e :: E) → ChgS (fpM c (e :: E)) w w' → Q (.tuple #[]) w') :
    f93 (.pointer (some ⟨c, 2, none⟩)) (pv e.1) w Q := by
  unfold f93
  have hmd : Mm B (drw w) c q sz n mb h m f E := ⟨hm.cB, hm.eB, hm.cb, hm.lk, hm.nd⟩
  have hie : InE (e :: E) (some e.1) := .inr ⟨e, List.mem_cons_self .., rfl⟩
  have hec : e.1 ≠ c := fun hc => by
    rw [hc, hm.cb] at hblk
    have h2 := Option.some.inj hblk
    injection h2 with _ h3 _
    exact absurd h3 (by decide)
  have c3 : (drw w).cell? ⟨c, 3, none⟩ = some (Pp c (f none).2) := hmd.gN (y := none) (.inl rfl)
  have c3' : w.cell? ⟨c, 3, none⟩ = some (Pp c (f none).2) := c3
  have ew : IntKind.i64.wrap (n + 1) = n + 1 := w64 (by omega) (by omega)
  try simp only [↓reduceIte, ↓LL, LM, Value.cells, Nat.reduceAdd, Option.some.injEq, exists_eq_left', decide_true, decide_false, if_true, if_false, reduceCtorEq, cond_true, cond_false, c3, c3', pta0, pta1]
  generalize hxx : (f none).2 = x at *
  refine st_box (w := drw w) (o := 0) (v := Pp c none) (show (drw w).heap[e.1]? = _ from hblk) (by show 0 < 4; decide) rfl fun w1 h1 u1 => ?_
  try simp only [↓reduceIte, ↓LL, LM, Value.cells, Nat.reduceAdd, Option.some.injEq, exists_eq_left', decide_true, decide_false, if_true, if_false, reduceCtorEq, cond_true, cond_false]
  refine st_box (o := 1) (v := Pp c x) h1 (by show 1 < 4; decide) rfl fun w2 h2 u2 => ?_
  have hk : ∀ k, k ≠ e.1 → w2.heap[k]? = (drw w).heap[k]? := fun k hk => by rw [u2.block k hk, u1.block k hk]
  have m2 : Mm B w2 c q sz n mb h m (setN (setP f (some e.1) none) (some e.1) x) (e :: E) := by
    refine ⟨hm.cB, fun a ha => ?_, ?_, fun a ha => ?_, ?_⟩
    · rcases List.mem_cons.1 ha with rfl | ha
      · exact heB
      · exact hm.eB a ha
    · rw [hk c hec.symm]
      show w.heap[c]? = _
      rw [hm.cb]
      unfold cCell
      rw [setN_ne (by simp), setP_ne (by simp)]
    · rcases List.mem_cons.1 ha with rfl | ha
      · rw [h2]
        unfold lCell
        rw [setN_eq, setP_eq]
        rfl
      · have hae : a.1 ≠ e.1 := fun hc => hne (List.mem_map.2 ⟨a, ha, hc⟩)
        rw [hk a.1 hae]
        show w.heap[a.1]? = _
        rw [hm.lk a ha]
        unfold lCell
        rw [setN_ne (by simpa using hae), setP_ne (by simpa using hae)]
    · rw [List.map_cons]
      exact List.nodup_cons.2 ⟨hne, hm.nd⟩
  have m2d : Mm B (drw w2) c q sz n mb h m _ (e :: E) := ⟨m2.cB, m2.eB, m2.cb, m2.lk, m2.nd⟩
  have hx' : InE (e :: E) x := by
    rcases hx with h | ⟨a, ha, h⟩
    · exact .inl h
    · exact .inr ⟨a, List.mem_cons_of_mem _ ha, h⟩
  have d0 : (drw w2).cell? ⟨e.1, 0, none⟩ = some (Pp c none) := by
    have := m2d.gP (y := some e.1) hie
    rw [setN_eq, setP_eq] at this
    exact this
  have d1 : (drw w2).cell? ⟨e.1, 1, none⟩ = some (Pp c x) := by
    have := m2d.gN (y := some e.1) hie
    rw [setN_eq] at this
    exact this
  have d0' : w2.cell? ⟨e.1, 0, none⟩ = some (Pp c none) := d0
  have d1' : w2.cell? ⟨e.1, 1, none⟩ = some (Pp c x) := d1
  try simp only [↓reduceIte, ↓LL, LM, Value.cells, Nat.reduceAdd, Option.some.injEq, exists_eq_left', decide_true, decide_false, if_true, if_false, reduceCtorEq, cond_true, cond_false, d0, d1, d0', d1', pta0, pta1]
  refine m2d.sN (y := none) (v := some e.1) (.inl rfl) fun w3 m3 g3 => ?_
  try simp only [↓reduceIte, ↓LL, LM, Value.cells, Nat.reduceAdd, Option.some.injEq, exists_eq_left', decide_true, decide_false, if_true, if_false, reduceCtorEq, cond_true, cond_false, pta0, pta1]
  refine m3.sP (v := some e.1) hx' fun w4 m4 g4 => ?_
  have c6 := m4.c6
  try simp only [↓reduceIte, ↓LL, LM, Value.cells, Nat.reduceAdd, Option.some.injEq, exists_eq_left', decide_true, decide_false, if_true, if_false, reduceCtorEq, cond_true, cond_false, c6, ew]
  refine m4.sI (by decide) rfl fun w5 m5 g5 => ?_
  try simp only [↓reduceIte, ↓LL, LM, Value.cells, Nat.reduceAdd, Option.some.injEq, exists_eq_left', decide_true, decide_false, if_true, if_false, reduceCtorEq, cond_true, cond_false]
  refine kk w5 m5 ?_
  have s1 : ChgS (fpM c (e :: E)) (drw w) w1 := ChgS.of_upd u1 (.inr ⟨e, List.mem_cons_self .., rfl⟩)
  have s2 : ChgS (fpM c (e :: E)) (drw w) w2 := s1.trans (ChgS.of_upd u2 (S := fpM c (e :: E)) (.inr ⟨e, List.mem_cons_self .., rfl⟩)) fun _ _ h => h
  have s3 : ChgS (fpM c (e :: E)) w2 w3 := (g3 (fpM c (e :: E)) fun _ h => h).of_drw
  exact ((((s2.trans s3 fun _ _ h => h).trans (g4 _ fun _ h => h) fun _ _ h => h).trans (g5 _ fun _ h => h) fun _ _ h => h)).of_drw
end
end Go.Proofs.YtongpnolikkknaaDoor

set_option maxRecDepth 20000
set_option maxHeartbeats 4000000
namespace Go.Proofs.YtongpnolikkknaaDoor
open Sh RowKit Go.MapKept
section
variable {P : Program} {w : World} {Q : Value → World → Prop} {K : Value → M}
theorem run_neq_ptr_same {tp te : TypeId} {j : TypeInfo} (a : Addr) (hp : P.underlying tp = some (.pointer te)) (hte : P.info? te = some j) :
    (binOp .neq tp (.pointer (some a)) (.pointer (some a))).run P w = .ok (.bool false) w := by
  have h : ∀ d : Nat, (Op.equalIn (d + 1) tp (.pointer (some a)) (.pointer (some a))).run P w = .ok true w := fun d => by
    simp [Op.equalIn, run_underlying hp, sizeOf, typeInfo, hte, run_sameAddr_same]
  simp only [binOp]
  simp [Op.equal, Op.maxDepth, h 9999]
theorem run_neq_ptr_other {tp te : TypeId} {j : TypeInfo} {a b : Addr} {ca cb : Array Value} {ta tb : TypeId} (hp : P.underlying tp = some (.pointer te)) (hte : P.info? te = some j) (hsz : j.size ≠ 0)
    (hne : a ≠ b) (ha : w.heap[a.block]? = some (.cells ca ta (0, 0))) (hb : w.heap[b.block]? = some (.cells cb tb (0, 0))) :
    (binOp .neq tp (.pointer (some a)) (.pointer (some b))).run P w = .ok (.bool true) w := by
  have h : ∀ d : Nat, (Op.equalIn (d + 1) tp (.pointer (some a)) (.pointer (some b))).run P w = .ok false w := fun d => by
    simp [Op.equalIn, run_underlying hp, sizeOf, typeInfo, hte, hsz, run_sameAddr_other w hne ha hb]
  simp only [binOp]
  simp [Op.equal, Op.maxDepth, h 9999]
theorem ptr_ne {tp te : TypeId} {j : TypeInfo} {a b : Addr} {x y : Operand} {ca cb : Array Value} {ta tb : TypeId} (hp : P.underlying tp = some (.pointer te)) (hte : P.info? te = some j) (hsz : j.size ≠ 0)
    (ha : w.heap[a.block]? = some (.cells ca ta (0, 0))) (hb : w.heap[b.block]? = some (.cells cb tb (0, 0))) :
    smr P (do eqGuard .neq tp x y (.pointer (some a)) (.pointer (some b)); binOp .neq tp (.pointer (some a)) (.pointer (some b))) K w Q = K (.bool (decide (a ≠ b))) w Q := by
  refine smr_run ?_
  by_cases e : a = b
  · subst e
    have h := run_neq_ptr_same (w := w) a hp hte
    simp [eqGuard, h]
  · have h := run_neq_ptr_other hp hte hsz e ha hb
    simp [eqGuard, h, e]
end
section
variable {α : Type} [DecidableEq α]
theorem lk_del {L : List (α × Value)} {k k' : α} : lk (del L k) k' = if k' = k then none else lk L k' := by
  induction L with
  | nil => simp [del, lk]
  | cons p L ih =>
    obtain ⟨a, u⟩ := p
    by_cases ha : a = k
    · have e : del ((a, u) :: L) k = del L k := by unfold del; rw [List.filter_cons_of_neg (by simp [ha])]
      rw [e, ih, lk_cons]
      by_cases hk : k' = k
      · rw [if_pos hk, if_pos hk]
      · rw [if_neg hk, if_neg hk, if_neg (fun e => hk (by rw [← e, ha]))]
    · have e : del ((a, u) :: L) k = (a, u) :: del L k := by unfold del; rw [List.filter_cons_of_pos (by simpa using ha)]
      rw [e, lk_cons, lk_cons, ih]
      by_cases hk : k' = k
      · rw [if_pos hk, if_neg (fun e => ha (by rw [e, hk])), if_pos hk]
      · rw [if_neg hk, if_neg hk]
end
theorem KKc : KeyK Tryd.prog 90 3 91 (.int .i64) kI := ⟨by kernel_rfl, by kernel_rfl, fun a => by simp [kI, IsKey], fun a b h => by simpa [kI] using h⟩
theorem zC : zeroIs Tryd.prog 91 (.pointer none) := by unfold zeroIs; kernel_rfl
theorem ptK : Tryd.prog.underlying 47 = some (.pointer (Tryd.prog.pointee 47)) := by kernel_rfl
theorem ptL : Tryd.prog.underlying 91 = some (.pointer 95) := by kernel_rfl
theorem infL : (Tryd.prog.info? 95).map (·.size) = some 4 := by kernel_rfl
end Go.Proofs.YtongpnolikkknaaDoor

set_option maxRecDepth 20000
set_option maxHeartbeats 4000000
namespace Go.Proofs.YtongpnolikkknaaDoor
open Sh RowKit Go.MapKept
def fnd (E : List (Nat × Ch)) (n : Int) : Option (Nat × Ch) := E.find? fun e => decide (e.2.1 = n)
def nds (E : List (Nat × Ch)) : List Nd := E.map fun e => some e.1
structure CaAt (B : Nat) (w : World) (c q mb : Nat) (C : Ca) (E : List (Nat × Ch)) : Prop where
  K : C.K = E.map (·.2)
  rg : ∃ f, Mm B w c q C.sz E.length mb C.h C.m f E ∧ Ring f (nds E)
  mB : B ≤ mb
  mp : ∃ ML, MapAt kI w mb ML ∧ ∀ n, lk ML n = (fnd E n).map fun e => pv e.1
  nk : (nums C.K).Nodup
  le : E.length ≤ C.sz
  l64 : C.sz ≤ 64
def fpA (c mb : Nat) (E : List (Nat × Ch)) : Nat → Prop := fun k => fpM c E k ∨ k = mb
theorem fnd_cons {e : Nat × Ch} {E : List (Nat × Ch)} {n : Int} : fnd (e :: E) n = if e.2.1 = n then some e else fnd E n := by
  unfold fnd
  by_cases h : e.2.1 = n
  · rw [List.find?_cons_of_pos (by simpa using h), if_pos h]
  · rw [List.find?_cons_of_neg (by simpa using h), if_neg h]
theorem fnd_app {E1 E2 : List (Nat × Ch)} {n : Int} : fnd (E1 ++ E2) n = (fnd E1 n).or (fnd E2 n) := by unfold fnd; rw [List.find?_append]
theorem fnd_none {E : List (Nat × Ch)} {n : Int} (h : n ∉ E.map (·.2.1)) : fnd E n = none := by
  unfold fnd
  refine List.find?_eq_none.2 fun e he hn => h (List.mem_map.2 ⟨e, he, by simpa using hn⟩)
theorem nds_none {E : List (Nat × Ch)} (h : (E.map (·.1)).Nodup) : (none :: nds E).Nodup := by
  refine List.nodup_cons.2 ⟨fun hc => ?_, ?_⟩
  · obtain ⟨e, _, h⟩ := List.mem_map.1 hc
    cases h
  · have e : nds E = (E.map (·.1)).map some := by unfold nds; rw [List.map_map]; rfl
    rw [e]
    exact nodup_map_inj h fun a _ b _ hab => Option.some.inj hab
theorem inE_of {E : List (Nat × Ch)} {y : Nd} (h : y ∈ none :: nds E) : InE E y := by
  rcases List.mem_cons.1 h with h | h
  · exact .inl h
  · obtain ⟨e, he, hx⟩ := List.mem_map.1 h
    exact .inr ⟨e, he, hx.symm⟩
theorem find_fnd {E : List (Nat × Ch)} {n : Int} : (E.map (·.2)).find? (fun x => decide (x.1 = n)) = (fnd E n).map (·.2) := by
  unfold fnd
  rw [List.find?_map]; rfl
theorem fnd_mem {E : List (Nat × Ch)} {n : Int} {e : Nat × Ch} (h : fnd E n = some e) : e ∈ E ∧ e.2.1 = n := by
  unfold fnd at h
  have h1 := List.find?_some h
  exact ⟨List.mem_of_find?_eq_some h, by simpa using h1⟩
theorem nums_map (E : List (Nat × Ch)) : nums (E.map (·.2)) = E.map (·.2.1) := by unfold nums; rw [List.map_map]; rfl
section
variable {B : Nat} {w w' : World} {c q mb : Nat} {sz : Nat} {h m n : Int} {f : Nd → Nd × Nd} {E : List (Nat × Ch)} {C : Ca} {L : List ByteArray} {p : Nat} {u st cc : Value} {Bp : Nat} {Q : Value → World → Prop}
theorem CaAt.below (hc : CaAt B w c q mb C E) (hb : Below w.heap.size w w') : CaAt B w' c q mb C E := by
  obtain ⟨f, hm, hr⟩ := hc.rg
  obtain ⟨ML, h1, h2⟩ := hc.mp
  exact ⟨hc.K, ⟨f, hm.below hb, hr⟩, hc.mB, ⟨ML, h1.below hb, h2⟩, hc.nk, hc.le, hc.l64⟩
theorem CaAt.chg {S : Nat → Prop} (hc : CaAt B w c q mb C E) (hg : ChgS S w w') (hS : ∀ k, fpA c mb E k → ¬ S k) : CaAt B w' c q mb C E := by
  obtain ⟨f, hm, hr⟩ := hc.rg
  obtain ⟨ML, h1, h2⟩ := hc.mp
  exact ⟨hc.K, ⟨f, hm.chg hg fun k hk => hS k (.inl hk), hr⟩, hc.mB, ⟨ML, h1.stay (hg.block mb h1.lt (hS mb (.inr rfl))), h2⟩, hc.nk, hc.le, hc.l64⟩
theorem CaAt.fpB (hc : CaAt B w c q mb C E) : ∀ k, fpA c mb E k → B ≤ k := by
  obtain ⟨f, hm, hr⟩ := hc.rg
  rintro k (hk | rfl)
  · exact hm.fpB k hk
  · exact hc.mB
theorem CaAt.lt (hc : CaAt B w c q mb C E) : ∀ k, fpA c mb E k → k < w.heap.size := by
  obtain ⟨f, hm, hr⟩ := hc.rg
  obtain ⟨ML, h1, h2⟩ := hc.mp
  rintro k (hk | rfl)
  · exact hm.lt k hk
  · exact h1.lt
theorem map_ne {ML : List (Int × Value)} {g : Nat} {cur : Array Value} {e : TypeId} (h : MapAt kI w mb ML) (hg : w.heap[g]? = some (.cells cur e (0, 0))) : g ≠ mb := by
  rintro rfl
  obtain ⟨es, clock, h1, _⟩ := h
  rw [h1] at hg; cases hg
theorem Mm.mne {ML : List (Int × Value)} (hm : Mm B w c q sz n mb h m f E) (hp : MapAt kI w mb ML) : ∀ k, fpM c E k → k ≠ mb := by
  rintro k (rfl | ⟨e, he, rfl⟩)
  · exact map_ne hp hm.cb
  · exact map_ne hp (hm.lk e he)
theorem Mm.of_drw (hm : Mm B w c q sz n mb h m f E) : Mm B (drw w) c q sz n mb h m f E := ⟨hm.cB, hm.eB, hm.cb, hm.lk, hm.nd⟩
/-- a link used: put first, the last one away if they are too many -/
theorem f66_s {e : Nat × Ch} {va vb : Value} {ML : List (Int × Value)} (hm : Mm B w c q sz E.length mb h m f E) (hr : Ring f (nds E)) (hne : e.1 ∉ E.map (·.1)) (heB : B ≤ e.1)
    (hblk : w.heap[e.1]? = some (.cells #[va, vb, .int .i64 e.2.1, .string e.2.2] 95 (0, 0))) (hmB : B ≤ mb) (hmp : MapAt kI w mb ML) (hlk : ∀ n, n ≠ e.2.1 → lk ML n = (fnd E n).map fun e => pv e.1)
    (hle : E.length ≤ sz) (h64 : sz ≤ 64) (hnk : ((e :: E).map (·.2.1)).Nodup)
    (kk : ∀ w', CaAt B w' c q mb ⟨sz, useK sz e.2 (E.map (·.2)), h, m⟩ ((e :: E).take sz) → ChgS (fpA c mb (e :: E)) w w' → Q (.tuple #[]) w') : f66 (pv c) (pv e.1) w Q := by
  unfold f66
  have hndn : (none :: some e.1 :: nds E).Nodup := nds_none (E := e :: E) (by rw [List.map_cons]; exact List.nodup_cons.2 ⟨hne, hm.nd⟩)
  obtain ⟨g1, g2⟩ := ring_first hr hndn
  try simp only [↓reduceIte, ↓LL, LM, Value.cells, Nat.reduceAdd, Option.some.injEq, exists_eq_left', decide_true, decide_false, if_true, if_false, reduceCtorEq, cond_true, cond_false]
  refine f93_s hm hne heB hblk (inE_of g1) (by omega) (by omega) fun w1 m1 hc1 => ?_
  generalize setP (setN (setN (setP f (some e.1) none) (some e.1) (f none).2) none (some e.1)) (f none).2 (some e.1) = f1 at *
  have emb : ∀ k, fpM c (e :: E) k → k ≠ mb := by
    rintro k (rfl | ⟨a, ha, rfl⟩)
    · exact map_ne hmp hm.cb
    · rcases List.mem_cons.1 ha with rfl | ha
      · exact map_ne hmp hblk
      · exact map_ne hmp (hm.lk a ha)
  have hmp1 : MapAt kI w1 mb ML := hmp.stay (hc1.block mb hmp.lt fun hk => emb mb hk rfl)
  have hcA : ChgS (fpA c mb (e :: E)) w w1 := hc1.mono fun k hk => .inl hk
  have c7 : (drw w1).cell? ⟨c, 7, none⟩ = some (.map (some mb)) := by show w1.cell? _ = _; rw [cell_of_blk m1.cb]; rfl
  have ce2 : (drw w1).cell? ⟨e.1, 2, none⟩ = some (.int .i64 e.2.1) := by show w1.cell? _ = _; rw [cell_of_blk (m1.lk e (List.mem_cons_self ..))]; rfl
  have c7' : w1.cell? ⟨c, 7, none⟩ = some (.map (some mb)) := c7
  have ce2' : w1.cell? ⟨e.1, 2, none⟩ = some (.int .i64 e.2.1) := ce2
  try simp only [↓reduceIte, ↓LL, LM, Value.cells, Nat.reduceAdd, Option.some.injEq, exists_eq_left', decide_true, decide_false, if_true, if_false, reduceCtorEq, cond_true, cond_false, c7, ce2, c7', ce2']
  refine upd_map (kv := kI) KKc (show MapAt kI (drw w1) mb ML from hmp1) e.2.1 (pv e.1) fun w2 hmp2 u2 => ?_
  have hc2 : ChgS (fpA c mb (e :: E)) w w2 := hcA.trans (T := fpA c mb (e :: E)) ((ChgS.of_upd u2 (S := fpA c mb (e :: E)) (.inr rfl)).of_drw) fun _ _ h => h
  have m2 : Mm B w2 c q sz (E.length + 1) mb h m f1 (e :: E) := m1.of_drw.chg (ChgS.of_upd u2 (S := fun k => k = mb) rfl) fun k hk hn => emb k hk hn
  have lk2 : ∀ n, lk (put ML e.2.1 (pv e.1)) n = (fnd (e :: E) n).map fun e => pv e.1 := by
    intro n
    rw [lk_put, fnd_cons]
    by_cases hn : n = e.2.1
    · rw [if_pos hn, if_pos hn.symm]; rfl
    · rw [if_neg hn, if_neg (fun h => hn h.symm), hlk n hn]
  generalize put ML e.2.1 (pv e.1) = ML2 at *
  have c6 : (drw w2).cell? ⟨c, 6, none⟩ = some (.int .i64 ((E.length : Int) + 1)) := m2.c6
  have c1 : (drw w2).cell? ⟨c, 1, none⟩ = some (.int .i64 (sz : Int)) := by show w2.cell? _ = _; rw [cell_of_blk m2.cb]; rfl
  have c6' : w2.cell? ⟨c, 6, none⟩ = some (.int .i64 ((E.length : Int) + 1)) := c6
  have c1' : w2.cell? ⟨c, 1, none⟩ = some (.int .i64 (sz : Int)) := c1
  have m2d := m2.of_drw
  by_cases cg : sz < E.length + 1
  · have cg1 : (E.length : Int) + 1 > (sz : Int) := by omega
    have cg2 : (sz : Int) < (E.length : Int) + 1 := by omega
    obtain ⟨E2, z, hz⟩ : ∃ E2 z, e :: E = E2 ++ [z] := ⟨(e :: E).dropLast, (e :: E).getLast (by simp), (List.dropLast_concat_getLast (by simp)).symm⟩
    have hzl : E2.length = sz := by
      have := congrArg List.length hz
      rw [List.length_append, List.length_cons] at this
      simp only [List.length_cons, List.length_nil] at this
      omega
    have htk : (e :: E).take sz = E2 := by rw [hz, ← hzl, List.take_left']; rfl
    rw [htk] at kk
    have g2' : Ring f1 (nds E2 ++ [some z.1]) := by
      have : (some e.1 :: nds E : List Nd) = nds E2 ++ [some z.1] := by
        show nds (e :: E) = _
        rw [hz]; unfold nds; rw [List.map_append]; rfl
      rw [← this]; exact g2
    have hlast : (f1 none).1 = some z.1 := by rw [ring_last g2', lastD_snoc]
    have hnd3 : (none :: (nds E2 ++ some z.1 :: [])).Nodup := by
      have : (nds E2 ++ some z.1 :: [] : List Nd) = nds (e :: E) := by rw [hz]; unfold nds; rw [List.map_append]; rfl
      rw [this]
      exact nds_none m2.nd
    have zmem : z ∈ e :: E := by rw [hz]; simp
    have c2 : (drw w2).cell? ⟨c, 2, none⟩ = some (pv z.1) := by
      have := m2d.gP (y := none) (.inl rfl)
      rw [hlast] at this
      exact this
    have c2' : w2.cell? ⟨c, 2, none⟩ = some (pv z.1) := c2
    try simp only [↓reduceIte, ↓LL, LM, Value.cells, Nat.reduceAdd, Option.some.injEq, exists_eq_left', decide_true, decide_false, if_true, if_false, reduceCtorEq, cond_true, cond_false, c6, c1, c6', c1', cg1, cg2, c2, c2']
    obtain ⟨o1, o2, o3⟩ := ring_out (l1 := nds E2) (l2 := []) (x := some z.1) g2' hnd3
    have sub : ∀ y : Nd, y ∈ none :: (nds E2 ++ []) → InE (e :: E) y := fun y hy => by
      rw [List.append_nil] at hy
      rcases inE_of hy with h | ⟨a, ha, h⟩
      · exact .inl h
      · exact .inr ⟨a, by rw [hz]; exact List.mem_append_left _ ha, h⟩
    refine f65_s (e := z) m2d zmem (sub _ o1) (sub _ o2) (by omega) (by omega) fun w3 m3 hc3 => ?_
    rw [List.append_nil] at o3
    generalize setP (setN f1 (f1 (some z.1)).1 (f1 (some z.1)).2) (f1 (some z.1)).2 (f1 (some z.1)).1 = f3 at *
    have hmp3 : MapAt kI w3 mb ML2 := MapAt.stay (w := drw w2) hmp2 (hc3.block mb hmp2.lt fun hk => emb mb hk rfl)
    have hc3' : ChgS (fpA c mb (e :: E)) w w3 := hc2.trans ((hc3.mono fun k hk => .inl hk : ChgS (fpA c mb (e :: E)) (drw w2) w3).of_drw) fun _ _ h => h
    have d7 : (drw w3).cell? ⟨c, 7, none⟩ = some (.map (some mb)) := by show w3.cell? _ = _; rw [cell_of_blk m3.cb]; rfl
    have dz2 : (drw w3).cell? ⟨z.1, 2, none⟩ = some (.int .i64 z.2.1) := by show w3.cell? _ = _; rw [cell_of_blk (m3.lk z zmem)]; rfl
    have d7' : w3.cell? ⟨c, 7, none⟩ = some (.map (some mb)) := d7
    have dz2' : w3.cell? ⟨z.1, 2, none⟩ = some (.int .i64 z.2.1) := dz2
    try simp only [↓reduceIte, ↓LL, LM, Value.cells, Nat.reduceAdd, Option.some.injEq, exists_eq_left', decide_true, decide_false, if_true, if_false, reduceCtorEq, cond_true, cond_false, d7, dz2, d7', dz2']
    refine del_map (kv := kI) KKc (show MapAt kI (drw w3) mb ML2 from hmp3) z.2.1 fun w4 hmp4 u4 => ?_
    try simp only [↓reduceIte, ↓LL, LM, Value.cells, Nat.reduceAdd, Option.some.injEq, exists_eq_left', decide_true, decide_false, if_true, if_false, reduceCtorEq, cond_true, cond_false]
    have hnum : ((E2 ++ [z]).map (·.2.1)).Nodup := by rw [← hz]; exact hnk
    have m4 : Mm B w4 c q sz (E.length + 1 - 1) mb h m f3 (e :: E) := m3.of_drw.chg (ChgS.of_upd u4 (S := fun k => k = mb) rfl) fun k hk hn => emb k hk hn
    refine kk w4 ⟨?_, ⟨f3, ?_, o3⟩, hmB, ⟨_, hmp4, fun n => ?_⟩, ?_, by show E2.length ≤ sz; omega, h64⟩ (hc3'.trans ((ChgS.of_upd u4 (S := fpA c mb (e :: E)) (.inr rfl)).of_drw) fun _ _ h => h)
    · show useK sz e.2 (E.map (·.2)) = _
      unfold useK
      rw [show (e.2 :: E.map (·.2) : List Ch) = (e :: E).map (·.2) from rfl, ← List.map_take, htk]
    · have el : (E.length : Int) + 1 - 1 = ((E2.length : Nat) : Int) := by omega
      rw [el] at m4
      refine m4.sub ?_
      rw [hz]
      exact List.sublist_append_left _ _
    · rw [lk_del, lk2, hz, fnd_app]
      rw [List.map_append, List.nodup_append] at hnum
      by_cases hn : n = z.2.1
      · rw [if_pos hn, fnd_none (E := E2) (n := n) (fun hc => hnum.2.2 _ hc z.2.1 (by simp) hn)]; rfl
      · rw [if_neg hn]
        have : fnd [z] n = none := fnd_none (by simpa using hn)
        rw [this, Option.or_none]
    · show (nums (useK sz e.2 (E.map (·.2)))).Nodup
      unfold useK
      rw [show (e.2 :: E.map (·.2) : List Ch) = (e :: E).map (·.2) from rfl, ← List.map_take, nums_map]
      rw [List.map_take]
      exact hnk.sublist (List.take_sublist _ _)
  · have cg1 : ¬ (E.length : Int) + 1 > (sz : Int) := by omega
    have cg2 : ¬ (sz : Int) < (E.length : Int) + 1 := by omega
    have htk : (e :: E).take sz = e :: E := List.take_of_length_le (by rw [List.length_cons]; omega)
    rw [htk] at kk
    try simp only [↓reduceIte, ↓LL, LM, Value.cells, Nat.reduceAdd, Option.some.injEq, exists_eq_left', decide_true, decide_false, if_true, if_false, reduceCtorEq, cond_true, cond_false, c6, c1, c6', c1', cg1, cg2]
    have el : (E.length : Int) + 1 = (((e :: E).length : Nat) : Int) := by rw [List.length_cons]; omega
    rw [el] at m2d
    refine kk (drw w2) ⟨?_, ⟨f1, m2d, g2⟩, hmB, ⟨ML2, hmp2, lk2⟩, ?_, by rw [List.length_cons]; show E.length + 1 ≤ sz; omega, h64⟩ hc2.drw
    · show useK sz e.2 (E.map (·.2)) = _
      unfold useK
      rw [show (e.2 :: E.map (·.2) : List Ch) = (e :: E).map (·.2) from rfl, ← List.map_take, htk]
    · show (nums (useK sz e.2 (E.map (·.2)))).Nodup
      unfold useK
      rw [show (e.2 :: E.map (·.2) : List Ch) = (e :: E).map (·.2) from rfl, ← List.map_take, nums_map, htk]
      exact hnk
end
end Go.Proofs.YtongpnolikkknaaDoor

set_option maxRecDepth 20000
set_option maxHeartbeats 4000000
namespace Go.Proofs.YtongpnolikkknaaDoor
open Sh RowKit Go.MapKept
theorem buildP1 (n : Int) (s : ByteArray) (w : World) : (Instr.build 93 #[(0, .int .i64 n), (1, .string s)]).run Tryd.prog w = .ok (.agg #[.int .i64 n, .string s]) w := by
  kernel_rfl
theorem buildL1 (n : Int) (s : ByteArray) (w : World) : (Instr.build 95 #[(2, .agg #[.int .i64 n, .string s])]).run Tryd.prog w = .ok (.agg #[.pointer none, .pointer none, .int .i64 n, .string s]) w := by
  kernel_rfl
theorem buildCa (q mb : Nat) (n : Int) (w : World) : (Instr.build 99 #[(0, pv q), (1, .int .i64 n), (3, .map (some mb))]).run Tryd.prog w = .ok (.agg #[pv q, .int .i64 n, .pointer none, .pointer none, .int .i64 0, .string ⟨#[]⟩, .int .i64 0, .map (some mb), .int .i64 0, .int .i64 0]) w := by
  kernel_rfl
theorem filter_out {l1 l2 : List (Nat × Ch)} {e : Nat × Ch} (h : ((l1 ++ e :: l2).map (·.2.1)).Nodup) : (((l1 ++ e :: l2).map (·.2)).filter fun y => decide (y.1 ≠ e.2.1)) = (l1 ++ l2).map (·.2) := by
  rw [List.map_append, List.map_cons, List.filter_append, List.filter_cons_of_neg (by simp), List.map_append]
  rw [List.map_append, List.map_cons, List.nodup_append, List.nodup_cons] at h
  obtain ⟨_, ⟨h2, _⟩, h3⟩ := h
  congr 1
  · refine List.filter_eq_self.2 fun a ha => ?_
    obtain ⟨x, hx, rfl⟩ := List.mem_map.1 ha
    simp only [decide_eq_true_eq]
    exact fun hc => h3 x.2.1 (List.mem_map.2 ⟨x, hx, rfl⟩) e.2.1 (List.mem_cons_self ..) hc
  · refine List.filter_eq_self.2 fun a ha => ?_
    obtain ⟨x, hx, rfl⟩ := List.mem_map.1 ha
    simp only [decide_eq_true_eq]
    exact fun hc => h2 (List.mem_map.2 ⟨x, hx, hc⟩)
theorem fnd_skip {l1 l2 : List (Nat × Ch)} {e : Nat × Ch} {n : Int} (hn : n ≠ e.2.1) : fnd (l1 ++ e :: l2) n = fnd (l1 ++ l2) n := by
  rw [fnd_app, fnd_app, fnd_cons, if_neg (fun h => hn h.symm)]
section
variable {B : Nat} {W w w' : World} {c q mb : Nat} {sz : Nat} {h m n : Int} {f : Nd → Nd × Nd} {E : List (Nat × Ch)} {C : Ca} {L : List ByteArray} {p : Nat} {u st cc : Value} {Bp : Nat} {Q : Value → World → Prop}
theorem CaAt.cb (hc : CaAt B w c q mb C E) : ∃ f, w.heap[c]? = some (.cells (cCell c q C.sz E.length mb C.h C.m f) 99 (0, 0)) := by
  obtain ⟨f, hm, _⟩ := hc.rg
  exact ⟨f, hm.cb⟩
theorem f34_s (hc : CaAt B w c q mb C E) (kk : Q (.int .i64 C.h) w) : f34 (pv c) w Q := by
  obtain ⟨f, hb⟩ := hc.cb
  unfold f34
  rw [pn_eq ptK]
  have c8 : w.cell? ⟨c, 8, none⟩ = some (.int .i64 C.h) := by rw [cell_of_blk hb]; rfl
  try simp only [↓reduceIte, ↓LL, LM, Value.cells, Nat.reduceAdd, Option.some.injEq, exists_eq_left', decide_true, decide_false, if_true, if_false, reduceCtorEq, cond_true, cond_false, Option.isNone, c8]
  exact kk
theorem f35_s (hc : CaAt B w c q mb C E) (kk : Q (.int .i64 C.m) w) : f35 (pv c) w Q := by
  obtain ⟨f, hb⟩ := hc.cb
  unfold f35
  rw [pn_eq ptK]
  have c9 : w.cell? ⟨c, 9, none⟩ = some (.int .i64 C.m) := by rw [cell_of_blk hb]; rfl
  try simp only [↓reduceIte, ↓LL, LM, Value.cells, Nat.reduceAdd, Option.some.injEq, exists_eq_left', decide_true, decide_false, if_true, if_false, reduceCtorEq, cond_true, cond_false, Option.isNone, c9]
  exact kk
theorem f63_s (hc : CaAt B w c q mb C E) (hq : w.heap[q]? = some (.cells #[pv p, u, st, cc] 110 (0, 0))) (hu : ownV Bp 9 w u (L.map .string)) (kk : Q (.int .i64 (L.length : Nat)) w) : f63 (pv c) w Q := by
  obtain ⟨f, hb⟩ := hc.cb
  unfold f63
  rw [pn_eq ptK]
  have c0 : w.cell? ⟨c, 0, none⟩ = some (pv q) := by rw [cell_of_blk hb]; rfl
  try simp only [↓reduceIte, ↓LL, LM, Value.cells, Nat.reduceAdd, Option.some.injEq, exists_eq_left', decide_true, decide_false, if_true, if_false, reduceCtorEq, cond_true, cond_false, Option.isNone, c0]
  refine f46_s hq hu ?_
  try simp only [↓reduceIte, ↓LL, LM, Value.cells, Nat.reduceAdd, Option.some.injEq, exists_eq_left', decide_true, decide_false, if_true, if_false, reduceCtorEq, cond_true, cond_false]
  exact kk
theorem f32_s (hc : CaAt B w c q mb C E) (hq : w.heap[q]? = some (.cells #[pv p, u, st, cc] 110 (0, 0))) (hu : ownV Bp 9 w u (L.map .string)) (h0 : 0 ≤ C.h) (h1 : C.h ≤ 1000000) (m0 : 0 ≤ C.m) (m1 : C.m ≤ 1000000)
    (kk : ∀ w' E', CaAt B w' c q mb (rdC C L n).2 E' → ChgS (fpA c mb E) w w' → (∀ k, fpA c mb E' k → fpA c mb E k ∨ w.heap.size ≤ k) → Q (.tuple #[.string (rdC C L n).1.1, .int .i64 (rdC C L n).1.2]) w') : f32 (pv c) (.int .i64 n) w Q := by
  unfold f32
  rw [pn_eq ptK]
  obtain ⟨f, hm, hr⟩ := hc.rg
  obtain ⟨ML, hmp, hlk⟩ := hc.mp
  have hmne := hm.mne hmp
  have c7 : w.cell? ⟨c, 7, none⟩ = some (.map (some mb)) := by rw [cell_of_blk hm.cb]; rfl
  have hlook : ∀ (K : Value → M), smr Tryd.prog (Instr.lookup 90 (.map (some mb)) (.int .i64 n) true) K w Q = K (.tuple #[((fnd E n).map fun e => pv e.1).getD (.pointer none), .bool ((fnd E n).map fun e => pv e.1).isSome]) w Q := fun K => by
    rw [show (Value.int .i64 n) = kI n from rfl, look_ok (kv := kI) KKc hmp zC n, hlk n]
  have hKf : C.K.find? (fun x => decide (x.1 = n)) = (fnd E n).map (·.2) := by rw [hc.K, find_fnd]
  have hnn : (E.map (·.2.1)).Nodup := by have := hc.nk; rwa [hc.K, nums_map] at this
  have hl64 := hc.l64
  have hle := hc.le
  cases hf : fnd E n with
  | some e =>
    rw [hf] at hlook hKf
    obtain ⟨hemem, hen⟩ := fnd_mem hf
    obtain ⟨l1, l2, hE⟩ := List.append_of_mem hemem
    have eR : rdC C L n = ((e.2.2, 0), { C with K := useK C.sz e.2 (C.K.filter fun y => decide (y.1 ≠ n)), h := C.h + 1 }) := by unfold rdC; rw [hKf]; rfl
    rw [eR] at kk
    have hfil : (C.K.filter fun y => decide (y.1 ≠ n)) = (l1 ++ l2).map (·.2) := by
      rw [hc.K, hE, ← hen]
      rw [hE] at hnn
      exact filter_out hnn
    rw [hfil] at kk
    have c8 : w.cell? ⟨c, 8, none⟩ = some (.int .i64 C.h) := by rw [cell_of_blk hm.cb]; rfl
    have ew : IntKind.i64.wrap (C.h + 1) = C.h + 1 := w64 (by omega) (by omega)
    have g0 : (((some e).map fun e : Nat × Ch => pv e.1).getD (.pointer none)) = pv e.1 := rfl
    have g1 : ((some e).map fun e : Nat × Ch => pv e.1).isSome = true := rfl
    try simp only [↓reduceIte, ↓LL, LM, Value.cells, Nat.reduceAdd, Option.some.injEq, exists_eq_left', decide_true, decide_false, if_true, if_false, reduceCtorEq, cond_true, cond_false, Option.isNone, c7, hlook, g0, g1, get0, get1, c8, ew]
    refine hm.sI (h' := C.h + 1) (n' := E.length) (m' := C.m) (by decide) rfl fun w1 mm1 gg1 => ?_
    have s1 : ChgS (fpA c mb E) w w1 := gg1 _ fun k hk => .inl hk
    have nds3 : (none :: (nds l1 ++ some e.1 :: nds l2)).Nodup := by
      have : (nds l1 ++ some e.1 :: nds l2 : List Nd) = nds E := by rw [hE]; unfold nds; rw [List.map_append]; rfl
      rw [this]; exact nds_none hm.nd
    have hr' : Ring f (nds l1 ++ some e.1 :: nds l2) := by
      have : (nds l1 ++ some e.1 :: nds l2 : List Nd) = nds E := by rw [hE]; unfold nds; rw [List.map_append]; rfl
      rw [this]; exact hr
    obtain ⟨o1, o2, o3⟩ := ring_out hr' nds3
    have enl : (nds l1 ++ nds l2 : List Nd) = nds (l1 ++ l2) := by unfold nds; rw [List.map_append]
    rw [enl] at o1 o2 o3
    have hsub : (l1 ++ l2).Sublist E := by rw [hE]; exact List.Sublist.append_left (List.sublist_cons_self ..) _
    have sub : ∀ y : Nd, y ∈ none :: nds (l1 ++ l2) → InE E y := fun y hy => by
      rcases inE_of hy with h | ⟨a, ha, h⟩
      · exact .inl h
      · exact .inr ⟨a, hsub.subset ha, h⟩
    try simp only [↓reduceIte, ↓LL, LM, Value.cells, Nat.reduceAdd, Option.some.injEq, exists_eq_left', decide_true, decide_false, if_true, if_false, reduceCtorEq, cond_true, cond_false]
    refine f65_s (e := e) mm1 hemem (sub _ o1) (sub _ o2) (by omega) (by omega) fun w2 mm2 hc2 => ?_
    generalize setP (setN f (f (some e.1)).1 (f (some e.1)).2) (f (some e.1)).2 (f (some e.1)).1 = f2 at *
    have s2 : ChgS (fpA c mb E) w w2 := s1.trans (hc2.mono fun k hk => .inl hk) fun _ _ h => h
    have ss2 : ChgS (fpM c E) w w2 := (gg1 _ fun _ h => h).trans hc2 fun _ _ h => h
    have hmp2 : MapAt kI w2 mb ML := hmp.stay (ss2.block mb hmp.lt fun hk => hmne mb hk rfl)
    have hblk := mm2.lk e hemem
    have el : (E.length : Int) - 1 = (((l1 ++ l2).length : Nat) : Int) := by rw [hE]; simp only [List.length_append, List.length_cons]; omega
    rw [el] at mm2
    have hndE : ((l1 ++ e :: l2).map (·.1)).Nodup := by rw [← hE]; exact hm.nd
    have hne : e.1 ∉ (l1 ++ l2).map (·.1) := by
      rw [List.map_append, List.map_cons, List.nodup_append, List.nodup_cons] at hndE
      obtain ⟨_, ⟨h2, _⟩, h3⟩ := hndE
      rw [List.map_append, List.mem_append]
      rintro (hx | hx)
      · exact h3 _ hx _ (List.mem_cons_self ..) rfl
      · exact h2 hx
    have hperm : (e :: (l1 ++ l2)).Perm E := by rw [hE]; exact List.perm_middle.symm
    try simp only [↓reduceIte, ↓LL, LM, Value.cells, Nat.reduceAdd, Option.some.injEq, exists_eq_left', decide_true, decide_false, if_true, if_false, reduceCtorEq, cond_true, cond_false]
    refine f66_s (e := e) (mm2.sub hsub) o3 hne (hm.eB e hemem) hblk hc.mB hmp2 (fun n' hn' => by rw [hlk n', hE, fnd_skip hn']) (by have := hperm.length_eq; rw [List.length_cons] at this; omega) hl64 (((hperm.map _).nodup_iff).2 hnn) fun w3 ca3 hc3 => ?_
    have hlen : (e :: (l1 ++ l2)).length ≤ C.sz := by rw [hperm.length_eq]; exact hle
    rw [List.take_of_length_le hlen] at ca3
    obtain ⟨f3, mm3, _⟩ := ca3.rg
    have c3 : w3.cell? ⟨e.1, 3, none⟩ = some (.string e.2.2) := by rw [cell_of_blk (mm3.lk e (List.mem_cons_self ..))]; rfl
    have hfp : ∀ k, fpA c mb (e :: (l1 ++ l2)) k → fpA c mb E k := by
      rintro k ((rfl | ⟨a, ha, rfl⟩) | rfl)
      · exact .inl (.inl rfl)
      · exact .inl (.inr ⟨a, hperm.mem_iff.1 ha, rfl⟩)
      · exact .inr rfl
    try simp only [↓reduceIte, ↓LL, LM, Value.cells, Nat.reduceAdd, Option.some.injEq, exists_eq_left', decide_true, decide_false, if_true, if_false, reduceCtorEq, cond_true, cond_false, c3]
    exact kk w3 _ ca3 (s2.trans (hc3.mono hfp) fun _ _ h => h) fun k hk => .inl (hfp k hk)
  | none =>
    rw [hf] at hlook hKf
    have g1 : ((none : Option (Nat × Ch)).map fun e => pv e.1).isSome = false := rfl
    have c0 : w.cell? ⟨c, 0, none⟩ = some (pv q) := by rw [cell_of_blk hm.cb]; rfl
    have c9 : w.cell? ⟨c, 9, none⟩ = some (.int .i64 C.m) := by rw [cell_of_blk hm.cb]; rfl
    have ew : IntKind.i64.wrap (C.m + 1) = C.m + 1 := w64 (by omega) (by omega)
    have eR : rdC C L n = if (pgR L n).2 = 0 then (((pgR L n).1, 0), { C with K := useK C.sz (n, (pgR L n).1) C.K, m := C.m + 1 }) else ((⟨#[]⟩, (pgR L n).2), C) := by unfold rdC; rw [hKf]; rfl
    try simp only [↓reduceIte, ↓LL, LM, Value.cells, Nat.reduceAdd, Option.some.injEq, exists_eq_left', decide_true, decide_false, if_true, if_false, reduceCtorEq, cond_true, cond_false, Option.isNone, c7, hlook, g1, get0, get1, c0]
    refine f44_s hq hu ?_
    by_cases cz : (pgR L n).2 = 0
    · rw [if_pos cz] at eR
      rw [eR] at kk
      generalize (pgR L n).1 = s at *
      try simp only [↓reduceIte, ↓LL, LM, Value.cells, Nat.reduceAdd, Option.some.injEq, exists_eq_left', decide_true, decide_false, if_true, if_false, reduceCtorEq, cond_true, cond_false, get0, get1, ne_eq, cz, c9, ew]
      refine hm.sI (h' := C.h) (n' := E.length) (m' := C.m + 1) (by decide) rfl fun w1 mm1 gg1 => ?_
      try simp only [↓reduceIte, ↓LL, LM, Value.cells, Nat.reduceAdd, Option.some.injEq, exists_eq_left', decide_true, decide_false, if_true, if_false, reduceCtorEq, cond_true, cond_false]
      rw [smr_run (buildP1 n s w1)]
      try simp only [↓reduceIte, ↓LL, LM, Value.cells, Nat.reduceAdd, Option.some.injEq, exists_eq_left', decide_true, decide_false, if_true, if_false, reduceCtorEq, cond_true, cond_false]
      rw [smr_run (buildL1 n s w1)]
      have b2 := b_psh w1 (.cells #[.pointer none, .pointer none, .int .i64 n, .string s] 95)
      have k2 := blk_psh_new (w := w1) (o := .cells #[.pointer none, .pointer none, .int .i64 n, .string s] 95)
      try simp only [↓reduceIte, ↓LL, LM, Value.cells, Nat.reduceAdd, Option.some.injEq, exists_eq_left', decide_true, decide_false, if_true, if_false, reduceCtorEq, cond_true, cond_false]
      generalize psh w1 (.cells #[.pointer none, .pointer none, .int .i64 n, .string s] 95) = w2 at *
      have ss1 : ChgS (fpM c E) w w1 := gg1 _ fun _ h => h
      have s1 : ChgS (fpA c mb E) w w1 := gg1 _ fun k hk => .inl hk
      have z1 : w.heap.size ≤ w1.heap.size := ss1.size
      have hmp2 : MapAt kI w2 mb ML := (hmp.stay (ss1.block mb hmp.lt fun hk => hmne mb hk rfl)).below b2
      have mm2 := mm1.below b2
      have hlt := hm.lt
      have hnew : w1.heap.size ∉ E.map (·.1) := fun hx => by
        obtain ⟨a, ha, hx⟩ := List.mem_map.1 hx
        have := hlt a.1 (.inr ⟨a, ha, rfl⟩)
        omega
      have hcB : B ≤ w.heap.size := Nat.le_trans hm.cB (Nat.le_of_lt (hlt c (.inl rfl)))
      have hnot : n ∉ E.map (·.2.1) := by
        intro hx
        obtain ⟨a, ha, hx⟩ := List.mem_map.1 hx
        have := List.find?_eq_none.1 hf a ha
        simp only [decide_eq_true_eq] at this
        exact this hx
      refine f66_s (e := (w1.heap.size, (n, s))) mm2 hr hnew (Nat.le_trans hcB z1) k2 hc.mB hmp2 (fun n' hn' => hlk n') hle hl64 (List.nodup_cons.2 ⟨hnot, hnn⟩) fun w3 ca3 hc3 => ?_
      try simp only [↓reduceIte, ↓LL, LM, Value.cells, Nat.reduceAdd, Option.some.injEq, exists_eq_left', decide_true, decide_false, if_true, if_false, reduceCtorEq, cond_true, cond_false]
      rw [← hc.K] at ca3
      refine kk w3 _ ca3 ((s1.trans (ChgS.of_below b2) fun _ _ h => h).trans hc3 fun k hk h => ?_) fun k hk => ?_
      · rcases h with (rfl | ⟨a, ha, rfl⟩) | rfl
        · exact .inl (.inl rfl)
        · rcases List.mem_cons.1 ha with rfl | ha
          · exfalso
            have hk : w1.heap.size < w.heap.size := hk
            omega
          · exact .inl (.inr ⟨a, ha, rfl⟩)
        · exact .inr rfl
      · rcases hk with (rfl | ⟨a, ha, rfl⟩) | rfl
        · exact .inl (.inl (.inl rfl))
        · rcases List.mem_cons.1 (List.mem_of_mem_take ha) with rfl | ha
          · exact .inr z1
          · exact .inl (.inl (.inr ⟨a, ha, rfl⟩))
        · exact .inl (.inr rfl)
    · rw [if_neg cz] at eR
      rw [eR] at kk
      try simp only [↓reduceIte, ↓LL, LM, Value.cells, Nat.reduceAdd, Option.some.injEq, exists_eq_left', decide_true, decide_false, if_true, if_false, reduceCtorEq, cond_true, cond_false, get0, get1, ne_eq, cz]
      exact kk w E hc (ChgS.refl _ _) fun k hk => .inl hk
end
end Go.Proofs.YtongpnolikkknaaDoor

set_option maxRecDepth 20000
set_option maxHeartbeats 4000000
namespace Go.Proofs.YtongpnolikkknaaDoor
open Sh RowKit Go.MapKept
def szN (n : Int) : Nat := (min (max n 0) 64).toNat
theorem szN_64 (n : Int) : szN n ≤ 64 := by unfold szN; omega
section
variable {B : Nat} {W w w' : World} {c q mb : Nat} {sz : Nat} {h m n : Int} {f : Nd → Nd × Nd} {E : List (Nat × Ch)} {C : Ca} {L : List ByteArray} {p : Nat} {u st cc : Value} {Bp : Nat} {Q : Value → World → Prop}
theorem f64_s {x : Int} {va vb : Value} (hb : w.heap[c]? = some (.cells #[pv q, .int .i64 x, va, vb, .int .i64 0, .string ⟨#[]⟩, .int .i64 0, .map (some mb), .int .i64 0, .int .i64 0] 99 (0, 0)))
    (kk : ∀ w', w'.heap[c]? = some (.cells (cCell c q x 0 mb 0 0 fun _ => (none, none)) 99 (0, 0)) → ChgS (fun k => k = c) w w' → Q (.tuple #[]) w') : f64 (.pointer (some ⟨c, 2, none⟩)) w Q := by
  unfold f64
  try simp only [↓reduceIte, ↓LL, LM, Value.cells, Nat.reduceAdd, Option.some.injEq, exists_eq_left', decide_true, decide_false, if_true, if_false, reduceCtorEq, cond_true, cond_false]
  refine st_box (w := drw w) (o := 2) (v := Pp c none) (show (drw w).heap[c]? = _ from hb) (by show 2 < 10; decide) rfl fun w1 h1 u1 => ?_
  try simp only [↓reduceIte, ↓LL, LM, Value.cells, Nat.reduceAdd, Option.some.injEq, exists_eq_left', decide_true, decide_false, if_true, if_false, reduceCtorEq, cond_true, cond_false]
  refine st_box (o := 3) (v := Pp c none) h1 (by show 3 < 10; decide) rfl fun w2 h2 u2 => ?_
  try simp only [↓reduceIte, ↓LL, LM, Value.cells, Nat.reduceAdd, Option.some.injEq, exists_eq_left', decide_true, decide_false, if_true, if_false, reduceCtorEq, cond_true, cond_false]
  refine kk w2 h2 ?_
  have s1 : ChgS (fun k => k = c) (drw w) w1 := ChgS.of_upd u1 rfl
  exact (s1.trans (ChgS.of_upd u2 (S := fun k => k = c) rfl) fun _ _ h => h).of_drw
theorem f30_s {n : Int} (kk : ∀ w' c mb, w.heap.size ≤ c → w.heap.size ≤ mb → CaAt w.heap.size w' c q mb ⟨szN n, [], 0, 0⟩ [] → Below w.heap.size w w' → Q (pv c) w') : f30 (pv q) (.int .i64 n) w Q := by
  unfold f30
  rw [pn_eq pt49]
  try simp only [↓reduceIte, ↓LL, LM, Value.cells, Nat.reduceAdd, Option.some.injEq, exists_eq_left', decide_true, decide_false, if_true, if_false, reduceCtorEq, cond_true, cond_false, Option.isNone]
  have e : (if (64 : Int) < (if n < 0 then 0 else n) then 64 else (if n < 0 then 0 else n)) = ((szN n : Nat) : Int) := by unfold szN; omega
  rw [e]
  refine mm_map (kv := kI) fun w1 hm1 b1 => ?_
  try simp only [↓reduceIte, ↓LL, LM, Value.cells, Nat.reduceAdd, Option.some.injEq, exists_eq_left', decide_true, decide_false, if_true, if_false, reduceCtorEq, cond_true, cond_false]
  rw [smr_run (buildCa q w.heap.size _ w1)]
  have b2 := b_psh w1 (.cells #[pv q, .int .i64 ((szN n : Nat) : Int), .pointer none, .pointer none, .int .i64 0, .string ⟨#[]⟩, .int .i64 0, .map (some w.heap.size), .int .i64 0, .int .i64 0] 99)
  have k2 := blk_psh_new (w := w1) (o := .cells #[pv q, .int .i64 ((szN n : Nat) : Int), .pointer none, .pointer none, .int .i64 0, .string ⟨#[]⟩, .int .i64 0, .map (some w.heap.size), .int .i64 0, .int .i64 0] 99)
  try simp only [↓reduceIte, ↓LL, LM, Value.cells, Nat.reduceAdd, Option.some.injEq, exists_eq_left', decide_true, decide_false, if_true, if_false, reduceCtorEq, cond_true, cond_false]
  generalize psh w1 (.cells #[pv q, .int .i64 ((szN n : Nat) : Int), .pointer none, .pointer none, .int .i64 0, .string ⟨#[]⟩, .int .i64 0, .map (some w.heap.size), .int .i64 0, .int .i64 0] 99) = w2 at *
  have hm2 : MapAt kI w2 w.heap.size ([] : List (Int × Value)) := hm1.below b2
  have z1 : w.heap.size ≤ w1.heap.size := b1.size
  have zc : w1.heap.size ≠ w.heap.size := by have := hm1.lt; omega
  refine f64_s k2 fun w3 h3 hc3 => ?_
  try simp only [↓reduceIte, ↓LL, LM, Value.cells, Nat.reduceAdd, Option.some.injEq, exists_eq_left', decide_true, decide_false, if_true, if_false, reduceCtorEq, cond_true, cond_false]
  refine kk w3 w1.heap.size w.heap.size z1 (Nat.le_refl _) ⟨rfl, ⟨fun _ => (none, none), ⟨z1, fun e he => by simp at he, h3, fun e he => by simp at he, List.nodup_nil⟩, ?_⟩, Nat.le_refl _, ⟨[], hm2.stay (hc3.block _ hm2.lt fun h => zc h.symm), fun n => rfl⟩, List.nodup_nil, Nat.zero_le _, szN_64 n⟩ ((bt b1 b2).trans (hc3.below (fun k hk => by rw [hk]; exact z1) (bt b1 b2).size))
  intro p hp
  have hp : p ∈ [((none : Nd), (none : Nd))] := hp
  rw [List.mem_singleton.1 hp]
  exact ⟨rfl, rfl⟩
theorem kept_loop (hm : Mm B W c q sz n mb h m f E) (hr : Ring f (nds E)) (hE : E.length ≤ 1000) : ∀ (l2 l1 : List (Nat × Ch)) (k : Nat) (w : World) (v : Value) (x : Nd) (r : List Nd), E = l1 ++ l2 → nds l2 ++ [none] = x :: r → l2.length < k → Below W.heap.size W w → ownI W.heap.size 3 .i64 w v (l1.map (·.2.1)) →
    (∀ w' v', Below W.heap.size W w' → ownI W.heap.size 3 .i64 w' v' (E.map (·.2.1)) → Q v' w') →
    itr (fun _ _ _ => bot) (f33_b2 f33_j1) k (pv c) v (Pp c x) w Q := by
  obtain ⟨j, hj, hsz⟩ := Option.map_eq_some_iff.1 infL
  have hsz0 : j.size ≠ 0 := by omega
  intro l2
  induction l2 with
  | nil =>
    intro l1 k w v x r hE2 hx hk hb ho kk
    obtain ⟨k, rfl⟩ : ∃ x, k = x + 1 := ⟨k - 1, by omega⟩
    show f33_b2 f33_j1 _ _ _ _ w Q
    unfold f33_b2
    have hx0 : x = none := by
      have : (none : Nd) :: [] = x :: r := hx
      exact (List.cons.inj this).1.symm
    subst hx0
    have hcb := (hm.below hb).cb
    have hne : ∀ (K : Value → M) (x y : Operand), smr Tryd.prog (do eqGuard .neq 91 x y (.pointer (some ⟨c, 2, none⟩)) (.pointer (some ⟨c, 2, none⟩)); binOp .neq 91 (.pointer (some ⟨c, 2, none⟩)) (.pointer (some ⟨c, 2, none⟩))) K w Q = K (.bool false) w Q := fun K x y => by
      rw [ptr_ne (a := ⟨c, 2, none⟩) (b := ⟨c, 2, none⟩) ptL hj hsz0 hcb hcb]; simp
    have ep : Pp c none = .pointer (some ⟨c, 2, none⟩) := rfl
    rw [ep]
    try simp only [↓reduceIte, ↓LL, LM, Value.cells, Nat.reduceAdd, Option.some.injEq, exists_eq_left', decide_true, decide_false, if_true, if_false, reduceCtorEq, cond_true, cond_false, hne]
    unfold f33_j1
    try simp only [↓reduceIte, ↓LL, LM, Value.cells, Nat.reduceAdd, Option.some.injEq, exists_eq_left', decide_true, decide_false, if_true, if_false, reduceCtorEq, cond_true, cond_false]
    rw [List.append_nil] at hE2
    rw [← hE2] at ho
    exact kk w v hb ho
  | cons z l2 ih =>
    intro l1 k w v x r hE2 hx hk hb ho kk
    rw [List.length_cons] at hk
    obtain ⟨k, rfl⟩ : ∃ x, k = x + 1 := ⟨k - 1, by omega⟩
    show f33_b2 f33_j1 _ _ _ _ w Q
    unfold f33_b2
    have hx0 : x = some z.1 := by
      have : some z.1 :: (nds l2 ++ [none]) = x :: r := hx
      exact (List.cons.inj this).1.symm
    subst hx0
    have hmw := hm.below hb
    have zmem : z ∈ E := by rw [hE2]; simp
    have hzc := hmw.lk z zmem
    have hne : ∀ (K : Value → M) (x y : Operand), smr Tryd.prog (do eqGuard .neq 91 x y (.pointer (some ⟨z.1, 0, none⟩)) (.pointer (some ⟨c, 2, none⟩)); binOp .neq 91 (.pointer (some ⟨z.1, 0, none⟩)) (.pointer (some ⟨c, 2, none⟩))) K w Q = K (.bool true) w Q := fun K x y => by
      rw [ptr_ne (a := ⟨z.1, 0, none⟩) (b := ⟨c, 2, none⟩) ptL hj hsz0 hzc hmw.cb]; simp
    have ep : Pp c (some z.1) = .pointer (some ⟨z.1, 0, none⟩) := rfl
    have c2 : w.cell? ⟨z.1, 2, none⟩ = some (.int .i64 z.2.1) := by rw [cell_of_blk hzc]; rfl
    have hlen : (l1.map (·.2.1)).length ≤ 1000 := by
      rw [List.length_map]
      have := congrArg List.length hE2
      rw [List.length_append] at this
      omega
    rw [ep]
    try simp only [↓reduceIte, ↓LL, LM, Value.cells, Nat.reduceAdd, Option.some.injEq, exists_eq_left', decide_true, decide_false, if_true, if_false, reduceCtorEq, cond_true, cond_false, hne, c2]
    refine ap_one slI ho (by omega) (by omega) hb.size fun v2 w2 o2 b2 _ _ => ?_
    have hb2 := hb.trans b2
    have hmw2 := hm.below hb2
    obtain ⟨x', r', hx', _⟩ := tail_split (nds l2)
    have hr' : Ring f (nds l1 ++ some z.1 :: nds l2) := by
      have : (nds l1 ++ some z.1 :: nds l2 : List Nd) = nds E := by rw [hE2]; unfold nds; rw [List.map_append]; rfl
      rw [this]; exact hr
    have hnx := (ring_at hr').2 x' r' hx'
    have c1 : w2.cell? ⟨z.1, 1, none⟩ = some (Pp c x') := by
      have := hmw2.gN (y := some z.1) (.inr ⟨z, zmem, rfl⟩)
      rw [hnx] at this
      exact this
    try simp only [↓reduceIte, ↓LL, LM, Value.cells, Nat.reduceAdd, Option.some.injEq, exists_eq_left', decide_true, decide_false, if_true, if_false, reduceCtorEq, cond_true, cond_false, c1]
    refine ih (l1 ++ [z]) k w2 v2 x' r' (by rw [hE2, List.append_assoc]; rfl) hx' (by omega) hb2 ?_ kk
    rw [List.map_append]
    exact o2
theorem f33_s (hc : CaAt B w c q mb C E) (kk : ∀ w' v', Below w.heap.size w w' → ownI w.heap.size 3 .i64 w' v' (nums C.K) → Q v' w') : f33 (pv c) w Q := by
  unfold f33
  rw [pn_eq ptK]
  obtain ⟨f, hm, hr⟩ := hc.rg
  have hle := hc.le
  have h64 := hc.l64
  obtain ⟨x, r, hx, _⟩ := tail_split (nds E)
  have hn := ring_head hr x r hx
  have c3 : w.cell? ⟨c, 3, none⟩ = some (Pp c x) := by
    have := hm.gN (y := none) (.inl rfl)
    rw [hn] at this
    exact this
  try simp only [↓reduceIte, ↓LL, LM, Value.cells, Nat.reduceAdd, Option.some.injEq, exists_eq_left', decide_true, decide_false, if_true, if_false, reduceCtorEq, cond_true, cond_false, Option.isNone, c3]
  refine ⟨_, kept_loop (W := w) hm hr (by omega) E [] (E.length + 1) w _ x r rfl hx (by omega) (Below.refl _ _) (ownI_nil) fun w' v' hb ho => kk w' v' hb ?_⟩
  rw [hc.K, nums_map]
  exact ho
theorem f31_s {n : Nat} (h1 : 1 ≤ n) (h2 : n ≤ 160) (kk : ∀ w' q p b v u, PgAt w.heap.size w' q p b v u ⟨List.replicate n (zs 256), false, 0⟩ (newD (126 + 4 * n)) → Below w.heap.size w w' → Q (pv q) w') : f31 (.int .i64 ((n : Nat) : Int)) w Q := by
  unfold f31
  refine f22_s ⟨by omega, by omega⟩ ?_
  try simp only [↓reduceIte, ↓LL, LM, Value.cells, Nat.reduceAdd, Option.some.injEq, exists_eq_left', decide_true, decide_false, if_true, if_false, reduceCtorEq, cond_true, cond_false]
  refine f37_s (B := w.heap.size) (126 + 4 * ((n : Nat) : Int)) (k := 126 + 4 * n) (by omega) (Nat.le_refl _) fun w2 p v b pw bw hd hf b2 => ?_
  try simp only [↓reduceIte, ↓LL, LM, Value.cells, Nat.reduceAdd, Option.some.injEq, exists_eq_left', decide_true, decide_false, if_true, if_false, reduceCtorEq, cond_true, cond_false]
  refine open_at (B0 := w.heap.size) hd (Int.le_refl 0) (by show (0 + 200 : Int) ≤ 1000000; decide) (Nat.le_refl _) b2.size (open_new (m := n) (N := 126 + 4 * n) (by omega) (by omega) (by omega)) fun w3 q u q3 h3 _ _ hc3 => ?_
  have b3 := bs b2 (fpD_B hd) b2.size hc3
  try simp only [↓reduceIte, ↓LL, LM, Value.cells, Nat.reduceAdd, Option.some.injEq, exists_eq_left', decide_true, decide_false, if_true, if_false, reduceCtorEq, cond_true, cond_false, get0, get1, ne_eq]
  exact kk w3 q p b v u h3 b3
end
end Go.Proofs.YtongpnolikkknaaDoor
