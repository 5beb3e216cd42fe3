/- A heap in a list: up, down, fix, remove; plain lists, no program. -/
import Derived.Test.YtpjffilejnemmaaSh19
set_option linter.unusedVariables false
set_option linter.unusedSimpArgs false
set_option linter.unusedSectionVars false
namespace Go.Proofs.Ytpjffilejnemmaa
namespace Sh
namespace Hp
/-- a strict order in which unlike ones may stand alike -/
structure Ord {α : Type} (lt : α → α → Bool) : Prop where
  asym : ∀ a b, lt a b = true → lt b a = false
  ntr : ∀ a b c, lt b a = false → lt c b = false → lt c a = false
section
variable {α : Type} [Inhabited α] {lt : α → α → Bool}
def g (l : List α) (i : Nat) : α := l.getD i default
def swap (l : List α) (i j : Nat) : List α := (l.set i (g l j)).set j (g l i)
theorem swap_len (l : List α) (i j : Nat) : (swap l i j).length = l.length := by simp [swap]
theorem g_set {l : List α} {i j : Nat} {x : α} (hi : i < l.length) : g (l.set i x) j = if i = j then x else g l j := by
  unfold g
  rw [List.getD_eq_getElem?_getD, List.getD_eq_getElem?_getD, List.getElem?_set]
  by_cases h : i = j
  · subst h; simp [hi]
  · simp [h]
theorem g_swap {l : List α} {i j k : Nat} (hi : i < l.length) (hj : j < l.length) : g (swap l i j) k = if k = j then g l i else if k = i then g l j else g l k := by
  unfold swap
  rw [g_set (by simpa using hj), g_set hi]
  by_cases h1 : k = j
  · simp [h1]
  · by_cases h2 : k = i
    · subst h2
      rw [if_neg (Ne.symm h1), if_pos rfl, if_neg h1]
    · simp [h1, h2, Ne.symm h1, Ne.symm h2]
theorem g_get {l : List α} {i : Nat} (h : i < l.length) : g l i = l[i] := by simp [g, h]
theorem swap_perm {l : List α} {i j : Nat} (hi : i < l.length) (hj : j < l.length) : (swap l i j).Perm l := by
  unfold swap
  rw [g_get hi, g_get hj]
  exact List.set_set_perm hi hj
def par (k : Nat) : Nat := (k - 1) / 2
def le (lt : α → α → Bool) (l : List α) (i j : Nat) : Prop := lt (g l j) (g l i) = false
/-- the first n are a heap -/
def HP (lt : α → α → Bool) (l : List α) (n : Nat) : Prop := ∀ k, 0 < k → k < n → le lt l (par k) k
def upI (lt : α → α → Bool) (l : List α) (n j : Nat) : Prop := (∀ k, 0 < k → k < n → k ≠ j → le lt l (par k) k) ∧ (∀ c, 0 < c → c < n → par c = j → 0 < j → le lt l (par j) c)
theorem le_trans' (O : Ord lt) {l : List α} {a b c : Nat} (h1 : le lt l a b) (h2 : le lt l b c) : le lt l a c := O.ntr _ _ _ h1 h2
/-- upward -/
def up (lt : α → α → Bool) : Nat → List α → Nat → List α
  | 0, l, _ => l
  | m + 1, l, j => if par j = j ∨ lt (g l j) (g l (par j)) = false then l else up lt m (swap l (par j) j) (par j)
theorem up_spec (O : Ord lt) : ∀ (m : Nat) (l : List α) (n j : Nat), j < m → j < n → n ≤ l.length → upI lt l n j → HP lt (up lt m l j) n ∧ (up lt m l j).Perm l ∧ ∀ k, n ≤ k → g (up lt m l j) k = g l k := by
  intro m
  induction m with
  | zero => intro l n j h; omega
  | succ m ih =>
    intro l n j hm hj hn ⟨h1, h2⟩
    unfold up
    by_cases c : par j = j ∨ lt (g l j) (g l (par j)) = false
    · rw [if_pos c]
      refine ⟨fun k k0 kn => ?_, List.Perm.refl _, fun _ _ => rfl⟩
      by_cases e : k = j
      · subst e
        rcases c with c | c
        · unfold par at c; omega
        · exact c
      · exact h1 k k0 kn e
    · rw [if_neg c]
      have c1 : par j ≠ j := fun e => c (.inl e)
      have c2 : lt (g l j) (g l (par j)) = true := by
        cases h : lt (g l j) (g l (par j)) with
        | true => rfl
        | false => exact absurd (.inr h) c
      have j0 : 0 < j := by unfold par at c1; omega
      have hp : par j < j := by unfold par at c1 ⊢; omega
      have hpl : par j < l.length := by omega
      have hjl : j < l.length := by omega
      have key : upI lt (swap l (par j) j) n (par j) := by
        constructor
        · intro k k0 kn kp
          unfold le
          rw [g_swap hpl hjl, g_swap hpl hjl]
          by_cases kj : k = j
          · subst kj
            rw [if_pos rfl, if_neg (by omega), if_pos rfl]
            exact O.asym _ _ c2
          · rw [if_neg kj, if_neg kp]
            by_cases e1 : par k = j
            · rw [if_pos e1]
              exact h2 k k0 kn e1 j0
            · rw [if_neg e1]
              by_cases e2 : par k = par j
              · rw [if_pos e2]
                have := h1 k k0 kn kj
                unfold le at this
                rw [e2] at this
                exact O.ntr _ _ _ (O.asym _ _ c2) this
              · rw [if_neg e2]
                exact h1 k k0 kn kj
        · intro k k0 kn kp p0
          have hpp : par (par j) < par j := by unfold par at p0 ⊢; omega
          unfold le
          rw [g_swap hpl hjl, g_swap hpl hjl, if_neg (by omega : ¬ par (par j) = j), if_neg (by omega : ¬ par (par j) = par j)]
          have hpj := h1 (par j) p0 (by omega) (by omega)
          by_cases kj : k = j
          · subst kj
            rw [if_pos rfl]
            exact hpj
          · rw [if_neg kj, if_neg (by unfold par at kp; intro e; subst e; unfold par at kp p0; omega)]
            have := h1 k k0 kn kj
            rw [kp] at this
            exact O.ntr _ _ _ hpj this
      obtain ⟨i1, i2, i3⟩ := ih (swap l (par j) j) n (par j) (by omega) (by omega) (by rw [swap_len]; exact hn) key
      refine ⟨i1, i2.trans (swap_perm hpl hjl), fun k hk => ?_⟩
      rw [i3 k hk, g_swap hpl hjl, if_neg (by omega), if_neg (by omega)]
/-- the child to go on at -/
def kid (lt : α → α → Bool) (l : List α) (i n : Nat) : Nat := if 2 * i + 2 < n ∧ lt (g l (2 * i + 2)) (g l (2 * i + 1)) = true then 2 * i + 2 else 2 * i + 1
/-- downward: the list, and where it ended -/
def down (lt : α → α → Bool) : Nat → List α → Nat → Nat → List α × Nat
  | 0, l, i, _ => (l, i)
  | m + 1, l, i, n => if n ≤ 2 * i + 1 ∨ lt (g l (kid lt l i n)) (g l i) = false then (l, i) else down lt m (swap l i (kid lt l i n)) (kid lt l i n) n
def dnI (lt : α → α → Bool) (l : List α) (n i : Nat) : Prop := (∀ k, 0 < k → k < n → par k ≠ i → le lt l (par k) k) ∧ (∀ c, 0 < c → c < n → par c = i → 0 < i → le lt l (par i) c)
theorem kid_is (O : Ord lt) {l : List α} {i n : Nat} (h : 2 * i + 1 < n) : par (kid lt l i n) = i ∧ kid lt l i n < n ∧ i < kid lt l i n ∧ ∀ c, 0 < c → c < n → par c = i → le lt l (kid lt l i n) c := by
  unfold kid
  split
  · rename_i c
    refine ⟨by unfold par; omega, c.1, by omega, fun k k0 kn kp => ?_⟩
    have : k = 2 * i + 1 ∨ k = 2 * i + 2 := by unfold par at kp; omega
    rcases this with rfl | rfl
    · exact O.asym _ _ c.2
    · unfold le
      cases h : lt (g l (2 * i + 2)) (g l (2 * i + 2)) with
      | false => rfl
      | true => have := O.asym _ _ h; rw [h] at this; exact this
  · rename_i c
    refine ⟨by unfold par; omega, h, by omega, fun k k0 kn kp => ?_⟩
    have : k = 2 * i + 1 ∨ k = 2 * i + 2 := by unfold par at kp; omega
    rcases this with rfl | rfl
    · unfold le
      cases h : lt (g l (2 * i + 1)) (g l (2 * i + 1)) with
      | false => rfl
      | true => have := O.asym _ _ h; rw [h] at this; exact this
    · unfold le
      cases h : lt (g l (2 * i + 2)) (g l (2 * i + 1)) with
      | false => rfl
      | true => exact absurd ⟨kn, h⟩ c
/-- one step downward from a place whose parts are heaps, whatever stands there -/
theorem down_step (O : Ord lt) {l : List α} {i n : Nat} (hn : n ≤ l.length) (hi : i < n) (h1 : ∀ k, 0 < k → k < n → k ≠ i → par k ≠ i → le lt l (par k) k) (h2 : ∀ c, 0 < c → c < n → par c = i → 0 < i → le lt l (par i) c)
    (hc : 2 * i + 1 < n) (hlt : lt (g l (kid lt l i n)) (g l i) = true) : dnI lt (swap l i (kid lt l i n)) n (kid lt l i n) := by
  obtain ⟨k1, k2, k3, k4⟩ := kid_is (lt := lt) O (l := l) hc
  generalize kid lt l i n = j at *
  have hil : i < l.length := by omega
  have hjl : j < l.length := by omega
  constructor
  · intro k k0 kn kp
    unfold le
    rw [g_swap hil hjl, g_swap hil hjl, if_neg kp]
    by_cases kj : k = j
    · subst kj
      rw [if_pos rfl, if_pos k1]
      exact O.asym _ _ hlt
    · rw [if_neg kj]
      by_cases ki : k = i
      · subst ki
        rw [if_pos rfl, if_neg (by unfold par; omega)]
        exact h2 j (by omega) k2 k1 k0
      · rw [if_neg ki]
        by_cases e : par k = i
        · rw [if_pos e]
          exact k4 k k0 kn e
        · rw [if_neg e]
          exact h1 k k0 kn ki e
  · intro k k0 kn kp j0
    unfold le
    rw [g_swap hil hjl, g_swap hil hjl, if_neg (show ¬ k = j by unfold par at kp; omega), if_neg (show ¬ k = i by unfold par at kp; omega), if_neg (show ¬ par j = j by rw [k1]; omega), if_pos k1]
    have := h1 k k0 kn (by unfold par at kp; omega) (by omega)
    rw [kp] at this
    exact this
theorem down_spec (O : Ord lt) : ∀ (m : Nat) (l : List α) (n i : Nat), n ≤ i + m → i < n → n ≤ l.length → dnI lt l n i → HP lt (down lt m l i n).1 n ∧ (down lt m l i n).1.Perm l ∧ (∀ k, n ≤ k → g (down lt m l i n).1 k = g l k) ∧ i ≤ (down lt m l i n).2 := by
  intro m
  induction m with
  | zero => intro l n i h; omega
  | succ m ih =>
    intro l n i hm hi hn ⟨h1, h2⟩
    unfold down
    by_cases c : n ≤ 2 * i + 1 ∨ lt (g l (kid lt l i n)) (g l i) = false
    · rw [if_pos c]
      refine ⟨fun k k0 kn => ?_, List.Perm.refl _, fun _ _ => rfl, Nat.le_refl _⟩
      by_cases e : par k = i
      · rcases c with c | c
        · unfold par at e; omega
        · by_cases hc : 2 * i + 1 < n
          · rw [e]
            exact O.ntr _ _ _ c ((kid_is O hc).2.2.2 k k0 kn e)
          · unfold par at e; omega
      · exact h1 k k0 kn e
    · rw [if_neg c]
      have hc : 2 * i + 1 < n := by
        rcases Nat.lt_or_ge (2 * i + 1) n with h | h
        · exact h
        · exact absurd (.inl h) c
      have hlt : lt (g l (kid lt l i n)) (g l i) = true := by
        cases h : lt (g l (kid lt l i n)) (g l i) with
        | true => rfl
        | false => exact absurd (.inr h) c
      have st := down_step O hn hi (fun k a b _ d => h1 k a b d) h2 hc hlt
      obtain ⟨k1, k2, k3, k4⟩ := kid_is (lt := lt) O (l := l) hc
      obtain ⟨i1, i2, i3, i4⟩ := ih _ n (kid lt l i n) (by omega) k2 (by rw [swap_len]; exact hn) st
      refine ⟨i1, i2.trans (swap_perm (by omega) (by omega)), fun k hk => ?_, by omega⟩
      rw [i3 k hk, g_swap (by omega) (by omega), if_neg (by omega), if_neg (by omega)]
/-- whatever stands at i: fixed -/
def fix (lt : α → α → Bool) (l : List α) (i n : Nat) : List α := if (down lt (n - i) l i n).2 = i then up lt (i + 1) (down lt (n - i) l i n).1 i else (down lt (n - i) l i n).1
theorem fix_spec (O : Ord lt) {l : List α} {i n : Nat} (hn : n ≤ l.length) (hi : i < n) (h1 : ∀ k, 0 < k → k < n → k ≠ i → par k ≠ i → le lt l (par k) k) (h2 : ∀ c, 0 < c → c < n → par c = i → 0 < i → le lt l (par i) c) :
    HP lt (fix lt l i n) n ∧ (fix lt l i n).Perm l ∧ ∀ k, n ≤ k → g (fix lt l i n) k = g l k := by
  unfold fix
  obtain ⟨m, hm⟩ : ∃ m, n - i = m + 1 := ⟨n - i - 1, by omega⟩
  rw [hm]
  unfold down
  by_cases c : n ≤ 2 * i + 1 ∨ lt (g l (kid lt l i n)) (g l i) = false
  · rw [if_pos c, if_pos rfl]
    refine up_spec O (i + 1) l n i (by omega) hi hn ⟨fun k k0 kn ki => ?_, h2⟩
    by_cases e : par k = i
    · rcases c with c | c
      · unfold par at e; omega
      · by_cases hc : 2 * i + 1 < n
        · rw [e]
          exact O.ntr _ _ _ c ((kid_is O hc).2.2.2 k k0 kn e)
        · unfold par at e; omega
    · exact h1 k k0 kn ki e
  · rw [if_neg c]
    have hc : 2 * i + 1 < n := by
      rcases Nat.lt_or_ge (2 * i + 1) n with h | h
      · exact h
      · exact absurd (.inl h) c
    have hlt : lt (g l (kid lt l i n)) (g l i) = true := by
      cases h : lt (g l (kid lt l i n)) (g l i) with
      | true => rfl
      | false => exact absurd (.inr h) c
    have st := down_step O hn hi h1 h2 hc hlt
    obtain ⟨k1, k2, k3, k4⟩ := kid_is (lt := lt) O (l := l) hc
    obtain ⟨i1, i2, i3, i4⟩ := down_spec O m _ n (kid lt l i n) (by omega) k2 (by rw [swap_len]; exact hn) st
    rw [if_neg (by omega)]
    refine ⟨i1, i2.trans (swap_perm (by omega) (by omega)), fun k hk => ?_⟩
    rw [i3 k hk, g_swap (by omega) (by omega), if_neg (by omega), if_neg (by omega)]
/-- the first of a heap is a least one -/
theorem first (O : Ord lt) {l : List α} {n : Nat} (h : HP lt l n) : ∀ k, k < n → le lt l 0 k := by
  intro k
  induction k using Nat.strongRecOn with
  | _ k ih =>
    intro kn
    by_cases k0 : k = 0
    · subst k0
      unfold le
      cases hh : lt (g l 0) (g l 0) with
      | false => rfl
      | true => have := O.asym _ _ hh; rw [hh] at this; exact this
    · have hp : par k < k := by unfold par; omega
      exact le_trans' O (ih _ hp (by omega)) (h k (by omega) kn)
theorem HP.mono {l : List α} {n m : Nat} (h : HP lt l n) (hm : m ≤ n) : HP lt l m := fun k a b => h k a (by omega)
end
end Hp
end Sh
end Go.Proofs.Ytpjffilejnemmaa
