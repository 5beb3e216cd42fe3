/- Rows of times and numbers in order; what a heap of timers is to them. Plain lists. -/
import Derived.Test.YtpjffilejnemmaaT3
set_option linter.unusedVariables false
set_option linter.unusedSimpArgs false
set_option linter.unusedSectionVars false
namespace Go.Proofs.Ytpjffilejnemmaa
open Sh RowKit Go.MapKept

abbrev Pr := Int × Int
def kp (t : Tm) : Pr := (t.till, t.id)
def ltP (a b : Pr) : Prop := a.1 < b.1 ∨ (a.1 = b.1 ∧ a.2 < b.2)
instance (a b : Pr) : Decidable (ltP a b) := by unfold ltP; exact inferInstance
/-- a pair among others in order -/
def ins (x : Pr) : List Pr → List Pr
  | [] => [x]
  | y :: r => if ltP y x then y :: ins x r else x :: y :: r
def rm (R : List Pr) (id : Int) : List Pr := R.filter (fun y => decide (y.2 ≠ id))
def Srt (R : List Pr) : Prop := R.Pairwise ltP ∧ (R.map (·.2)).Nodup
theorem ltP_trans {a b c : Pr} (h1 : ltP a b) (h2 : ltP b c) : ltP a c := by unfold ltP at *; omega
theorem ltP_asym {a b : Pr} (h1 : ltP a b) (h2 : ltP b a) : False := by unfold ltP at *; omega
theorem ins_perm (x : Pr) : ∀ R, (ins x R).Perm (x :: R)
  | [] => List.Perm.refl _
  | y :: r => by
    unfold ins
    split
    · exact ((ins_perm x r).cons y).trans (List.Perm.swap x y r)
    · exact List.Perm.refl _
theorem rm_sorted {R : List Pr} (h : Srt R) (id : Int) : Srt (rm R id) := ⟨h.1.filter _, h.2.sublist (List.Sublist.map _ List.filter_sublist)⟩
theorem ins_sorted {R : List Pr} {x : Pr} (h : Srt R) (hx : ∀ y ∈ R, y.2 ≠ x.2) : Srt (ins x R) := by
  constructor
  · have : ∀ (R : List Pr), R.Pairwise ltP → (∀ y ∈ R, y.2 ≠ x.2) → (ins x R).Pairwise ltP := by
      intro R
      induction R with
      | nil => intro _ _; simp [ins]
      | cons y r ih =>
        intro hp hn
        unfold ins
        rw [List.pairwise_cons] at hp
        split
        · rename_i c
          rw [List.pairwise_cons]
          refine ⟨fun z hz => ?_, ih hp.2 (fun z hz => hn z (List.mem_cons_of_mem _ hz))⟩
          rcases List.mem_cons.1 ((ins_perm x r).mem_iff.1 hz) with rfl | hz
          · exact c
          · exact hp.1 z hz
        · rename_i c
          have hxy : ltP x y := by
            have := hn y (by simp)
            unfold ltP at *
            omega
          rw [List.pairwise_cons]
          refine ⟨fun z hz => ?_, List.pairwise_cons.2 hp⟩
          rcases List.mem_cons.1 hz with rfl | hz
          · exact hxy
          · exact ltP_trans hxy (hp.1 z hz)
    exact this R h.1 hx
  · rw [((ins_perm x R).map _).nodup_iff, List.map_cons, List.nodup_cons]
    refine ⟨fun hm => ?_, h.2⟩
    obtain ⟨y, hy, e⟩ := List.mem_map.1 hm
    exact hx y hy e
theorem rm_ne {R : List Pr} {id : Int} : ∀ y ∈ rm R id, y.2 ≠ id := fun y hy => by simpa [rm] using (List.mem_filter.1 hy).2
/-- rows in order of the same pairs are one row -/
theorem srt_eq : ∀ {R R' : List Pr}, R.Pairwise ltP → R'.Pairwise ltP → R.Perm R' → R = R' := by
  intro R R' h1 h2 hp
  exact hp.eq_of_pairwise (fun a b _ _ h3 h4 => (ltP_asym h3 h4).elim) h1 h2
theorem kp_lt {a b : Tm} : ltT a b = true ↔ ltP (kp a) (kp b) := by rw [ltT_iff]; rfl
/-- the first of the heap is the first of the row -/
theorem head_is {l : List Tm} {R : List Pr} (hh : Hp.HP ltT l l.length) (hp : (l.map kp).Perm R) (hs : Srt R) (h0 : 0 < l.length) : ∃ R', R = kp l[0] :: R' := by
  cases R with
  | nil => have := hp.length_eq; simp at this; rw [this] at h0; simp at h0
  | cons y r =>
    refine ⟨r, ?_⟩
    have h1 : kp l[0] ∈ y :: r := hp.mem_iff.1 (List.mem_map.2 ⟨_, List.getElem_mem h0, rfl⟩)
    have h2 : y ∈ l.map kp := hp.mem_iff.2 (by simp)
    obtain ⟨t, ht, e⟩ := List.mem_map.1 h2
    obtain ⟨i, hi, e2⟩ := List.mem_iff_getElem.1 ht
    have h3 := Hp.first ltT_ord hh i hi
    unfold Hp.le at h3
    rw [Hp.g_get hi, Hp.g_get h0, e2] at h3
    rcases List.mem_cons.1 h1 with h | h
    · rw [h]
    · exfalso
      have := (List.pairwise_cons.1 hs.1).1 _ h
      rw [← e] at this
      rw [kp_lt.2 this] at h3
      cases h3
/-- one taken out of a place -/
theorem take_out {l : List Tm} {i : Nat} (hi : i < l.length) : l.Perm (l[i] :: l.eraseIdx i) := by
  rw [List.eraseIdx_eq_take_drop_succ]
  have e : l = l.take i ++ l[i] :: l.drop (i + 1) := by rw [List.getElem_cons_drop, List.take_append_drop]
  conv => lhs; rw [e]
  exact List.perm_middle
theorem set_out {l : List Tm} {i : Nat} (hi : i < l.length) (t : Tm) : (l.set i t).Perm (t :: l.eraseIdx i) := by
  rw [List.eraseIdx_eq_take_drop_succ, List.set_eq_take_append_cons_drop, if_pos hi]
  exact List.perm_middle
theorem rm_perm {l l' : List Tm} {R : List Pr} {t : Tm} (hp : (l.map kp).Perm R) (hs : Srt R) (hl : l.Perm (t :: l')) : (l'.map kp).Perm (rm R t.id) := by
  have h1 : R.Perm (kp t :: l'.map kp) := hp.symm.trans (hl.map kp)
  have h2 : (R.map (·.2)).Perm (t.id :: (l'.map kp).map (·.2)) := h1.map _
  have h3 := h2.nodup_iff.1 hs.2
  rw [List.nodup_cons] at h3
  have h4 : (rm R t.id).Perm (rm (kp t :: l'.map kp) t.id) := h1.filter _
  refine (h4.trans ?_).symm
  unfold rm
  rw [List.filter_cons]
  have : decide ((kp t).2 ≠ t.id) = false := by simp [kp]
  rw [this]
  simp only [Bool.false_eq_true, if_false]
  rw [List.filter_eq_self.2]
  intro y hy
  have : y.2 ≠ t.id := fun e => h3.1 (e ▸ List.mem_map.2 ⟨y, hy, rfl⟩)
  simpa using this
theorem id_unique {l : List Tm} {R : List Pr} (hp : (l.map kp).Perm R) (hs : Srt R) : (l.map (·.id)).Nodup := by
  have : (l.map (·.id)) = (l.map kp).map (·.2) := by simp [kp, Function.comp_def]
  rw [this, (hp.map _).nodup_iff]
  exact hs.2
/-- the heap behind a Pop -/
theorem pop_heap {l : List Tm} (hh : Hp.HP ltT l l.length) (h0 : 0 < l.length) (l1 : List Tm) (hl1 : l1 = (Hp.down ltT (l.length - 1) (Hp.swap l 0 (l.length - 1)) 0 (l.length - 1)).1) (hn : l1.length = l.length) :
    Hp.HP ltT l1.dropLast l1.dropLast.length ∧ l1[l.length - 1]'(by omega) = l[0] ∧ l.Perm (l[0] :: l1.dropLast) := by
  have hs := Hp.swap_len l 0 (l.length - 1)
  have key : Hp.HP ltT l1 (l.length - 1) ∧ l1.Perm l ∧ Hp.g l1 (l.length - 1) = Hp.g l 0 := by
    by_cases c : l.length = 1
    · have e : l1 = Hp.swap l 0 (l.length - 1) := by rw [hl1, c]; rfl
      refine ⟨fun k a b => by omega, by rw [e]; exact Hp.swap_perm h0 (by omega), by rw [e, Hp.g_swap h0 (by omega)]; simp⟩
    · have hd : Hp.dnI ltT (Hp.swap l 0 (l.length - 1)) (l.length - 1) 0 := by
        refine ⟨fun k k0 kn kp => ?_, fun c _ _ _ h => by omega⟩
        unfold Hp.le
        have hpk : Hp.par k < k := by unfold Hp.par; omega
        rw [Hp.g_swap h0 (by omega), Hp.g_swap h0 (by omega), if_neg (by omega), if_neg (by omega), if_neg (by omega), if_neg kp]
        exact hh k k0 (by omega)
      obtain ⟨d1, d2, d3, _⟩ := Hp.down_spec ltT_ord (l.length - 1) (Hp.swap l 0 (l.length - 1)) (l.length - 1) 0 (by omega) (by omega) (by omega) hd
      rw [← hl1] at d1 d2 d3
      refine ⟨d1, d2.trans (Hp.swap_perm h0 (by omega)), ?_⟩
      rw [d3 _ (Nat.le_refl _), Hp.g_swap h0 (by omega)]; simp
  obtain ⟨k1, k2, k3⟩ := key
  have hlt : l.length - 1 < l1.length := by omega
  have hlast : l1[l.length - 1] = l[0] := by rw [← Hp.g_get hlt, k3, Hp.g_get h0]
  refine ⟨?_, hlast, ?_⟩
  · intro k a b
    rw [List.length_dropLast] at b
    have := k1 k a (by omega)
    have hpk : Hp.par k < k := by unfold Hp.par; omega
    unfold Hp.le at this ⊢
    rw [Hp.g_get (by omega), Hp.g_get (by omega)] at this
    rw [Hp.g_get (by rw [List.length_dropLast]; omega), Hp.g_get (by rw [List.length_dropLast]; omega)]
    simpa using this
  · have e : l1 = l1.dropLast ++ [l[0]] := by
      have hne : l1 ≠ [] := by intro e; rw [e] at hn; simp at hn; omega
      conv => lhs; rw [← List.dropLast_concat_getLast hne]
      rw [List.getLast_eq_getElem]
      have : l1.length - 1 = l.length - 1 := by omega
      congr 2
      rw [← hlast]
      congr 1
    refine k2.symm.trans ?_
    conv => lhs; rw [e]
    exact List.perm_append_comm
/-- the heap behind a Remove -/
theorem rem_heap {l : List Tm} (hh : Hp.HP ltT l l.length) {i : Nat} (hi : i < l.length - 1) (l1 : List Tm) (hl1 : l1 = fixL (Hp.swap l i (l.length - 1)) i (l.length - 1)) :
    l1.length = l.length ∧ Hp.HP ltT l1.dropLast l1.dropLast.length ∧ l.Perm (l[i] :: l1.dropLast) ∧ Hp.g l1 (l.length - 1) = l[i] := by
  have hs := Hp.swap_len l i (l.length - 1)
  have hil : i < l.length := by omega
  have g1 : ∀ k, k < l.length - 1 → k ≠ i → Hp.g (Hp.swap l i (l.length - 1)) k = Hp.g l k := fun k a b => by
    rw [Hp.g_swap hil (by omega), if_neg (by omega), if_neg b]
  obtain ⟨f1, f2, f3⟩ := Hp.fix_spec ltT_ord (l := Hp.swap l i (l.length - 1)) (i := i) (n := l.length - 1) (by omega) hi (fun k k0 kn ki kpi => by
      have hpk : Hp.par k < k := by unfold Hp.par; omega
      unfold Hp.le
      rw [g1 k kn ki, g1 _ (by omega) kpi]
      exact hh k k0 (by omega)) (fun c c0 cn cp i0 => by
      have hpk : Hp.par i < i := by unfold Hp.par; omega
      have hci : c ≠ i := by unfold Hp.par at cp; omega
      unfold Hp.le
      rw [g1 c cn hci, g1 _ (by omega) (by omega)]
      have a1 := hh c c0 (by omega)
      rw [cp] at a1
      exact Hp.le_trans' ltT_ord (hh i i0 hil) a1)
  have e0 : Hp.fix ltT (Hp.swap l i (l.length - 1)) i (l.length - 1) = l1 := by rw [hl1]; rfl
  rw [e0] at f1 f2 f3
  have hlen : l1.length = l.length := by rw [f2.length_eq, hs]
  have hg : Hp.g l1 (l.length - 1) = l[i] := by
    rw [f3 _ (Nat.le_refl _), Hp.g_swap hil (by omega), if_pos rfl, Hp.g_get hil]
  refine ⟨hlen, ?_, ?_, hg⟩
  · intro k a b
    rw [List.length_dropLast] at b
    have := f1 k a (by omega)
    have hpk : Hp.par k < k := by unfold Hp.par; omega
    unfold Hp.le at this ⊢
    rw [Hp.g_get (by omega), Hp.g_get (by omega)] at this
    rw [Hp.g_get (by rw [List.length_dropLast]; omega), Hp.g_get (by rw [List.length_dropLast]; omega)]
    simpa using this
  · have hlt : l.length - 1 < l1.length := by omega
    have hlast : l1[l.length - 1] = l[i] := by rw [← Hp.g_get hlt, hg]
    have e : l1 = l1.dropLast ++ [l[i]] := by
      have hne : l1 ≠ [] := by intro e; rw [e] at hlen; simp at hlen; omega
      conv => lhs; rw [← List.dropLast_concat_getLast hne]
      rw [List.getLast_eq_getElem]
      congr 2
      rw [← hlast]
      congr 1
      omega
    refine (f2.trans (Hp.swap_perm hil (by omega))).symm.trans ?_
    conv => lhs; rw [e]
    exact List.perm_append_comm
/-- the heap behind a Fix -/
theorem fix_heap {l : List Tm} (hh : Hp.HP ltT l l.length) {i : Nat} (hi : i < l.length) (t : Tm) : Hp.HP ltT (fixL (l.set i t) i (l.set i t).length) (l.set i t).length ∧ (fixL (l.set i t) i (l.set i t).length).Perm (l.set i t) := by
  have g1 : ∀ k, k ≠ i → Hp.g (l.set i t) k = Hp.g l k := fun k b => by rw [Hp.g_set hi, if_neg (Ne.symm b)]
  have hn : (l.set i t).length = l.length := by simp
  obtain ⟨f1, f2, f3⟩ := Hp.fix_spec ltT_ord (l := l.set i t) (i := i) (n := (l.set i t).length) (Nat.le_refl _) (by omega) (fun k k0 kn ki kpi => by
      unfold Hp.le
      rw [g1 k ki, g1 _ kpi]
      exact hh k k0 (by omega)) (fun c c0 cn cp i0 => by
      have hpk : Hp.par i < i := by unfold Hp.par; omega
      have hci : c ≠ i := by unfold Hp.par at cp; omega
      unfold Hp.le
      rw [g1 c hci, g1 _ (by omega)]
      have a1 := hh c c0 (by omega)
      rw [cp] at a1
      exact Hp.le_trans' ltT_ord (hh i i0 hi) a1)
  exact ⟨f1, f2⟩
/-- the heap behind a Push -/
theorem push_heap {l : List Tm} (hh : Hp.HP ltT l l.length) (t : Tm) : Hp.HP ltT (Hp.up ltT (l.length + 1) (l ++ [t]) l.length) (l.length + 1) ∧ (Hp.up ltT (l.length + 1) (l ++ [t]) l.length).Perm (t :: l) := by
  have hn : (l ++ [t]).length = l.length + 1 := by simp
  obtain ⟨f1, f2, f3⟩ := Hp.up_spec ltT_ord (l.length + 1) (l ++ [t]) (l.length + 1) l.length (by omega) (by omega) (by omega) ⟨fun k k0 kn kl => by
      have hpk : Hp.par k < k := by unfold Hp.par; omega
      have := hh k k0 (by omega)
      unfold Hp.le at this ⊢
      rw [Hp.g_get (by omega), Hp.g_get (by omega)] at this
      rw [Hp.g_get (by omega), Hp.g_get (by omega), List.getElem_append_left (by omega), List.getElem_append_left (by omega)]
      exact this, fun c c0 cn cp _ => by unfold Hp.par at cp; omega⟩
  exact ⟨f1, f2.trans List.perm_append_comm⟩
end Go.Proofs.Ytpjffilejnemmaa
