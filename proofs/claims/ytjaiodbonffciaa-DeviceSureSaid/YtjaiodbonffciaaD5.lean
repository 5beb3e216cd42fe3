/- A crash: what is told of it, sector by sector. -/
import Derived.Test.YtjaiodbonffciaaD4
import Derived.Test.YtjaiodbonffciaaSh26
set_option linter.unusedVariables false
set_option linter.unusedSimpArgs false
set_option linter.unusedSectionVars false
namespace Go.Proofs.Ytjaiodbonffciaa
open Sh RowKit Go.MapKept
section
variable {f : Option Sct → Option Sct} {keep : List Bool} {tn cut : Int}
theorem crash1_len (A : List Sec) (i k : Nat) : (crash1 f keep tn cut A i k).length = A.length := by
  unfold crash1; split <;> simp
theorem crash1_get {A : List Sec} {i k : Nat} {x : Sec} (h : A[i]? = some x) (j : Nat) : (crash1 f keep tn cut A i k)[j]? = if j = i then some ⟨nw keep tn cut x k, f x.u⟩ else A[j]? := by
  unfold crash1
  rw [h]
  simp only [List.getElem?_set]
  have := (List.getElem?_eq_some_iff.1 h).1
  by_cases c : j = i
  · subst c; simp [this]
  · rw [if_neg (fun e => c e.symm), if_neg c]
theorem crashL_get : ∀ (rest : List Nat) (A : List Sec) (k : Nat), rest.Nodup → (∀ i ∈ rest, i < A.length) →
    (crashL f keep tn cut A rest k).length = A.length ∧ (∀ j, j ∉ rest → (crashL f keep tn cut A rest k)[j]? = A[j]?) ∧
    ∀ m (hm : m < rest.length), ∃ x, A[rest[m]]? = some x ∧ (crashL f keep tn cut A rest k)[rest[m]]? = some ⟨nw keep tn cut x (k + m), f x.u⟩
  | [], A, k, _, _ => ⟨rfl, fun _ _ => rfl, fun m hm => absurd hm (by simp)⟩
  | i :: r, A, k, hn, hl => by
    obtain ⟨hn1, hn2⟩ := List.nodup_cons.1 hn
    have hi := hl i (by simp)
    have hx := List.getElem?_eq_getElem hi
    obtain ⟨q1, q2, q3⟩ := crashL_get r (crash1 f keep tn cut A i k) (k + 1) hn2 (fun j hj => by rw [crash1_len]; exact hl j (by simp [hj]))
    refine ⟨by show (crashL f keep tn cut (crash1 f keep tn cut A i k) r (k + 1)).length = _; rw [q1, crash1_len], fun j hj => ?_, fun m hm => ?_⟩
    · show (crashL f keep tn cut (crash1 f keep tn cut A i k) r (k + 1))[j]? = _
      rw [q2 j (fun c => hj (by simp [c])), crash1_get hx, if_neg (fun c => hj (by simp [c]))]
    · cases m with
      | zero =>
        refine ⟨A[i], hx, ?_⟩
        show (crashL f keep tn cut (crash1 f keep tn cut A i k) r (k + 1))[i]? = _
        rw [q2 i hn1, crash1_get hx, if_pos rfl]; rfl
      | succ m =>
        obtain ⟨x, h1, h2⟩ := q3 m (by simpa using hm)
        have hne : r[m]'(by simpa using hm) ≠ i := fun c => hn1 (c ▸ List.getElem_mem _)
        refine ⟨x, ?_, ?_⟩
        · rw [crash1_get hx, if_neg hne] at h1; exact h1
        · show (crashL f keep tn cut (crash1 f keep tn cut A i k) r (k + 1))[r[m]'(by simpa using hm)]? = _
          rw [h2, show k + 1 + m = k + (m + 1) by omega]
theorem uns_nodup (A : List Sec) : (uns A).Nodup := (uns_sorted A).imp (by intro a b h; omega)
theorem crash_none (A : List Sec) : ∀ (j : Nat) (x : Sec), (crashL (fun _ => none) keep tn cut A (uns A) 0)[j]? = some x → x.u = none := by
  intro j x hx
  obtain ⟨q1, q2, q3⟩ := crashL_get (f := fun _ => none) (keep := keep) (tn := tn) (cut := cut) (uns A) A 0 (uns_nodup A) (fun i hi => uns_lt hi)
  by_cases c : j ∈ uns A
  · obtain ⟨m, hm, rfl⟩ := List.mem_iff_getElem.1 c
    obtain ⟨y, h1, h2⟩ := q3 m hm
    rw [h2] at hx; cases hx; rfl
  · rw [q2 j c] at hx
    cases hu : x.u with
    | none => rfl
    | some y => exact absurd (uns_mem.2 ⟨x, y, hx, hu⟩) c
theorem crash_two (A : List Sec) : (crashL id keep tn cut A (uns A) 0).map (·.s) = (crashL (fun _ => none) keep tn cut A (uns A) 0).map (·.s) := by
  obtain ⟨q1, q2, q3⟩ := crashL_get (f := fun _ => none) (keep := keep) (tn := tn) (cut := cut) (uns A) A 0 (uns_nodup A) (fun i hi => uns_lt hi)
  obtain ⟨p1, p2, p3⟩ := crashL_get (f := id) (keep := keep) (tn := tn) (cut := cut) (uns A) A 0 (uns_nodup A) (fun i hi => uns_lt hi)
  apply List.ext_getElem?
  intro j
  rw [List.getElem?_map, List.getElem?_map]
  by_cases c : j ∈ uns A
  · obtain ⟨m, hm, rfl⟩ := List.mem_iff_getElem.1 c
    obtain ⟨y, h1, h2⟩ := q3 m hm
    obtain ⟨z, h3, h4⟩ := p3 m hm
    rw [h1] at h3; cases h3
    rw [h2, h4]; rfl
  · rw [q2 j c, p2 j c]
end
theorem encS_torn (y s : Sct) {c : Nat} (hc : c ≤ 64) : encS (torn y s c) = ovl (encS s) 0 ((encS y).take c) := by
  unfold encS ovl
  rw [byL_torn, List.map_append, List.map_take, List.map_drop, List.take_zero, List.nil_append, List.length_take, List.length_map, byL_len, y.2, Nat.zero_add, Nat.min_eq_left hc]
/-- a beginning of an element's cells -/
theorem sla_to {n c : Nat} {a : Addr} {w : World} {K : Value → M} {Q : Value → World → Prop} {x : Int} (h0 : n ≠ 0) (hc : c ≤ n) (hx : x = (c : Int)) (k : K (.slice (some a) c n) w Q) : sla n 1 (.pointer (some a)) none (some (.int .i64 x)) K w Q := by
  subst hx
  refine ⟨a, 0, c, rfl, ⟨.i64, _, rfl, by omega, by omega, by rw [Int.toNat_natCast]⟩, rfl, ?_⟩
  rw [if_neg h0]
  exact k
section
variable {B : Nat} {w : World} {p b : Nat} {v : Value} {D : Dv} {Q : Value → World → Prop}
/-- a sector made sure -/
theorem DevAt.setS {w' : World} {i : Nat} {x : Sec} {y : Sct} {g : Nat} (hd : DevAt B w p v b D) (hx : D.A[i]? = some x) (ho : ownE B 63 64 encS w' v ((D.A.map (·.s)).set i y)) (hg : v.ownBlock = some g) (hu : Upd g w w') : DevAt B w' p v b (D.set i ⟨y, x.u⟩) := by
  obtain ⟨L, hm, hl⟩ := hd.mp
  have hg' := hd.gblk g hg
  refine ⟨hd.pB, hd.bB, by simpa [Dv.set] using hd.n, (hu.block p hg'.1.symm).trans hd.hp, ?_, L, hm.upd hu hg'.2.1.symm, fun j z => ?_⟩
  · have : (D.set i ⟨y, x.u⟩).A.map (·.s) = (D.A.map (·.s)).set i y := by unfold Dv.set; rw [List.map_set]
    rw [this]; exact ho
  · rw [hl]
    have : ((D.set i ⟨y, x.u⟩).at j).bind (·.u) = (D.at j).bind (·.u) := by
      unfold Dv.at Dv.set
      split
      · simp only [List.getElem?_set]
        have hi := (List.getElem?_eq_some_iff.1 hx).1
        split
        · rename_i e
          rw [← e, hx]; rfl
        · rfl
      · rfl
    rw [this]
/-- what isn't sure, away -/
theorem DevAt.clear {w' : World} (hd : DevAt B w p v b D) (hm : MapAt kI w' b ([] : List (Int × Value))) (hu : Upd b w w') {A' : List Sec} (hA : A'.map (·.s) = D.A.map (·.s)) (hn : ∀ (j : Nat) (x : Sec), A'[j]? = some x → x.u = none) : DevAt B w' p v b { D with A := A' } := by
  have hlen : A'.length = D.A.length := by simpa using congrArg List.length hA
  refine ⟨hd.pB, hd.bB, by show A'.length ≤ _; rw [hlen]; exact hd.n, (hu.block p hd.pb).trans hd.hp, ?_, [], hm, fun i x => ?_⟩
  · show ownE B 63 64 encS w' v (A'.map (·.s))
    rw [hA]
    exact ownE_stay hd.own (fun g hg => hu.block g (hd.gblk g hg).2.1)
  · have : (({ D with A := A' } : Dv).at i).bind (·.u) = none := by
      unfold Dv.at
      split
      · cases h : A'[i.toNat]? with
        | none => rfl
        | some x => exact hn _ x h
      · rfl
    rw [this]
    simp
end
end Go.Proofs.Ytjaiodbonffciaa
