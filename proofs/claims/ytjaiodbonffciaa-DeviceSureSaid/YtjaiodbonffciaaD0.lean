/- A device's model: its sectors, what may be done; how it lies in memory. -/
import Derived.Test.YtjaiodbonffciaaK
set_option linter.unusedVariables false
set_option linter.unusedSimpArgs false
set_option linter.unusedSectionVars false
namespace Go.Proofs.Ytjaiodbonffciaa
open Sh RowKit Go.MapKept
abbrev pv (b : Nat) : Value := .pointer (some ⟨b, 0, none⟩)
abbrev Sct := { x : ByteArray // x.size = 64 }
def encS (x : Sct) : List Value := (byL x.1).map (.int .u8)
theorem encS_len (x : Sct) : (encS x).length = 64 := by unfold encS; rw [List.length_map, byL_len, x.2]
theorem encS_one (x : Sct) : ∀ c ∈ encS x, c.oneCell' = true := by intro c hc; obtain ⟨a, _, rfl⟩ := List.mem_map.1 hc; rfl
theorem map_int_inj : ∀ {a b : List Int}, a.map (Value.int .u8) = b.map (.int .u8) → a = b
  | [], [], _ => rfl
  | [], y :: b, h => by simp at h
  | x :: a, [], h => by simp at h
  | x :: a, y :: b, h => by
    simp only [List.map_cons, List.cons.injEq, Value.int.injEq, true_and] at h
    rw [h.1, map_int_inj h.2]
theorem encS_inj {x y : Sct} (h : encS x = encS y) : x = y := Subtype.ext (byL_inj (map_int_inj h))
def padL (s : ByteArray) : List Int := (byL s).take 64 ++ List.replicate (64 - s.size) 0
theorem padL_len (s : ByteArray) : (padL s).length = 64 := by unfold padL; rw [List.length_append, List.length_take, List.length_replicate, byL_len]; omega
theorem padL_nn (s : ByteArray) : ∀ x ∈ padL s, 0 ≤ x ∧ x ≤ 255 := by
  intro x hx
  unfold padL at hx
  rcases List.mem_append.1 hx with h | h
  · exact byL_nn (List.mem_of_mem_take h)
  · rw [List.eq_of_mem_replicate h]; omega
def pad (s : ByteArray) : Sct := ⟨strOfNums (padL s), by rw [son_size, padL_len]⟩
theorem byL_pad (s : ByteArray) : byL (pad s).1 = padL s := byL_son (padL_nn s)
theorem encS_pad (s : ByteArray) : encS (pad s) = (padL s).map (.int .u8) := by unfold encS; rw [byL_pad]
/-- some of the one, the rest of the other -/
def torn (x s : Sct) (c : Nat) : Sct := ⟨strOfNums ((byL x.1).take c ++ (byL s.1).drop c), by
  rw [son_size, List.length_append, List.length_take, List.length_drop, byL_len, byL_len, x.2, s.2]; omega⟩
theorem byL_torn (x s : Sct) (c : Nat) : byL (torn x s c).1 = (byL x.1).take c ++ (byL s.1).drop c := byL_son (by
  intro y hy
  rcases List.mem_append.1 hy with h | h
  · exact byL_nn (List.mem_of_mem_take h)
  · exact byL_nn (List.mem_of_mem_drop h))
structure Sec where
  s : Sct
  u : Option Sct
def Sec.now (x : Sec) : Sct := x.u.getD x.s
structure Dv where
  A : List Sec
  c : Int
  h : Int
/-- sector i, if there is one -/
def Dv.at (D : Dv) (i : Int) : Option Sec := if 0 ≤ i then D.A[i.toNat]? else none
def Dv.tick (D : Dv) : Dv := { D with c := D.c + 1 }
def Dv.rd (D : Dv) (i : Int) : ByteArray := ((D.at i).map (·.now.1)).getD ⟨#[]⟩
def Dv.set (D : Dv) (i : Nat) (x : Sec) : Dv := { D with A := D.A.set i x }
def Dv.wr (D : Dv) (i : Int) (s : ByteArray) : Int × Dv :=
  if D.h < D.c + 1 then (9, D.tick) else match D.at i with
  | none => (7, D.tick)
  | some x => if 64 < s.size then (3, D.tick) else (0, D.tick.set i.toNat ⟨x.s, some (pad s)⟩)
def Dv.sync (D : Dv) : Int × Dv := if D.h < D.c + 1 then (9, D.tick) else (0, { D.tick with A := D.A.map fun x => ⟨x.now, none⟩ })
def Dv.stop (D : Dv) (n : Int) : Dv := { D with h := if n < 0 ∨ 1099511627776 < n then 4611686018427387904 else D.c + n }
/-- the sectors that aren't sure -/
def uns (A : List Sec) : List Nat := (List.range A.length).filter fun i => ((A[i]?).bind (·.u)).isSome
/-- what is behind a crash, of the k-th that isn't sure -/
def nw (keep : List Bool) (tn cut : Int) (x : Sec) (k : Nat) : Sct :=
  if (k : Int) = tn then torn x.now x.s (min (max cut 0) 64).toNat else if keep[k % keep.length]? = some true then x.now else x.s
/-- the k-th that isn't sure, sector i (f: what is kept of what isn't sure) -/
def crash1 (f : Option Sct → Option Sct) (keep : List Bool) (tn cut : Int) (A : List Sec) (i k : Nat) : List Sec := match A[i]? with
  | none => A
  | some x => A.set i ⟨nw keep tn cut x k, f x.u⟩
def crashL (f : Option Sct → Option Sct) (keep : List Bool) (tn cut : Int) : List Sec → List Nat → Nat → List Sec
  | A, [], _ => A
  | A, i :: r, k => crashL f keep tn cut (crash1 f keep tn cut A i k) r (k + 1)
def Dv.crash (D : Dv) (keep : List Bool) (tn cut : Int) : Dv := { D with A := crashL (fun _ => none) keep tn cut D.A (uns D.A) 0, h := 4611686018427387904 }
def newD (n : Nat) : Dv := ⟨List.replicate n ⟨pad ⟨#[]⟩, none⟩, 0, 4611686018427387904⟩
/-- a device in memory -/
structure DevAt (B : Nat) (w : World) (p : Nat) (v : Value) (b : Nat) (D : Dv) : Prop where
  pB : B ≤ p
  bB : B ≤ b
  n : D.A.length ≤ 4096
  hp : w.heap[p]? = some (.cells #[v, .map (some b), .int .i64 D.c, .int .i64 D.h] 60 (0, 0))
  own : ownE B 63 64 encS w v (D.A.map (·.s))
  mp : ∃ L : List (Int × Sct), MapAt kI w b (L.map fun q => (q.1, .agg (encS q.2).toArray)) ∧ ∀ i x, (i, x) ∈ L ↔ (D.at i).bind (·.u) = some x
def fpD (p : Nat) (v : Value) (b : Nat) : Nat → Prop := fun k => k = p ∨ k = b ∨ v.ownBlock = some k
section
variable {B : Nat} {w w' : World} {p b : Nat} {v : Value} {D : Dv}
theorem DevAt.c0 (h : DevAt B w p v b D) : w.cell? ⟨p, 0, none⟩ = some v := by rw [cell_of_blk h.hp]; rfl
theorem DevAt.c1 (h : DevAt B w p v b D) : w.cell? ⟨p, 1, none⟩ = some (.map (some b)) := by rw [cell_of_blk h.hp]; rfl
theorem DevAt.c2 (h : DevAt B w p v b D) : w.cell? ⟨p, 2, none⟩ = some (.int .i64 D.c) := by rw [cell_of_blk h.hp]; rfl
theorem DevAt.c3 (h : DevAt B w p v b D) : w.cell? ⟨p, 3, none⟩ = some (.int .i64 D.h) := by rw [cell_of_blk h.hp]; rfl
theorem DevAt.plt (h : DevAt B w p v b D) : p < w.heap.size := blk_lt h.hp
theorem DevAt.below (h : DevAt B w p v b D) (hb : Below w.heap.size w w') : DevAt B w' p v b D := by
  obtain ⟨L, hm, hl⟩ := h.mp
  exact ⟨h.pB, h.bB, h.n, stay hb h.hp, ownE_below h.own hb, L, hm.below hb, hl⟩
theorem DevAt.drw (h : DevAt B w p v b D) : DevAt B (drw w) p v b D := ⟨h.pB, h.bB, h.n, h.hp, h.own, h.mp⟩
theorem DevAt.len (h : DevAt B w p v b D) : ∃ a c, v = .slice a D.A.length c := by
  obtain ⟨h1, h2⟩ := h.own
  rcases h2 with ⟨rfl, h0⟩ | ⟨g, cap, cur, rfl, _⟩
  · rw [List.length_map] at h0; exact ⟨none, 0, by rw [h0]⟩
  · exact ⟨some ⟨g, 0, none⟩, cap, by rw [List.length_map]⟩
theorem DevAt.gblk (h : DevAt B w p v b D) : ∀ g, v.ownBlock = some g → g ≠ p ∧ g ≠ b ∧ B ≤ g ∧ g < w.heap.size := by
  intro g hg
  obtain ⟨h1, h2, cur, h3⟩ := ownE_blk h.own g hg
  obtain ⟨L, ⟨es, clock, hm, _⟩, _⟩ := h.mp
  refine ⟨?_, ?_, h1, h2⟩
  · rintro rfl; rw [h.hp] at h3; cases h3
  · rintro rfl; rw [hm] at h3; cases h3
theorem DevAt.pb (h : DevAt B w p v b D) : p ≠ b := by
  obtain ⟨L, ⟨es, clock, hm, _⟩, _⟩ := h.mp
  rintro rfl; rw [h.hp] at hm; cases hm
/-- one of its own cells stored -/
theorem DevAt.upd {D' : Dv} (h : DevAt B w p v b D) (hA : D'.A = D.A) (hp : w'.heap[p]? = some (.cells #[v, .map (some b), .int .i64 D'.c, .int .i64 D'.h] 60 (0, 0))) (hu : Upd p w w') : DevAt B w' p v b D' := by
  obtain ⟨L, hm, hl⟩ := h.mp
  refine ⟨h.pB, h.bB, by rw [hA]; exact h.n, hp, by rw [hA]; exact ownE_stay h.own (fun g hg => hu.block g (h.gblk g hg).1), L, hm.upd hu h.pb.symm, fun i x => ?_⟩
  rw [hl]
  unfold Dv.at
  rw [hA]
theorem fpD_B (h : DevAt B w p v b D) : ∀ k, fpD p v b k → B ≤ k := by
  rintro k (rfl | rfl | hk)
  · exact h.pB
  · exact h.bB
  · exact (h.gblk k hk).2.2.1
end
end Go.Proofs.Ytjaiodbonffciaa
