/- Strings as bytes. -/
import Derived.Test.YtlmiimojgledpaaSh10
import Derived.Lib.ConvBytes
set_option linter.unusedVariables false
set_option linter.unusedSimpArgs false
set_option linter.unusedSectionVars false
namespace Go.Proofs.Ytlmiimojgledpaa
namespace Sh
open RowKit
/-- a string's bytes as whole numbers -/
def byL (s : ByteArray) : List Int := s.data.toList.map (fun b => (b.toNat : Int))
theorem byL_len (s : ByteArray) : (byL s).length = s.size := by simp only [byL, List.length_map, Array.length_toList]; rfl
theorem byL_get (s : ByteArray) (i : Nat) (h : i < (byL s).length) : ∃ c, s[i]? = some c ∧ (byL s)[i] = (c.toNat : Int) := by
  have h' : i < s.size := by rw [byL_len] at h; exact h
  refine ⟨s[i], ?_, ?_⟩
  · rw [getElem?_pos s i h']
  · simp only [byL, List.getElem_map, Array.getElem_toList]; rfl
theorem byL_nn {s : ByteArray} {x : Int} (h : x ∈ byL s) : 0 ≤ x ∧ x ≤ 255 := by
  simp only [byL, List.mem_map] at h
  obtain ⟨b, _, rfl⟩ := h
  have := b.toNat_lt
  omega
section
variable {P : Program} {w : World} {Q : Value → World → Prop} {K : Value → M} {B : Nat}
theorem Below_bytes {A : World} (e : TypeId) (s : ByteArray) (h : Below B A w) (hB : B ≤ w.heap.size) : Below B A (Go.Lib.bytesWorld w e s) :=
  h.trans ⟨rfl, rfl, rfl, by rw [Go.Lib.bytesWorld_size]; omega, fun k hk => Go.Lib.bytesWorld_at_old w e s k (by omega)⟩
theorem cvs {src dst e : TypeId} {z : Value} {n b : Nat} {s : ByteArray} (hs : isStr P src = true) (h : slT P dst e z n b) (he : P.underlying e = some (.int .u8))
    (k : ∀ v w', rdI .u8 w' v (byL s) → Below w.heap.size w w' → K v w' Q) : sm P (convert src dst (.string s)) K w Q := by
  obtain ⟨i, h1, _⟩ := slT_info h
  unfold isStr at hs
  cases hu : P.underlying src with
  | none => simp [hu] at hs
  | some u =>
    refine ⟨_, _, Go.Lib.run_convert_string_bytes w src dst e s hu h1 he, k _ _ ?_ (Below_bytes e s (Below.refl _ w) (Nat.le_refl _))⟩
    refine ⟨_, _, by rw [byL_len], ?_⟩
    intro i hi
    have hi' : i < s.size := by rw [byL_len] at hi; exact hi
    refine ⟨_, rfl, ?_⟩
    rw [add_lit, Nat.zero_add, Go.Lib.bytesWorld_cell w e s i hi']
    have hd : i < s.data.toList.length := by simpa using hi'
    simp [byL, List.getD, hi']
/-- a block that is there stays -/
theorem stay {w w' : World} {p : Nat} {o : Obj} (hb : Below w.heap.size w w') (h : w.heap[p]? = some o) : w'.heap[p]? = some o := by
  rcases Nat.lt_or_ge p w.heap.size with hp | hp
  · rw [hb.block p hp]; exact h
  · simp [Array.getElem?_eq_none hp] at h
theorem blk_lt {w : World} {p : Nat} {o : Obj} (h : w.heap[p]? = some o) : p < w.heap.size := by
  rcases Nat.lt_or_ge p w.heap.size with hp | hp
  · exact hp
  · simp [Array.getElem?_eq_none hp] at h
theorem bt {w0 w w' : World} (b : Below w0.heap.size w0 w) (hb : Below w.heap.size w w') : Below w0.heap.size w0 w' := b.trans (hb.mono b.size)
theorem bt' {B : Nat} {w0 w w' : World} (b : Below B w0 w) (hB : B ≤ w.heap.size) (hb : Below w.heap.size w w') : Below B w0 w' := b.trans (hb.mono hB)
theorem b_psh (w : World) (o : Obj) : Below w.heap.size w (psh w o) := Below_psh (Below.refl _ w) (Nat.le_refl _)
end
end Sh
end Go.Proofs.Ytlmiimojgledpaa
