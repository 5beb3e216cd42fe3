/- Rows of values in memory. -/
import Derived.Test.YtlmiimojgledpaaF3
import Derived.Test.YtlmiimojgledpaaSh27
import Derived.Test.YtlmiimojgledpaaSh26
set_option linter.unusedVariables false
set_option linter.unusedSimpArgs false
set_option linter.unusedSectionVars false
namespace Go.Proofs.Ytlmiimojgledpaa
open Sh RowKit Go.MapKept
structure Val where
  k : Int
  n : Int
  s : ByteArray
deriving DecidableEq
abbrev Row := List Val
def encV (a : Val) : List Value := [.int .i64 a.k, .int .i64 a.n, .string a.s]
def okV (a : Val) : Prop := (Lit.int .i64 a.k).wf = true ∧ (Lit.int .i64 a.n).wf = true ∧ a.s.size ≤ maxLen
def valV (a : Val) : Value := .agg (encV a).toArray
theorem encV_len (a : Val) : (encV a).length = 3 := rfl
theorem encV_one (a : Val) : ∀ c ∈ encV a, c.oneCell' = true := by intro c hc; simp [encV] at hc; rcases hc with rfl | rfl | rfl <;> rfl
theorem encV_inj {a b : Val} (h : encV a = encV b) : a = b := by
  obtain ⟨a1, a2, a3⟩ := a
  obtain ⟨b1, b2, b3⟩ := b
  simp only [encV, List.cons.injEq, Value.int.injEq, Value.string.injEq, true_and, and_true] at h
  obtain ⟨rfl, rfl, rfl⟩ := h
  rfl
/-- a row -/
def vR : RepT Val := fun _ cs a => cs = encV a ∧ okV a
theorem vR_st : Stable vR := fun _ _ _ _ _ h => h
def rowR : RepT Row := fun w cs r => ∃ v, cs = [v] ∧ rdS 3 vR w v r
theorem rowR_st : Stable rowR := by
  rintro w w' cs r hb ⟨v, rfl, h⟩
  exact ⟨v, rfl, rdS_below vR_st hb h⟩
abbrev rdR (w : World) (v : Value) (r : Row) : Prop := rdS 3 vR w v r
abbrev rdL (w : World) (v : Value) (l : List Row) : Prop := rdS 1 rowR w v l
section
variable {w w' : World} {Q : Value → World → Prop}
theorem rdR_b {v : Value} {r : Row} (hb : Below w.heap.size w w') (h : rdR w v r) : rdR w' v r := rdS_below vR_st hb h
theorem rdL_b {v : Value} {l : List Row} (hb : Below w.heap.size w w') (h : rdL w v l) : rdL w' v l := rdS_below rowR_st hb h
/-- a row among some, in whatever world behind -/
theorem row_at {W : World} {v : Value} {l : List Row} (h : rdL W v l) {i : Nat} (hi : i < l.length) : ∃ (ad : Addr) (rv : Value), rdR W rv l[i] ∧ (∀ w, Below W.heap.size W w → w.cell? ad = some rv) ∧
    ∀ (k : IntKind) (K : Value → M) (w' : World) (Q : Value → World → Prop), ia 1 v (.int k (i : Int)) K w' Q = K (.pointer (some ad)) w' Q := by
  obtain ⟨ad, es, he1, he2, ⟨rv, rfl, hr⟩, hia⟩ := rdS_at h hi
  refine ⟨ad, rv, hr, fun w hb => ?_, hia⟩
  have := cell_below hb (he2 0 rv rfl)
  rwa [add_zero'] at this
/-- a value of a row, in whatever world behind -/
theorem val_at {W : World} {v : Value} {r : Row} (h : rdR W v r) {i : Nat} (hi : i < r.length) : ∃ ad : Addr, okV r[i] ∧ (∀ w, Below W.heap.size W w → cellsAt w ad (encV r[i])) ∧
    ∀ (k : IntKind) (K : Value → M) (w' : World) (Q : Value → World → Prop), ia 3 v (.int k (i : Int)) K w' Q = K (.pointer (some ad)) w' Q := by
  obtain ⟨ad, es, he1, he2, ⟨rfl, ho⟩, hia⟩ := rdS_at h hi
  exact ⟨ad, ho, fun w hb j x hj => cell_below hb (he2 j x hj), hia⟩
theorem okV_all {W : World} {v : Value} {r : Row} (h : rdR W v r) : ∀ a ∈ r, okV a := by
  intro a ha
  obtain ⟨i, hi, rfl⟩ := List.mem_iff_getElem.1 ha
  exact (val_at h hi).choose_spec.1
theorem lnl_R {W w1 : World} {v : Value} {r : Row} (h : rdR W v r) : ∀ (K : Value → M) (Q : Value → World → Prop), lnl v K w1 Q = K (.int .i64 (r.length : Nat)) w1 Q := by
  intro K Q
  obtain ⟨p, c, rfl⟩ := rdS_len h
  rw [lnl_e]
theorem lnl_L {W w1 : World} {v : Value} {l : List Row} (h : rdL W v l) : ∀ (K : Value → M) (Q : Value → World → Prop), lnl v K w1 Q = K (.int .i64 (l.length : Nat)) w1 Q := by
  intro K Q
  obtain ⟨p, c, rfl⟩ := rdS_len h
  rw [lnl_e]
end
theorem u29 : Try.prog.underlying 29 = some (.int .i64) := by kernel_rfl
theorem u2 : Try.prog.underlying 2 = some (.int .i64) := by kernel_rfl
theorem u9 : Try.prog.underlying 9 = some .string := by kernel_rfl
theorem sl33 : slT Try.prog 33 31 (.agg #[.int .i64 0, .int .i64 0, .string ⟨#[]⟩]) 3 32 := ⟨by kernel_rfl, by kernel_rfl⟩
theorem sl22 : slT Try.prog 22 33 (.slice none 0 0) 1 24 := ⟨by kernel_rfl, by kernel_rfl⟩
theorem z22 : zeroIs Try.prog 22 (.slice none 0 0) := by unfold zeroIs; kernel_rfl
theorem pk29 : Try.prog.plainKey 29 = true := by kernel_rfl
theorem pk2 : Try.prog.plainKey 2 = true := by kernel_rfl
theorem pk9 : Try.prog.plainKey 9 = true := by kernel_rfl
theorem eqI {t : TypeId} {k : IntKind} (hu : Try.prog.underlying t = some (.int k)) (d : Nat) (a b : Int) (w : World) : (Op.equalIn (d + 1) t (.int k a) (.int k b)).run Try.prog w = .ok (decide (a = b)) w := by
  simp [Op.equalIn, underlying, hu]
  rfl
theorem eqS (d : Nat) (a b : ByteArray) (w : World) : (Op.equalIn (d + 1) 9 (.string a) (.string b)).run Try.prog w = .ok (decide (a = b)) w := by
  simp [Op.equalIn, underlying, u9]
  rw [Bool.eq_iff_iff, decide_eq_true_iff]
  obtain ⟨a⟩ := a
  obtain ⟨b⟩ := b
  show (a == b) = true ↔ _
  simp
theorem eq_flds (a b : Val) (w : World) : (Op.eqFields 9999 (encV a).toArray (encV b).toArray [{ name := "Kind", type := 29, offset := 0, embedded := false, tag := "", pkgPath := "", byteOffset := 0 },
          { name := "N", type := 2, offset := 1, embedded := false, tag := "", pkgPath := "", byteOffset := 8 },
          { name := "S", type := 9, offset := 2, embedded := false, tag := "", pkgPath := "", byteOffset := 16 }]).run Try.prog w = .ok (decide (a = b)) w := by
  have h := fE_cons (P := Try.prog) (w := w) (d := 9999) (xs := (encV a).toArray) (ys := (encV b).toArray) (f := { name := "Kind", type := 29, offset := 0, embedded := false, tag := "", pkgPath := "", byteOffset := 0 }) rfl pk29 (a := .int .i64 a.k) (b := .int .i64 b.k) rfl rfl (eqI u29 9998 _ _ w)
    (fE_cons (f := { name := "N", type := 2, offset := 1, embedded := false, tag := "", pkgPath := "", byteOffset := 8 }) rfl pk2 (a := .int .i64 a.n) (b := .int .i64 b.n) rfl rfl (eqI u2 9998 _ _ w)
      (fE_cons (f := { name := "S", type := 9, offset := 2, embedded := false, tag := "", pkgPath := "", byteOffset := 16 }) rfl pk9 (a := .string a.s) (b := .string b.s) rfl rfl (eqS 9998 _ _ w) fE_nil))
  rw [h]
  congr 1
  rw [Bool.eq_iff_iff]
  obtain ⟨a1, a2, a3⟩ := a
  obtain ⟨b1, b2, b3⟩ := b
  simp
theorem eq31 {x y : Operand} (a b : Val) (w : World) : ((do eqGuard .eql 31 x y (.agg (encV a).toArray) (.agg (encV b).toArray); binOp .eql 31 (.agg (encV a).toArray) (.agg (encV b).toArray) : Sem Value)).run Try.prog w = .ok (.bool (decide (a = b))) w :=
  run_eq_agg (P := Try.prog) Try.underlying31 (by kernel_rfl) (by kernel_rfl) (eq_flds a b w)
theorem run_ne_agg {P : Program} {w : World} {xs ys : Array Value} {r : Bool} {t : TypeId} {x y : Operand} {gs : Array Field} (hu : P.underlying t = some (.struct gs)) (hp : P.stoodInHeld t = false) (hg : P.eqGuardType P.depth t = false)
    (h : (Op.eqFields 9999 xs ys gs.toList).run P w = .ok r w) : ((do eqGuard .neq t x y (.agg xs) (.agg ys); binOp .neq t (.agg xs) (.agg ys) : Sem Value)).run P w = .ok (.bool (!r)) w := by
  have hf : P.fieldsOf t = gs := by simp [Program.fieldsOf, hu]
  have h2 : (Op.equalIn 10000 t (.agg xs) (.agg ys)).run P w = .ok r w := by
    rw [run_equalIn_struct (P := P) w 9999 t xs ys (by rw [hf]; exact hu) hp, hf]
    exact h
  have h3 : (Op.equal t (.agg xs) (.agg ys)).run P w = .ok r w := h2
  simp [eqGuard, hg, binOp, h3]
theorem ne31 {x y : Operand} (a b : Val) (w : World) : ((do eqGuard .neq 31 x y (.agg (encV a).toArray) (.agg (encV b).toArray); binOp .neq 31 (.agg (encV a).toArray) (.agg (encV b).toArray) : Sem Value)).run Try.prog w = .ok (.bool (!decide (a = b))) w :=
  run_ne_agg (P := Try.prog) Try.underlying31 (by kernel_rfl) (by kernel_rfl) (eq_flds a b w)
theorem ko31 (a : Val) (h : okV a) : ∃ l, keyOf Try.prog 31 (valV a) = some l := by
  obtain ⟨h1, h2, h3⟩ := h
  have hk : Try.prog.keyType 31 = true := by kernel_rfl
  have h0 : 0 < Try.prog.types.size := by decide +kernel
  have hsz : ∃ m, Try.prog.types.size + 1 = m + 2 := ⟨Try.prog.types.size - 1, by omega⟩
  obtain ⟨m, hm⟩ := hsz
  have hc29 : Try.prog.cellsOf 29 = 1 := by kernel_rfl
  have hc2 : Try.prog.cellsOf 2 = 1 := by kernel_rfl
  have hc9 : Try.prog.cellsOf 9 = 1 := by kernel_rfl
  have hc31 : Try.prog.cellsOf 31 = 3 := by kernel_rfl
  have hl : Try.prog.keyLits (m + 2) 31 (encV a) = some [.int .i64 a.k, .int .i64 a.n, .string a.s.data.toList] := by
    simp [Program.keyLits, Try.underlying31, hc31, hc29, hc2, hc9, encV, u29, u2, u9, h1, h2, h3]
  refine ⟨.string (keyBytes [.int .i64 a.k, .int .i64 a.n, .string a.s.data.toList]), ?_⟩
  unfold keyOf
  rw [Try.underlying31]
  have hf : (valV a).formed Try.prog 31 = true := by simp [Value.formed, valV, Try.underlying31, hc31, encV]
  simp only [hk, hf, Bool.and_self, if_true, hm]
  have : (valV a).cells.toList = encV a := by simp [valV, Value.cells]
  rw [this, hl]
  rfl
theorem KG : KeyG Try.prog 48 31 22 valV okV := ⟨by kernel_rfl, deep_law_gate (by kernel_rfl) (by decide +kernel) (by decide +kernel) (by kernel_rfl) (by kernel_rfl), ko31, fun a b h => encV_inj (by
  have : (encV a).toArray = (encV b).toArray := by simpa [valV] using h
  simpa using this)⟩
end Go.Proofs.Ytlmiimojgledpaa
