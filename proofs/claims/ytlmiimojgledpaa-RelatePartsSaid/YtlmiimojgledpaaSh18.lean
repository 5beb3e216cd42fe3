/- From a law's call to its row, in both forms; all arguments opened at once. -/
import Derived.Test.YtlmiimojgledpaaSh17
import Derived.Test.YtlmiimojgledpaaSh11
import Derived.JoinedCond
import Derived.Deep.CondSized
import Derived.OpenShut
set_option linter.unusedVariables false
set_option linter.unusedSimpArgs false
set_option linter.unusedSectionVars false
namespace Go.Proofs.Ytlmiimojgledpaa
namespace Sh
open RowKit ChangeShapes
/-- all arguments, told by R -/
def OpensA (P : Program) (ts : List TypeId) (α : Type) (R : World → List Value → α → Prop) (bulk : α → Nat) : Prop :=
  ∀ {H : Type} (enc : TypeId × Value → H) (W : World) (vs : List Value) (ds : List (DataW H)) (ps : List MemPlace) (base : Nat),
    (∀ (j : Nat) t v, ts[j]? = some t → vs[j]? = some v → Value.okWide P W .any base t v) →
    DataW.TrodAll enc P W 0 (fun _ => true) true ts vs ds ps → (DataW.weightsEach P ts ds).all (· ≤ reachBytes) = true → ∃ a, R W vs a ∧ bulk a ≤ Rows.uptoBulkAll ds
section
variable {P : Program}
theorem oa_nil : OpensA P [] Unit (fun _ vs _ => vs = []) (fun _ => 0) := by
  intro H enc W vs ds ps base hv h _
  match vs, ds, h with
  | [], [], _ => exact ⟨(), rfl, Nat.zero_le _⟩
theorem OpensA.mono {ts : List TypeId} {α β : Type} {R : World → List Value → α → Prop} {S : World → List Value → β → Prop} {b : α → Nat} {c : β → Nat} (h : OpensA P ts α R b)
    (f : ∀ W vs a, R W vs a → ∃ x, S W vs x ∧ c x ≤ b a) : OpensA P ts β S c := by
  intro H enc W vs ds ps base hv hd hw
  obtain ⟨a, h1, h2⟩ := h enc W vs ds ps base hv hd hw
  obtain ⟨y, h3, h4⟩ := f W vs a h1
  exact ⟨y, h3, Nat.le_trans h4 h2⟩
theorem okWide_base {W : World} {b : Nat} {t : TypeId} {v : Value} (h : Value.okWide P W .any b t v) : Value.okWide P W .any b t v := h
theorem oa_one {t : TypeId} {ts : List TypeId} {α β : Type} {R : RepT α} {S : World → List Value → β → Prop} {b : α → Nat} {c : β → Nat} (h : Opens P t α R b) (hs : isSc P t = true) (h1 : ∀ w cs a, R w cs a → ∃ v, cs = [v])
    (hr : OpensA P ts β S c) : OpensA P (t :: ts) (α × β) (fun w vs x => ∃ v r, vs = v :: r ∧ R w [v] x.1 ∧ S w r x.2) (fun x => b x.1 + c x.2) := by
  intro H enc W vs ds ps base hv hd hw
  match vs, ds, hd with
  | v :: vs, d :: ds, ⟨p, q, k1, k2, k3⟩ =>
    simp only [DataW.weightsEach, List.all_append, Bool.and_eq_true] at hw
    obtain ⟨a, e1, e2⟩ := open_one h hs h1 (hv 0 t v rfl rfl) k1 hw.1
    obtain ⟨a', e3, e4⟩ := hr enc W vs ds q base (fun j t v g1 g2 => hv (j + 1) t v g1 g2) k2 hw.2
    exact ⟨(a, a'), ⟨v, vs, rfl, e1, e3⟩, by simp only [Rows.uptoBulkAll]; omega⟩
theorem oa_agg {t : TypeId} {n : Nat} {ts : List TypeId} {α β : Type} {R : RepT α} {S : World → List Value → β → Prop} {b : α → Nat} {c : β → Nat} (h : Opens P t α R b) (hs : isAg P t n = true)
    (hr : OpensA P ts β S c) : OpensA P (t :: ts) (α × β) (fun w vs x => ∃ cs r, vs = .agg cs :: r ∧ R w cs.toList x.1 ∧ S w r x.2) (fun x => b x.1 + c x.2) := by
  intro H enc W vs ds ps base hv hd hw
  match vs, ds, hd with
  | v :: vs, d :: ds, ⟨p, q, k1, k2, k3⟩ =>
    simp only [DataW.weightsEach, List.all_append, Bool.and_eq_true] at hw
    obtain ⟨a, cs, rfl, e1, e2⟩ := open_agg h hs (hv 0 t v rfl rfl) k1 hw.1
    obtain ⟨a', e3, e4⟩ := hr enc W vs ds q base (fun j t v g1 g2 => hv (j + 1) t v g1 g2) k2 hw.2
    exact ⟨(a, a'), ⟨cs, vs, rfl, e1, e3⟩, by simp only [Rows.uptoBulkAll]; omega⟩
end
section
variable {H : Type} {enc : TypeId × Value → H}
theorem law_from {C : Checked} {os : Os} {f : FuncId} {fn : Func} {s : ChangeSpec} {conds : List PathCond} {tb : TypeId} {α : Type} {R : World → List Value → α → Prop} {b : α → Nat}
    (own : ownKnob C.prog.godebug = none) (started : os.Started) (noInit : C.prog.inits.idxOf? f = none) (hfn : C.prog.funcs[f]? = some fn)
    (witness : ∃ (w : World) (tape : Tape) (i : Input), w.os = os ∧ (w.forCall tape i).Shaped C.prog ∧ i.vars = [] ∧ Input.okWide C.prog (w.forCall tape i) .any w.heap.size f i ∧
      s.pre6 enc C.prog fn conds false (w.forCall tape i).memory i.args ∧ ({} : Assume).holds C.prog (lone (Frame.enter C.prog f i.args .normal) [] (w.forCall tape i)))
    (hv : s.vars = []) (hl : laidOutB C.prog = true) (hp : fn.params.toList.all (fun t => C.prog.readableRec t && decide (t < C.prog.types.size)) = true) (hr : fn.resultTypes = #[tb]) (hb : C.prog.underlying tb = some .bool)
    (hs : ∀ ds : List (DataW H), ds.length = fn.params.toList.length → (s.fn H ds).results = [.lit (.bool true)] ∧ (s.fn H ds).args = ds ∧ (s.fn H ds).vars = [])
    (oa : OpensA C.prog fn.params.toList α R b)
    (law : ∀ (W : World) (vs : List Value) (a : α), R W vs a → Calls C.prog f vs.toArray W (Rt fun v W' => v = .bool true ∧ Below W.heap.size W W')) :
    ReturnsInHanded {} C os f .any (s.pre6 enc C.prog fn conds false) (s.post enc C.prog fn false true false false) := by
  refine law_lifted own started noInit hfn witness hv hl hp hr hb hs ?_
  intro W base args ds p hval hA hz
  obtain ⟨a, h1, _⟩ := oa enc W args.toList ds p base (fun j t v h1 h2 => hval j t v (by simpa using h1) (by simpa using h2)) hA hz
  exact law W args.toList a h1
theorem law_from_upto {C : Checked} {os : Os} {f : FuncId} {fn : Func} {s : ChangeSpec} {conds : List PathCond} {tb : TypeId} {α : Type} {R : World → List Value → α → Prop} {b : α → Nat} {F : Stop.Interp}
    (own : ownKnob C.prog.godebug = none) (started : os.Started) (noInit : C.prog.inits.idxOf? f = none) (hfn : C.prog.funcs[f]? = some fn)
    (witness : ∃ (w : World) (tape : Tape) (i : Input), w.os = os ∧ (w.forCall tape i).Shaped C.prog ∧ i.vars = [] ∧ Input.okWide C.prog (w.forCall tape i) .any w.heap.size f i ∧
      (Rows.OpenSpec.upto s).pre6 enc C.prog fn conds false (w.forCall tape i).memory i.args ∧ ({} : Assume).holds C.prog (lone (Frame.enter C.prog f i.args .normal) [] (w.forCall tape i)))
    (hv : s.vars = []) (hl : laidOutB C.prog = true) (hp : fn.params.toList.all (fun t => C.prog.readableRec t && decide (t < C.prog.types.size)) = true) (hr : fn.resultTypes = #[tb]) (hb : C.prog.underlying tb = some .bool)
    (hs : ∀ ds : List (DataW H), ds.length = fn.params.toList.length → (s.fn H ds).results = [.lit (.bool true)] ∧ (s.fn H ds).args = ds ∧ (s.fn H ds).vars = [])
    (oa : OpensA C.prog fn.params.toList α R b)
    (law : ∀ (W : World) (vs : List Value) (a : α), R W vs a → b a ≤ 1048576 → Calls C.prog f vs.toArray W (Rt fun v W' => v = .bool true ∧ Below W.heap.size W W')) :
    ReturnsInHanded {} C os f .any ((Rows.OpenSpec.upto s).pre6 enc C.prog fn conds false) (((Rows.OpenSpec.upto s).at F).post enc C.prog fn false true false false) := by
  refine returnsInHanded_of_cond_sized (C := C) (s := Rows.OpenSpec.upto s) (k := Rows.uptoSmall) rfl own started noInit hfn witness ?_
  intro W base args ds gs before hval hW _ hk hz _
  have hp' : ∀ t ∈ fn.params.toList, C.prog.readableRec t = true ∧ t < C.prog.types.size := fun t ht => by
    have := List.all_eq_true.1 hp t ht
    simpa using this
  have hW0 : DataW.Whole enc C.prog fn.params.toList s.vars false W args.toList ds gs before := hW
  obtain ⟨p, q, hA, hV, hq⟩ := hW
  have hg : gs = [] := by
    have hV : DataW.TrodVars enc C.prog W (fun _ => true) s.vars gs q := hV
    rw [hv] at hV
    cases gs with
    | nil => rfl
    | cons g gs => exact hV.elim
  subst hg
  have hvt : (Rows.OpenSpec.upto s).bare.plain.varTypes C.prog = [] := by
    show s.plain.varTypes C.prog = []
    simp [ChangeSpec.plain, DataSpec.varTypes, hv]
  rw [hvt, List.append_nil, List.append_nil] at hz
  rw [List.append_nil] at hk
  obtain ⟨a, h1, h2⟩ := oa enc W args.toList ds p base (fun j t v h1 h2 => hval j t v (by simpa using h1) (by simpa using h2)) hA hz
  have hbk : Rows.uptoBulkAll ds ≤ 1048576 := of_decide_eq_true hk
  refine (law W args.toList a h1 (Nat.le_trans h2 hbk)).mono fun e W' he => ?_
  cases e with
  | returned v =>
    obtain ⟨hv', hbel⟩ := he
    subst hv'
    exact ⟨_, rfl, law_post hv hl hp' hr hb hs hW0 hbel⟩
  | panicked c => exact he.elim
  | outgrown => exact he.elim
end
end Sh
end Go.Proofs.Ytlmiimojgledpaa
