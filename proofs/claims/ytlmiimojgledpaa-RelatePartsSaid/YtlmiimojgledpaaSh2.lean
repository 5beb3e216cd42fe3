/- The operations of Go code as predicate transformers, and for each that the machine's own operation does what it says. -/
import Derived.Test.YtlmiimojgledpaaSh1
import Derived.Laws.Sem
import Derived.Laws.Cells
namespace Go.Proofs.Ytlmiimojgledpaa
namespace Sh
/-- One block more. -/
def psh (w : World) (o : Obj) : World := { w with heap := w.heap.push o }
/-- One draw more. -/
def drw (w : World) : World := { w with drawn := w.drawn + 1 }
/-- A block's new content. -/
def sb (w : World) (b : Nat) (o : Obj) : World := { w with heap := w.heap.setIfInBounds b o }

/-! closed looks into the tables -/
def isSc (P : Program) (t : TypeId) : Bool := match P.underlying t with | some (.struct _) | some (.array _ _) | none => false | _ => true
def isAg (P : Program) (t : TypeId) (n : Nat) : Bool := (match P.underlying t with | some (.struct _) | some (.array _ _) => true | _ => false) && ((P.info? t).map (·.size) == some n)
def isOne (P : Program) (t : TypeId) : Bool := (P.info? t).map (·.size) == some 1
def fOff (P : Program) (s f k : Nat) : Bool := match P.underlying s with
  | some (.struct fs) => match fs[f]? with
    | some fd => fd.offset == k && (match P.info? fd.type with | some i => i.size != 0 | none => false)
    | none => false
  | _ => false
def slE (P : Program) (t n : Nat) : Bool := match P.underlying t with | some (.slice e) => (P.info? e).map (·.size) == some n | _ => false
def arE (P : Program) (t len n : Nat) : Bool := match P.underlying t with | some (.array l e) => l == len && (P.info? e).map (·.size) == some n | _ => false
def isInt (P : Program) (t : TypeId) (k : IntKind) : Bool := match P.underlying t with | some (.int j) => j == k | _ => false
def isStr (P : Program) (t : TypeId) : Bool := match P.underlying t with | some .string => true | _ => false
def isBool (P : Program) (t : TypeId) : Bool := match P.underlying t with | some .bool => true | _ => false
def isPtr (P : Program) (t : TypeId) : Bool := match P.underlying t with | some (.pointer _) => true | _ => false
def isMap (P : Program) (t : TypeId) : Bool := match P.underlying t with | some (.map _ _) => true | _ => false
def isFn (P : Program) (t : TypeId) : Bool := match P.underlying t with | some (.func _ _ _) => true | _ => false
def isSl (P : Program) (t : TypeId) : Bool := match P.underlying t with | some (.slice _) => true | _ => false
def isIface (P : Program) (t : TypeId) : Bool := match P.underlying t with | some (.interface _) => true | _ => false
def isConc (P : Program) (t : TypeId) : Bool := match P.underlying t with | some (.interface _) | none => false | _ => true
def zeroIs (P : Program) (t : TypeId) (z : Value) : Prop := (P.info? t).bind (·.zero) = some z

/-! the operations -/
def okNil : Value → Bool
  | .pointer none | .nilIface | .nilFunc => false
  | .func (.method _) _ _ => false
  | _ => true
def nc (x : Value) (K : Value → M) : M := fun w Q => okNil x = true ∧ K x w Q
def fa (k : Nat) (x : Value) (K : Value → M) : M := fun w Q => ∃ a, x = .pointer (some a) ∧ K (.pointer (some (a.add k))) w Q
def ld (x : Value) (K : Value → M) : M := fun w Q => ∃ a v, x = .pointer (some a) ∧ w.cell? a = some v ∧ K v w Q
def rds (w : World) (a : Addr) (cs : Array Value) : Prop := ∀ j v, cs[j]? = some v → w.cell? (a.add j) = some v
def ldn (n : Nat) (x : Value) (K : Value → M) : M := fun w Q => ∃ a cs, x = .pointer (some a) ∧ cs.size = n ∧ rds w a cs ∧ K (.agg cs) w Q
def st (x v : Value) (K : M) : M := fun w Q => ∃ a, x = .pointer (some a) ∧ (w.cell? a).isSome = true ∧ w.frozen? a = false ∧ v.oneCell' = true ∧ K (w.setCell a v) Q
def sts : World → Addr → List Value → Nat → Option World
  | w, _, [], _ => some w
  | w, a, v :: r, i => if (w.cell? (a.add i)).isSome && !(w.frozen? (a.add i)) && v.oneCell' then sts (w.setCell (a.add i) v) a r (i + 1) else none
def stn (n : Nat) (x v : Value) (K : M) : M := fun w Q => ∃ a cs w', x = .pointer (some a) ∧ v = .agg cs ∧ cs.size = n ∧ sts w a cs.toList 0 = some w' ∧ K w' Q
def ad (k : IntKind) (x y : Value) (K : Value → M) : M := fun w Q => ∃ a b, x = .int k a ∧ y = .int k b ∧ K (.int k (k.wrap (a + b))) w Q
def su (k : IntKind) (x y : Value) (K : Value → M) : M := fun w Q => ∃ a b, x = .int k a ∧ y = .int k b ∧ K (.int k (k.wrap (a - b))) w Q
def mu (k : IntKind) (x y : Value) (K : Value → M) : M := fun w Q => ∃ a b, x = .int k a ∧ y = .int k b ∧ K (.int k (k.wrap (a * b))) w Q
def qu (k : IntKind) (x y : Value) (K : Value → M) : M := fun w Q => ∃ a b, x = .int k a ∧ y = .int k b ∧ b ≠ 0 ∧ K (.int k (k.wrap (a.tdiv b))) w Q
def re (k : IntKind) (x y : Value) (K : Value → M) : M := fun w Q => ∃ a b, x = .int k a ∧ y = .int k b ∧ b ≠ 0 ∧ K (.int k (a.tmod b)) w Q
def lt (k : IntKind) (x y : Value) (K : Value → M) : M := fun w Q => ∃ a b, x = .int k a ∧ y = .int k b ∧ K (.bool (decide (a < b))) w Q
def le (k : IntKind) (x y : Value) (K : Value → M) : M := fun w Q => ∃ a b, x = .int k a ∧ y = .int k b ∧ K (.bool (decide (a ≤ b))) w Q
def gt (k : IntKind) (x y : Value) (K : Value → M) : M := fun w Q => ∃ a b, x = .int k a ∧ y = .int k b ∧ K (.bool (decide (b < a))) w Q
def ge (k : IntKind) (x y : Value) (K : Value → M) : M := fun w Q => ∃ a b, x = .int k a ∧ y = .int k b ∧ K (.bool (decide (b ≤ a))) w Q
def eqi (k : IntKind) (x y : Value) (K : Value → M) : M := fun w Q => ∃ a b, x = .int k a ∧ y = .int k b ∧ K (.bool (decide (a = b))) w Q
def nei (k : IntKind) (x y : Value) (K : Value → M) : M := fun w Q => ∃ a b, x = .int k a ∧ y = .int k b ∧ K (.bool (decide (a ≠ b))) w Q
def bws (op : BinOp) (k : IntKind) (x y : Value) (K : Value → M) : M := fun w Q => ∃ a b v, x = .int k a ∧ y = .int k b ∧ (∀ P : Program, ∀ w : World, (Op.intBits op k a b).run P w = .ok v w) ∧ K v w Q
def shl (k j : IntKind) (x y : Value) (K : Value → M) : M := fun w Q => ∃ a b, x = .int k a ∧ y = .int j b ∧ 0 ≤ b ∧ K (.int k (k.wrap (a * 2 ^ (min b.toNat k.bits)))) w Q
def shr (k j : IntKind) (x y : Value) (K : Value → M) : M := fun w Q => ∃ a b, x = .int k a ∧ y = .int j b ∧ 0 ≤ b ∧ K (.int k (a.fdiv (2 ^ (min b.toNat k.bits)))) w Q
def cat (x y : Value) (K : Value → M) : M := fun w Q => ∃ a b, x = .string a ∧ y = .string b ∧ a.size + b.size ≤ 9223372036854775807 ∧ K (.string (a ++ b)) w Q
def eqs (x y : Value) (K : Value → M) : M := fun w Q => ∃ a b, x = .string a ∧ y = .string b ∧ K (.bool (decide (a = b))) w Q
def nes (x y : Value) (K : Value → M) : M := fun w Q => ∃ a b, x = .string a ∧ y = .string b ∧ K (.bool (decide (a ≠ b))) w Q
def lts (x y : Value) (K : Value → M) : M := fun w Q => ∃ a b, x = .string a ∧ y = .string b ∧ K (.bool (Op.bytesLess a.toList b.toList)) w Q
def gts (x y : Value) (K : Value → M) : M := fun w Q => ∃ a b, x = .string a ∧ y = .string b ∧ K (.bool !(Op.bytesLess a.toList b.toList || a.toList == b.toList)) w Q
def eqb (x y : Value) (K : Value → M) : M := fun w Q => ∃ a b, x = .bool a ∧ y = .bool b ∧ K (.bool (a == b)) w Q
def neb (x y : Value) (K : Value → M) : M := fun w Q => ∃ a b, x = .bool a ∧ y = .bool b ∧ K (.bool !(a == b)) w Q
def nt (x : Value) (K : Value → M) : M := fun w Q => ∃ b, x = .bool b ∧ K (.bool !b) w Q
def pk (c x y : Value) (K : Value → M) : M := fun w Q => ∃ b, c = .bool b ∧ K (bif b then x else y) w Q
def cv (k : IntKind) (x : Value) (K : Value → M) : M := fun w Q => ∃ j a, x = .int j a ∧ K (.int k (k.wrap a)) w Q
def al (t : TypeId) (cs : Array Value) (K : Value → M) : M := fun w Q => K (.pointer (some ⟨w.heap.size, 0, none⟩)) (psh w (.cells cs t)) Q
def bx (t : TypeId) (v : Value) (K : Value → M) : M := fun w Q => K (.pointer (some ⟨w.heap.size, 0, none⟩)) (psh w (.cells v.cells t)) Q
def ex (i : Nat) (x : Value) (K : Value → M) : M := fun w Q => ∃ vs v, x = .tuple vs ∧ vs[i]? = some v ∧ K v w Q
def fld (off : Nat) (x : Value) (K : Value → M) : M := fun w Q => ∃ cs v, x = .agg cs ∧ cs[off]? = some v ∧ K v w Q
def fldn (off n : Nat) (x : Value) (K : Value → M) : M := fun w Q => ∃ cs, x = .agg cs ∧ K (.agg (cs.extract off (off + n))) w Q
def lnl (x : Value) (K : Value → M) : M := fun w Q => ∃ a l c, x = .slice a l c ∧ K (.int .i64 l) w Q
def lns (x : Value) (K : Value → M) : M := fun w Q => ∃ s, x = .string s ∧ K (.int .i64 s.size) w Q
def ia (n : Nat) (x i : Value) (K : Value → M) : M := fun w Q => ∃ a l c k j, x = .slice (some a) l c ∧ i = .int k j ∧ 0 ≤ j ∧ j < l ∧ K (.pointer (some (a.add (j.toNat * n)))) w Q
def iaa (len n : Nat) (x i : Value) (K : Value → M) : M := fun w Q => ∃ a k j, x = .pointer (some a) ∧ i = .int k j ∧ 0 ≤ j ∧ j < len ∧ K (.pointer (some (a.add (j.toNat * n)))) w Q
def ixs (x i : Value) (K : Value → M) : M := fun w Q => ∃ s k j b, x = .string s ∧ i = .int k j ∧ 0 ≤ j ∧ s[j.toNat]? = some b ∧ K (.int .u8 (b.toNat : Int)) w Q
def bnd (o : Option Value) (d m : Nat) (l : Nat) : Prop := match o with | none => l = d | some v => ∃ k j, v = .int k j ∧ 0 ≤ j ∧ j ≤ m ∧ l = j.toNat
def sls (x : Value) (lo hi : Option Value) (K : Value → M) : M := fun w Q => ∃ s l h, x = .string s ∧ bnd hi s.size s.size h ∧ bnd lo 0 h l ∧ K (.string (s.extract l h)) w Q
def sll (n : Nat) (x : Value) (lo hi : Option Value) (K : Value → M) : M := fun w Q => ∃ a len cap l h, x = .slice a len cap ∧ bnd hi len cap h ∧ bnd lo 0 h l ∧ K (.slice (if cap = l then a else a.map (·.add (l * n))) (h - l) (cap - l)) w Q
def sla (len n : Nat) (x : Value) (lo hi : Option Value) (K : Value → M) : M := fun w Q => ∃ a l h, x = .pointer (some a) ∧ bnd hi len len h ∧ bnd lo 0 h l ∧ K (.slice (some (if len = l then a else a.add (l * n))) (h - l) (len - l)) w Q
def mif (t : TypeId) (x : Value) (K : Value → M) : M := fun w Q => K (.iface t x) w Q
def mnm (x y : Value) (K : Value → M) : M := fun w Q => ∃ k a b, x = .int k a ∧ y = .int k b ∧ K (.int k (if b < a then b else a)) w Q
def mxm (x y : Value) (K : Value → M) : M := fun w Q => ∃ k a b, x = .int k a ∧ y = .int k b ∧ K (.int k (if a < b then b else a)) w Q
def mm (K : Value → M) : M := fun w Q => K (.map (some w.heap.size)) (psh w (.map #[] 0)) Q
def asrt (t : TypeId) (x : Value) (K : Value → M) : M := fun w Q => ∃ v, x = .iface t v ∧ K v w Q
/-- Any operation that yields a value, by its own run. -/
def sm (P : Program) (s : Sem Value) (K : Value → M) : M := fun w Q => ∃ v w', s.run P w = .ok v w' ∧ K v w' Q
def smu (P : Program) (s : Sem Unit) (K : M) : M := fun w Q => ∃ w', s.run P w = .ok () w' ∧ K w' Q
/-- A call that another predicate transformer tells. -/
def cl (f : M) (K : Value → M) : M := fun w Q => f w (fun v w' => K v w' Q)
def cc (P : Program) (f : FuncId) (args : Array Value) (K : Value → M) : M := fun w Q => Calls P f args w (Rt (fun v w' => K v w' Q))
/-- A call of a function value. -/
def cf (P : Program) (x : Value) (args : Array Value) (K : Value → M) : M := fun w Q => ∃ f z cap, x = .func (.func f) z cap ∧ (callFunc f (z ++ args ++ cap)).run P w = .ok (.enter f (z ++ args ++ cap)) w ∧ Calls P f (z ++ args ++ cap) w (Rt (fun v w' => K v w' Q))
/-- A call through an interface. -/
def ci (P : Program) (x : Value) (m : String) (args : Array Value) (K : Value → M) : M := fun w Q => ∃ f as w1, (callMethod x m args).run P w = .ok (.enter f as) w1 ∧ Calls P f as w1 (Rt (fun v w' => K v w' Q))
def cnd (c : Value) (A B : M) : M := fun w Q => ∃ b, c = .bool b ∧ (bif b then A w Q else B w Q)
def gdB (v : Value) (want : Bool) : Bool := match v with | .bool b => b == want | _ => false
def gd (v : Value) (want : Bool) (A : (Value → M) → M) (K : Value → M) : M := fun w Q => bif gdB v want then A K w Q else K undef w Q
def gdu (v : Value) (want : Bool) (A : M → M) (K : M) : M := fun w Q => bif gdB v want then A K w Q else K w Q
def rt (v : Value) : M := fun w Q => Q v w
def lp (f : Nat → M) : M := fun w Q => ∃ k, f k w Q
def bot : M := fun _ _ => False
end Sh
end Go.Proofs.Ytlmiimojgledpaa
