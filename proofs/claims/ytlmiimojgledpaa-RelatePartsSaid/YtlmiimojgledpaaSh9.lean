/- The predicate transformers told by equations, at values that are written out; memory behind new blocks, draws, stores. -/
import Derived.Test.YtlmiimojgledpaaSh8
import Derived.Below
set_option linter.unusedVariables false
namespace Go.Proofs.Ytlmiimojgledpaa
namespace Sh
section
variable {w : World} {Q : Value → World → Prop} {K : Value → M} {K0 A B : M} {k j : IntKind} {a b : Int} {x y v : Value}
theorem ad_e : ad k (.int k a) (.int k b) K w Q = K (.int k (k.wrap (a + b))) w Q := by simp [ad]
theorem su_e : su k (.int k a) (.int k b) K w Q = K (.int k (k.wrap (a - b))) w Q := by simp [su]
theorem mu_e : mu k (.int k a) (.int k b) K w Q = K (.int k (k.wrap (a * b))) w Q := by simp [mu]
theorem qu_e : qu k (.int k a) (.int k b) K w Q = (b ≠ 0 ∧ K (.int k (k.wrap (a.tdiv b))) w Q) := by simp [qu]
theorem re_e : re k (.int k a) (.int k b) K w Q = (b ≠ 0 ∧ K (.int k (a.tmod b)) w Q) := by simp [re]
theorem lt_e : lt k (.int k a) (.int k b) K w Q = K (.bool (decide (a < b))) w Q := by simp [lt]
theorem le_e : le k (.int k a) (.int k b) K w Q = K (.bool (decide (a ≤ b))) w Q := by simp [le]
theorem gt_e : gt k (.int k a) (.int k b) K w Q = K (.bool (decide (b < a))) w Q := by simp [gt]
theorem ge_e : ge k (.int k a) (.int k b) K w Q = K (.bool (decide (b ≤ a))) w Q := by simp [ge]
theorem eqi_e : eqi k (.int k a) (.int k b) K w Q = K (.bool (decide (a = b))) w Q := by simp [eqi]
theorem nei_e : nei k (.int k a) (.int k b) K w Q = K (.bool (decide (a ≠ b))) w Q := by simp [nei]
theorem shl_e : shl k j (.int k a) (.int j b) K w Q = (0 ≤ b ∧ K (.int k (k.wrap (a * 2 ^ (min b.toNat k.bits)))) w Q) := by simp [shl]
theorem shr_e : shr k j (.int k a) (.int j b) K w Q = (0 ≤ b ∧ K (.int k (a.fdiv (2 ^ (min b.toNat k.bits)))) w Q) := by simp [shr]
theorem cv_e : cv k (.int j a) K w Q = K (.int k (k.wrap a)) w Q := by
  unfold cv; apply propext; constructor
  · rintro ⟨k', a', h1, h⟩; cases h1; exact h
  · exact fun h => ⟨_, _, rfl, h⟩
theorem nt_e {t : Bool} : nt (.bool t) K w Q = K (.bool !t) w Q := by simp [nt]
theorem pk_e {t : Bool} : pk (.bool t) x y K w Q = K (bif t then x else y) w Q := by simp [pk]
theorem eqb_e {t u : Bool} : eqb (.bool t) (.bool u) K w Q = K (.bool (t == u)) w Q := by simp [eqb]
theorem neb_e {t u : Bool} : neb (.bool t) (.bool u) K w Q = K (.bool !(t == u)) w Q := by simp [neb]
theorem cat_e {s t : ByteArray} : cat (.string s) (.string t) K w Q = (s.size + t.size ≤ 9223372036854775807 ∧ K (.string (s ++ t)) w Q) := by simp [cat]
theorem eqs_e {s t : ByteArray} : eqs (.string s) (.string t) K w Q = K (.bool (decide (s = t))) w Q := by simp [eqs]
theorem nes_e {s t : ByteArray} : nes (.string s) (.string t) K w Q = K (.bool (decide (s ≠ t))) w Q := by simp [nes]
theorem lts_e {s t : ByteArray} : lts (.string s) (.string t) K w Q = K (.bool (Op.bytesLess s.toList t.toList)) w Q := by simp [lts]
theorem gts_e {s t : ByteArray} : gts (.string s) (.string t) K w Q = K (.bool !(Op.bytesLess s.toList t.toList || s.toList == t.toList)) w Q := by simp [gts]
theorem nc_e {p : Addr} : nc (.pointer (some p)) K w Q = K (.pointer (some p)) w Q := by simp [nc, okNil]
theorem fa_e {p : Addr} {n : Nat} : fa n (.pointer (some p)) K w Q = K (.pointer (some (p.add n))) w Q := by simp [fa]
theorem ld_e {p : Addr} : ld (.pointer (some p)) K w Q = ∃ v, w.cell? p = some v ∧ K v w Q := by simp [ld]
theorem ldn_e {p : Addr} {n : Nat} : ldn n (.pointer (some p)) K w Q = ∃ cs, cs.size = n ∧ rds w p cs ∧ K (.agg cs) w Q := by simp [ldn]
theorem st_e {p : Addr} : st (.pointer (some p)) v K0 w Q = ((w.cell? p).isSome = true ∧ w.frozen? p = false ∧ v.oneCell' = true ∧ K0 (w.setCell p v) Q) := by simp [st]
theorem al_e {t : TypeId} {cs : Array Value} : al t cs K w Q = K (.pointer (some ⟨w.heap.size, 0, none⟩)) (psh w (.cells cs t)) Q := rfl
theorem bx_e {t : TypeId} : bx t v K w Q = K (.pointer (some ⟨w.heap.size, 0, none⟩)) (psh w (.cells v.cells t)) Q := rfl
theorem ex_e {i : Nat} {vs : Array Value} : ex i (.tuple vs) K w Q = ∃ v, vs[i]? = some v ∧ K v w Q := by simp [ex]
theorem lnl_e {p : Option Addr} {l c : Nat} : lnl (.slice p l c) K w Q = K (.int .i64 l) w Q := by
  unfold lnl; apply propext; constructor
  · rintro ⟨p', l', c', h1, h⟩; cases h1; exact h
  · exact fun h => ⟨_, _, _, rfl, h⟩
theorem lns_e {s : ByteArray} : lns (.string s) K w Q = K (.int .i64 s.size) w Q := by simp [lns]
theorem ia_e {p : Addr} {n l c : Nat} : ia n (.slice (some p) l c) (.int k a) K w Q = (0 ≤ a ∧ a < l ∧ K (.pointer (some (p.add (a.toNat * n)))) w Q) := by
  unfold ia; apply propext; constructor
  · rintro ⟨p', l', c', k', j', h1, h2, h⟩; cases h1; cases h2; exact h
  · exact fun h => ⟨_, _, _, _, _, rfl, rfl, h⟩
theorem iaa_e {p : Addr} {n l : Nat} : iaa l n (.pointer (some p)) (.int k a) K w Q = (0 ≤ a ∧ a < l ∧ K (.pointer (some (p.add (a.toNat * n)))) w Q) := by
  unfold iaa; apply propext; constructor
  · rintro ⟨p', k', j', h1, h2, h⟩; cases h1; cases h2; exact h
  · exact fun h => ⟨_, _, _, rfl, rfl, h⟩
theorem ixs_e {s : ByteArray} : ixs (.string s) (.int k a) K w Q = (0 ≤ a ∧ ∃ c, s[a.toNat]? = some c ∧ K (.int .u8 (c.toNat : Int)) w Q) := by
  unfold ixs; apply propext; constructor
  · rintro ⟨s', k', j', c', h1, h2, h3, h4, h⟩; cases h1; cases h2; exact ⟨h3, c', h4, h⟩
  · exact fun h => ⟨_, _, _, h.2.choose, rfl, rfl, h.1, h.2.choose_spec⟩
theorem mif_e {t : TypeId} : mif t v K w Q = K (.iface t v) w Q := rfl
theorem mnm_e : mnm (.int k a) (.int k b) K w Q = K (.int k (if b < a then b else a)) w Q := by
  unfold mnm; apply propext; constructor
  · rintro ⟨k', a', b', h1, h2, h⟩; cases h1; cases h2; exact h
  · exact fun h => ⟨_, _, _, rfl, rfl, h⟩
theorem mxm_e : mxm (.int k a) (.int k b) K w Q = K (.int k (if a < b then b else a)) w Q := by
  unfold mxm; apply propext; constructor
  · rintro ⟨k', a', b', h1, h2, h⟩; cases h1; cases h2; exact h
  · exact fun h => ⟨_, _, _, rfl, rfl, h⟩
theorem mm_e : mm K w Q = K (.map (some w.heap.size)) (psh w (.map #[] 0)) Q := rfl
theorem asrt_e {t : TypeId} : asrt t (.iface t v) K w Q = K v w Q := by simp [asrt]
theorem idv_e : idv v K w Q = K v w Q := rfl
theorem cl_e {f : M} : cl f K w Q = f w (fun v w' => K v w' Q) := rfl
theorem cnd_e {t : Bool} : cnd (.bool t) A B w Q = (if t = true then A w Q else B w Q) := by cases t <;> simp [cnd]
theorem gd_e {t u : Bool} {A : (Value → M) → M} : gd (.bool t) u A K w Q = (if t = u then A K w Q else K undef w Q) := by
  cases t <;> cases u <;> simp [gd, gdB]
theorem gd_u {u : Bool} {A : (Value → M) → M} {K : Value → M} {w Q} : gd undef u A K w Q = K undef w Q := rfl
theorem gdu_e {t u : Bool} {A : M → M} : gdu (.bool t) u A K0 w Q = (if t = u then A K0 w Q else K0 w Q) := by
  cases t <;> cases u <;> simp [gdu, gdB]
theorem rt_e : rt v w Q = Q v w := rfl
theorem jn_e {α : Type} {F : α → M} {c : α} : jn F c w Q = F c w Q := rfl
theorem dr_q {X : M} : dr X w Q = X (drw w) Q := rfl
theorem kp_e {F : World → Prop} {X : M} : kp F X w Q = (F w ∧ X w Q) := rfl
theorem smr_e {P : Program} {s : Sem Value} : smr P s K w Q = ∃ v, s.run P w = .ok v w ∧ K v w Q := rfl
theorem sm_e {P : Program} {s : Sem Value} : sm P s K w Q = ∃ v w', s.run P w = .ok v w' ∧ K v w' Q := rfl
theorem amb_e {X Y : M} : amb X Y w Q = (X w Q ∧ Y w Q) := rfl
theorem Kld_e {p : Addr} : Kld (.pointer (some p)) v w = (w.cell? p = some v) := by simp [Kld]
theorem Ksm_e {P : Program} {s : Sem Value} : Ksm P s v w = (s.run P w = .ok v w) := rfl
theorem Kldn_e {p : Addr} {n : Nat} {cs : Array Value} : Kldn n (.pointer (some p)) (.agg cs) w = (cs.size = n ∧ rds w p cs) := by
  unfold Kldn; apply propext; constructor
  · rintro ⟨p', cs', h1, h2, h3, h4⟩; cases h1; cases h4; exact ⟨h2, h3⟩
  · exact fun h => ⟨_, _, rfl, h.1, h.2, rfl⟩
theorem pk_t : pk (.bool true) x y K w Q = K x w Q := by simp [pk]
theorem pk_f : pk (.bool false) x y K w Q = K y w Q := by simp [pk]
theorem get4_0 {a b c d : Value} : (#[a, b, c, d] : Array Value)[0]? = some a := rfl
theorem get4_1 {a b c d : Value} : (#[a, b, c, d] : Array Value)[1]? = some b := rfl
theorem get4_2 {a b c d : Value} : (#[a, b, c, d] : Array Value)[2]? = some c := rfl
theorem get4_3 {a b c d : Value} : (#[a, b, c, d] : Array Value)[3]? = some d := rfl
theorem get3_0 {a b c : Value} : (#[a, b, c] : Array Value)[0]? = some a := rfl
theorem get3_1 {a b c : Value} : (#[a, b, c] : Array Value)[1]? = some b := rfl
theorem get3_2 {a b c : Value} : (#[a, b, c] : Array Value)[2]? = some c := rfl
theorem get2_0 {a b : Value} : (#[a, b] : Array Value)[0]? = some a := rfl
theorem get2_1 {a b : Value} : (#[a, b] : Array Value)[1]? = some b := rfl
theorem get1_0 {a : Value} : (#[a] : Array Value)[0]? = some a := rfl
end

/-! memory -/
section
variable {w : World} {o : Obj} {b n : Nat}
theorem size_psh : (psh w o).heap.size = w.heap.size + 1 := by simp [psh]
theorem size_drw : (drw w).heap.size = w.heap.size := rfl
theorem size_setCell {p : Addr} {v : Value} : (w.setCell p v).heap.size = w.heap.size := by simp [World.setCell]
theorem blk_psh_new : (psh w o).heap[w.heap.size]? = some o := by
  show (w.heap.push o)[w.heap.size]? = some o
  simp
theorem blk_psh_old (h : b < w.heap.size) : (psh w o).heap[b]? = w.heap[b]? := by
  simp only [psh, Array.getElem?_push]; rw [if_neg (by omega)]
theorem blk_drw : (drw w).heap[b]? = w.heap[b]? := rfl
theorem cell_of_blk {c : Array Value} {t : TypeId} {fr : Nat × Nat} (h : w.heap[b]? = some (.cells c t fr)) : w.cell? ⟨b, n, none⟩ = c[n]? := by
  simp [World.cell?, h]
theorem cell_psh_new {c : Array Value} {t : TypeId} : (psh w (.cells c t)).cell? ⟨w.heap.size, n, none⟩ = c[n]? := cell_of_blk blk_psh_new
theorem cell_psh_old {p : Addr} (h : p.block < w.heap.size) : (psh w o).cell? p = w.cell? p := by
  unfold World.cell?; rw [blk_psh_old h]
theorem cell_drw {p : Addr} : (drw w).cell? p = w.cell? p := rfl
theorem add_lit {m : Nat} : (⟨b, m, none⟩ : Addr).add n = ⟨b, m + n, none⟩ := by
  unfold Addr.add; by_cases h : n = 0
  · simp [h]
  · simp [h]
theorem rds_of_blk {c cs : Array Value} {t : TypeId} {fr : Nat × Nat} {m : Nat} (h : w.heap[b]? = some (.cells c t fr)) (hc : ∀ j v, cs[j]? = some v → c[m + j]? = some v) : rds w ⟨b, m, none⟩ cs := by
  intro j v hj
  rw [add_lit, cell_of_blk h]
  exact hc j v hj
/-- Below what was there the new world is as the old one. -/
theorem Below_psh {B : Nat} {a : World} (h : RowKit.Below B a w) (hB : B ≤ w.heap.size) : RowKit.Below B a (psh w o) :=
  h.trans ⟨rfl, rfl, rfl, by simp [psh], fun k hk => blk_psh_old (by omega)⟩
theorem Below_drw {B : Nat} {a : World} (h : RowKit.Below B a w) : RowKit.Below B a (drw w) := ⟨h.os, h.tape, h.output, h.size, h.block⟩
end
end Sh
end Go.Proofs.Ytlmiimojgledpaa
