/- A rule for each operation of the walk over frames. Conditions: none. -/
import Derived.Test.YteonolnfgppagaaDoorWorld
namespace Go.Proofs.YteonolnfgppagaaDoor
open Go.RowKit
attribute [local semireducible] WC WOps thenQ blockQ scopeQ finQ finD stepP

/-! ### What a program's table says of a type -/
def aggD : TypeDesc → Bool
  | .struct _ => true
  | .array _ _ => true
  | _ => false
class OneT (P : Program) (T : TypeId) : Prop where
  out : ∃ d, P.underlying T = some d ∧ aggD d = false
class AggT (P : Program) (T : TypeId) (size : outParam Nat) : Prop where
  out : (∃ d, P.underlying T = some d ∧ aggD d = true) ∧ ∃ i, P.info? T = some i ∧ i.size = size
class SizeT (P : Program) (T : TypeId) (size : outParam Nat) : Prop where
  out : ∃ i, P.info? T = some i ∧ i.size = size
class ZeroT (P : Program) (T : TypeId) (L : outParam (List Value)) : Prop where
  out : ∃ i z, P.info? T = some i ∧ i.zero = some z ∧ z.cells = L.toArray
class SlT (P : Program) (T : TypeId) (e size bytes : outParam Nat) (z : outParam Value) : Prop where
  und : P.underlying T = some (.slice e)
  out : ∃ i, P.info? e = some i ∧ i.zero = some z ∧ i.size = size ∧ i.bytes = bytes
class ArrT (P : Program) (T : TypeId) (len e size : outParam Nat) : Prop where
  und : P.underlying T = some (.array len e)
  out : ∃ i, P.info? e = some i ∧ i.size = size
class FieldT (P : Program) (T : TypeId) (i : Nat) (off : outParam Nat) (ft : outParam TypeId) : Prop where
  out : ∃ fs fld, P.underlying T = some (.struct fs) ∧ fs[i]? = some fld ∧ fld.offset = off ∧ fld.type = ft ∧ ∃ j, P.info? ft = some j ∧ j.size ≠ 0
class StrT (P : Program) (T : TypeId) : Prop where
  out : P.underlying T = some .string
class IntT (P : Program) (T : TypeId) (k : outParam IntKind) : Prop where
  out : P.underlying T = some (.int k)
class PlainFn (P : Program) (g : FuncId) : Prop where
  out : ∃ fn, P.funcs[g]? = some fn ∧ ¬ fn.name = "runtime.NumGoroutine" ∧ ¬ fn.body = none

variable {P : Program} {all : Array Oper} {Z : Fr → DS → List PanicEntry → World → Prop} {K : Fr → DS → World → Prop} {rest : List Oper} {f : Fr} {ds : DS} {w : World}
  {d : Nat} {ty : TypeId} {pos : String} {af : Array Edge}

theorem W_nil (h : K f ds w) : WOps P all Z K [] f ds w := h

theorem W_val {o : Oper} {v : Value} {w' : World} (hg : o.guard = none) (hr : (execOp (ev f) o).run P w = .ok (.value v) w') (h : WOps P all Z K rest (putF f o.dst v) ds w') : WOps P all Z K (o :: rest) f ds w := by
  unfold WOps
  rw [hg]
  simp only [wantedF, if_true, stepP, hr]
  exact h
theorem W_skp {o : Oper} {w' : World} (hg : o.guard = none) (hr : (execOp (ev f) o).run P w = .ok .skip w') (h : WOps P all Z K rest (putF f o.dst undef) ds w') : WOps P all Z K (o :: rest) f ds w := by
  unfold WOps
  rw [hg]
  simp only [wantedF, if_true, stepP, hr]
  exact h

/-- a guard that says yes, or no -/
theorem W_yes {dst : Option Nat} {op : Op} {j : Nat} {want : Bool} (hv : guardVal all f j = some want) (h : WOps P all Z K (⟨dst, op, ty, pos, af, none⟩ :: rest) f ds w) : WOps P all Z K (⟨dst, op, ty, pos, af, some (j, want)⟩ :: rest) f ds w := by
  unfold WOps at h ⊢
  simp only [wantedF, hv, beq_self_eq_true, if_true] at h ⊢
  exact h
theorem W_no {dst : Option Nat} {op : Op} {j : Nat} {want : Bool} (hv : (guardVal all f j == some want) = false) (h : WOps P all Z K rest (putF f dst undef) ds w) : WOps P all Z K (⟨dst, op, ty, pos, af, some (j, want)⟩ :: rest) f ds w := by
  unfold WOps
  have e : wantedF all f (some (j, want)) = false := hv
  simp only [e, Bool.false_eq_true, if_false]
  exact h

theorem W_move {x : Operand} (h : WOps P all Z K rest (upd f d (ev f x)) ds w) : WOps P all Z K (⟨some d, .move x, ty, pos, af, none⟩ :: rest) f ds w :=
  W_val rfl (by simp [execOp]) h
theorem W_assign {x : Operand} (h : WOps P all Z K rest (upd f d (ev f x)) ds w) : WOps P all Z K (⟨some d, .assign x, ty, pos, af, none⟩ :: rest) f ds w :=
  W_val rfl (by simp [execOp]) h
theorem W_pick_t {c x y : Operand} (hc : ev f c = .bool true) (h : WOps P all Z K rest (upd f d (ev f x)) ds w) : WOps P all Z K (⟨some d, .pick c x y, ty, pos, af, none⟩ :: rest) f ds w :=
  W_val rfl (by simp [execOp, hc, asBool]) h
theorem W_pick_f {c x y : Operand} (hc : ev f c = .bool false) (h : WOps P all Z K rest (upd f d (ev f y)) ds w) : WOps P all Z K (⟨some d, .pick c x y, ty, pos, af, none⟩ :: rest) f ds w :=
  W_val rfl (by simp [execOp, hc, asBool]) h

theorem run_zero {T : TypeId} {L : List Value} [h : ZeroT P T L] (w : World) : ∃ z, (zeroValue T).run P w = .ok z w ∧ z.cells = L.toArray := by
  obtain ⟨i, z, hi, hz, hc⟩ := h.out
  exact ⟨z, by simp [zeroValue, typeInfo, hi, hz], hc⟩

theorem W_alloc {T : TypeId} {L : List Value} [hT : ZeroT P T L] (h : ∀ w', New w w' T L → WOps P all Z K rest (upd f d (.pointer (some ⟨w.heap.size, 0, none⟩))) ds w') :
    WOps P all Z K (⟨some d, .alloc T, ty, pos, af, none⟩ :: rest) f ds w := by
  obtain ⟨z, hz, hc⟩ := run_zero (P := P) (T := T) w
  refine W_val (v := .pointer (some ⟨w.heap.size, 0, none⟩)) (w' := w.alloc (.cells L.toArray T)) rfl ?_ (h _ (New.mk_alloc w L T))
  simp [execOp, Instr.alloc, hz, newVar, newRow, newObj, hc, Sem.run]

theorem W_box {T : TypeId} {x : Operand} {L : List Value} (hx : (ev f x).cells = L.toArray) (h : ∀ w', New w w' T L → WOps P all Z K rest (upd f d (.pointer (some ⟨w.heap.size, 0, none⟩))) ds w') :
    WOps P all Z K (⟨some d, .box T x, ty, pos, af, none⟩ :: rest) f ds w := by
  refine W_val (v := .pointer (some ⟨w.heap.size, 0, none⟩)) (w' := w.alloc (.cells L.toArray T)) rfl ?_ (h _ (New.mk_alloc w L T))
  simp [execOp, Instr.box, newVar, newRow, newObj, hx, Sem.run]

theorem W_load {T : TypeId} {a : Operand} {b o : Nat} {v : Value} [hT : OneT P T] (ha : ev f a = .pointer (some ⟨b, o, none⟩)) (hc : w.cell? ⟨b, o, none⟩ = some v) (h : WOps P all Z K rest (upd f d v) ds w) :
    WOps P all Z K (⟨some d, .load T a, ty, pos, af, none⟩ :: rest) f ds w := by
  obtain ⟨dd, h1, h2⟩ := hT.out
  refine W_val (v := v) rfl ?_ h
  have e : (isAgg T).run P w = .ok false w := by
    simp only [isAgg, Sem.run_bind, run_underlying h1, Result.andThen_ok]
    cases dd <;> simp_all [aggD]
  simp only [execOp, ha, Instr.loadAt, Instr.sureAddr, loadVar, Sem.run_bind, Sem.run_pure, Result.andThen_ok, e]
  simp [run_load, hc]

theorem W_load_agg {T : TypeId} {a : Operand} {b o n : Nat} {L : List Value} [hT : AggT P T n] (ha : ev f a = .pointer (some ⟨b, o, none⟩)) (hl : L.length = n) (hc : Cells w b o L)
    (h : WOps P all Z K rest (upd f d (.agg L.toArray)) ds w) : WOps P all Z K (⟨some d, .load T a, ty, pos, af, none⟩ :: rest) f ds w := by
  obtain ⟨⟨dd, h1, h2⟩, i, hi, hs⟩ := hT.out
  refine W_val (v := .agg L.toArray) rfl ?_ h
  have e : (isAgg T).run P w = .ok true w := by
    simp only [isAgg, Sem.run_bind, run_underlying h1, Result.andThen_ok]
    cases dd <;> simp_all [aggD]
  have hr := run_loadCells_list (P := P) w ⟨b, o, none⟩ L (fun j v hj => by rw [Addr.add_lit]; exact hc j v hj)
  rw [hl, ← hs] at hr
  simp only [execOp, ha, Instr.loadAt, Instr.sureAddr, loadVar, Sem.run_bind, Sem.run_pure, Result.andThen_ok, e, if_true, sizeOf, typeInfo, program]
  simp [Sem.run, hi, hr]

theorem W_store {T bt : TypeId} {a x : Operand} {b o : Nat} {v : Value} {L : List Value} [hT : SizeT P T 1] (ha : ev f a = .pointer (some ⟨b, o, none⟩)) (hx : ev f x = v) (h1 : v.oneCell' = true)
    (hb : Blk w b bt L) (ho : o < L.length) (h : ∀ w', Put w w' b bt (L.set o v) → WOps P all Z K rest f ds w') :
    WOps P all Z K (⟨none, .store T a x, ty, pos, af, none⟩ :: rest) f ds w := by
  obtain ⟨i, hi, hs⟩ := hT.out
  refine W_skp (w' := w.setCell ⟨b, o, none⟩ v) rfl ?_ (h _ (Put.mk_setCell hb o v))
  have hv : v.cells = #[v] := by cases v <;> simp_all [Value.cells, Value.oneCell']
  have hc : w.cell? ⟨b, o, none⟩ = some L[o] := hb.cell (by simp [ho])
  have hf := hb.frozen o
  simp only [execOp, ha, hx, Instr.storeAt, Instr.sureAddr, storeVar, Sem.run_bind, Sem.run_pure, Result.andThen_ok, sizeOf, typeInfo, program]
  simp [Sem.run, hi, hs, hv, storeCells, run_store P w _ v .plain h1, hc, hf, Addr.add]

/-! ### Numbers -/
def inR (k : IntKind) (n : Int) : Prop := k.min ≤ n ∧ n ≤ k.max
theorem wrap_in {k : IntKind} {n : Int} (h : inR k n) : k.wrap n = n := by
  obtain ⟨h1, h2⟩ := h
  cases k <;> simp [IntKind.min, IntKind.max, IntKind.signed, IntKind.bits] at h1 h2 <;> simp [IntKind.wrap, IntKind.signed, IntKind.bits] <;> omega
theorem inR_i64 {n : Int} (h1 : -9223372036854775808 ≤ n) (h2 : n ≤ 9223372036854775807) : inR .i64 n := by
  simp only [inR, IntKind.min, IntKind.max, IntKind.signed, IntKind.bits]; exact ⟨by simpa using h1, by simpa using h2⟩
theorem inR_u8 {n : Int} (h1 : 0 ≤ n) (h2 : n ≤ 255) : inR .u8 n := by
  simp only [inR, IntKind.min, IntKind.max, IntKind.signed, IntKind.bits]; exact ⟨by simpa using h1, by simpa using h2⟩
theorem inR_u16 {n : Int} (h1 : 0 ≤ n) (h2 : n ≤ 65535) : inR .u16 n := by
  simp only [inR, IntKind.min, IntKind.max, IntKind.signed, IntKind.bits]; exact ⟨by simpa using h1, by simpa using h2⟩

section
variable {x y : Operand} {xt yt : TypeId} {k : IntKind} {a b : Int}
theorem W_add (hx : ev f x = .int k a) (hy : ev f y = .int k b) (hr : inR k (a + b)) (h : WOps P all Z K rest (upd f d (.int k (a + b))) ds w) :
    WOps P all Z K (⟨some d, .binOp .add xt x y yt, ty, pos, af, none⟩ :: rest) f ds w :=
  W_val rfl (by simp [execOp, hx, hy, eqGuard, binOp, Op.intArith, wrap_in hr]) h
theorem W_sub (hx : ev f x = .int k a) (hy : ev f y = .int k b) (hr : inR k (a - b)) (h : WOps P all Z K rest (upd f d (.int k (a - b))) ds w) :
    WOps P all Z K (⟨some d, .binOp .sub xt x y yt, ty, pos, af, none⟩ :: rest) f ds w :=
  W_val rfl (by simp [execOp, hx, hy, eqGuard, binOp, Op.intArith, wrap_in hr]) h
theorem W_mul (hx : ev f x = .int k a) (hy : ev f y = .int k b) (hr : inR k (a * b)) (h : WOps P all Z K rest (upd f d (.int k (a * b))) ds w) :
    WOps P all Z K (⟨some d, .binOp .mul xt x y yt, ty, pos, af, none⟩ :: rest) f ds w :=
  W_val rfl (by simp [execOp, hx, hy, eqGuard, binOp, Op.intArith, wrap_in hr]) h
theorem W_quo (hx : ev f x = .int k a) (hy : ev f y = .int k b) (ha : 0 ≤ a) (hb : 0 < b) (hr : inR k a) (h : WOps P all Z K rest (upd f d (.int k (a / b))) ds w) :
    WOps P all Z K (⟨some d, .binOp .quo xt x y yt, ty, pos, af, none⟩ :: rest) f ds w := by
  have e : a.tdiv b = a / b := Int.tdiv_eq_ediv_of_nonneg ha
  have h1 : a / b ≤ a := Int.ediv_le_self b ha
  have h0 : 0 ≤ a / b := Int.ediv_nonneg ha (by omega)
  have hm : k.min ≤ 0 := by cases k <;> decide
  have hr' : inR k (a / b) := ⟨by omega, by have := hr.2; omega⟩
  exact W_val rfl (by simp [execOp, hx, hy, eqGuard, binOp, Op.intDiv, show ¬ b = 0 by omega, e, wrap_in hr']) h
theorem W_rem (hx : ev f x = .int k a) (hy : ev f y = .int k b) (ha : 0 ≤ a) (hb : 0 < b) (h : WOps P all Z K rest (upd f d (.int k (a % b))) ds w) :
    WOps P all Z K (⟨some d, .binOp .rem xt x y yt, ty, pos, af, none⟩ :: rest) f ds w := by
  have e : a.tmod b = a % b := Int.tmod_eq_emod_of_nonneg ha
  exact W_val rfl (by simp [execOp, hx, hy, eqGuard, binOp, Op.intDiv, show ¬ b = 0 by omega, e]) h
theorem W_lss (hx : ev f x = .int k a) (hy : ev f y = .int k b) (ht : a < b → WOps P all Z K rest (upd f d (.bool true)) ds w) (hf : b ≤ a → WOps P all Z K rest (upd f d (.bool false)) ds w) :
    WOps P all Z K (⟨some d, .binOp .lss xt x y yt, ty, pos, af, none⟩ :: rest) f ds w := by
  by_cases hc : a < b
  · exact W_val rfl (by simp [execOp, hx, hy, eqGuard, binOp, Op.intCmp, hc]) (ht hc)
  · exact W_val rfl (by simp [execOp, hx, hy, eqGuard, binOp, Op.intCmp, hc]) (hf (by omega))
theorem W_leq (hx : ev f x = .int k a) (hy : ev f y = .int k b) (ht : a ≤ b → WOps P all Z K rest (upd f d (.bool true)) ds w) (hf : b < a → WOps P all Z K rest (upd f d (.bool false)) ds w) :
    WOps P all Z K (⟨some d, .binOp .leq xt x y yt, ty, pos, af, none⟩ :: rest) f ds w := by
  by_cases hc : a ≤ b
  · exact W_val rfl (by simp [execOp, hx, hy, eqGuard, binOp, Op.intCmp, hc]) (ht hc)
  · exact W_val rfl (by simp [execOp, hx, hy, eqGuard, binOp, Op.intCmp, hc]) (hf (by omega))
theorem W_gtr (hx : ev f x = .int k a) (hy : ev f y = .int k b) (ht : b < a → WOps P all Z K rest (upd f d (.bool true)) ds w) (hf : a ≤ b → WOps P all Z K rest (upd f d (.bool false)) ds w) :
    WOps P all Z K (⟨some d, .binOp .gtr xt x y yt, ty, pos, af, none⟩ :: rest) f ds w := by
  by_cases hc : b < a
  · exact W_val rfl (by simp [execOp, hx, hy, eqGuard, binOp, Op.intCmp, hc]) (ht hc)
  · exact W_val rfl (by simp [execOp, hx, hy, eqGuard, binOp, Op.intCmp, hc]) (hf (by omega))
theorem W_geq (hx : ev f x = .int k a) (hy : ev f y = .int k b) (ht : b ≤ a → WOps P all Z K rest (upd f d (.bool true)) ds w) (hf : a < b → WOps P all Z K rest (upd f d (.bool false)) ds w) :
    WOps P all Z K (⟨some d, .binOp .geq xt x y yt, ty, pos, af, none⟩ :: rest) f ds w := by
  by_cases hc : b ≤ a
  · exact W_val rfl (by simp [execOp, hx, hy, eqGuard, binOp, Op.intCmp, hc]) (ht hc)
  · exact W_val rfl (by simp [execOp, hx, hy, eqGuard, binOp, Op.intCmp, hc]) (hf (by omega))
theorem W_eql (hx : ev f x = .int k a) (hy : ev f y = .int k b) (ht : a = b → WOps P all Z K rest (upd f d (.bool true)) ds w) (hf : a ≠ b → WOps P all Z K rest (upd f d (.bool false)) ds w) :
    WOps P all Z K (⟨some d, .binOp .eql xt x y yt, ty, pos, af, none⟩ :: rest) f ds w := by
  by_cases hc : a = b
  · exact W_val rfl (by simp [execOp, hx, hy, eqGuard, binOp, Op.intCmp, hc]) (ht hc)
  · exact W_val rfl (by simp [execOp, hx, hy, eqGuard, binOp, Op.intCmp, hc]) (hf hc)
theorem W_neq (hx : ev f x = .int k a) (hy : ev f y = .int k b) (ht : a ≠ b → WOps P all Z K rest (upd f d (.bool true)) ds w) (hf : a = b → WOps P all Z K rest (upd f d (.bool false)) ds w) :
    WOps P all Z K (⟨some d, .binOp .neq xt x y yt, ty, pos, af, none⟩ :: rest) f ds w := by
  by_cases hc : a = b
  · exact W_val rfl (by simp [execOp, hx, hy, eqGuard, binOp, Op.intCmp, hc]) (hf hc)
  · exact W_val rfl (by simp [execOp, hx, hy, eqGuard, binOp, Op.intCmp, hc]) (ht hc)
theorem W_not {c : Bool} (hx : ev f x = .bool c) (h : WOps P all Z K rest (upd f d (.bool (!c))) ds w) :
    WOps P all Z K (⟨some d, .unOp .not xt x, ty, pos, af, none⟩ :: rest) f ds w :=
  W_val rfl (by simp [execOp, hx, Op.unary]) h
theorem W_conv [hs : IntT P yt k] {k' : IntKind} (hx : ev f x = .int k' a) (hr : inR k a) (h : WOps P all Z K rest (upd f d (.int k a)) ds w)
    {st : TypeId} [hst : IntT P st k'] : WOps P all Z K (⟨some d, .convert st yt x, ty, pos, af, none⟩ :: rest) f ds w :=
  W_val rfl (by simp [execOp, hx, convert, run_underlying hs.out, run_underlying hst.out, Conv.intToInt, wrap_in hr]) h
end

/-! ### Strings -/
/-- the string of these bytes -/
abbrev strV (l : List UInt8) : Value := .string ⟨l.toArray⟩
theorem strV_of (s : ByteArray) : Value.string s = strV s.data.toList := rfl
section
variable {x y : Operand} {xt yt : TypeId} {s t : List UInt8}
theorem W_seql (hx : ev f x = strV s) (hy : ev f y = strV t) (ht : s = t → WOps P all Z K rest (upd f d (.bool true)) ds w) (hf : s ≠ t → WOps P all Z K rest (upd f d (.bool false)) ds w) :
    WOps P all Z K (⟨some d, .binOp .eql xt x y yt, ty, pos, af, none⟩ :: rest) f ds w := by
  by_cases hc : s = t
  · exact W_val rfl (by simp [execOp, hx, hy, eqGuard, binOp, Op.stringOp, hc]) (ht hc)
  · exact W_val rfl (by simp [execOp, hx, hy, eqGuard, binOp, Op.stringOp, hc]) (hf hc)
theorem W_sneq (hx : ev f x = strV s) (hy : ev f y = strV t) (ht : s ≠ t → WOps P all Z K rest (upd f d (.bool true)) ds w) (hf : s = t → WOps P all Z K rest (upd f d (.bool false)) ds w) :
    WOps P all Z K (⟨some d, .binOp .neq xt x y yt, ty, pos, af, none⟩ :: rest) f ds w := by
  by_cases hc : s = t
  · exact W_val rfl (by simp [execOp, hx, hy, eqGuard, binOp, Op.stringOp, hc]) (hf hc)
  · exact W_val rfl (by simp [execOp, hx, hy, eqGuard, binOp, Op.stringOp, hc]) (ht hc)
theorem W_sadd (hx : ev f x = strV s) (hy : ev f y = strV t) (hl : s.length + t.length ≤ 9223372036854775807) (h : WOps P all Z K rest (upd f d (strV (s ++ t))) ds w) :
    WOps P all Z K (⟨some d, .binOp .add xt x y yt, ty, pos, af, none⟩ :: rest) f ds w := by
  refine W_val rfl ?_ h
  have e : (⟨s.toArray⟩ ++ ⟨t.toArray⟩ : ByteArray) = ⟨(s ++ t).toArray⟩ := by
    apply ByteArray.ext
    simp
  have h1 : (⟨s.toArray⟩ : ByteArray).size = s.length := by simp [ByteArray.size]
  have h2 : (⟨t.toArray⟩ : ByteArray).size = t.length := by simp [ByteArray.size]
  simp [execOp, hx, hy, eqGuard, binOp, Op.stringOp, h1, h2, e]
  omega
theorem W_sindex {i : Operand} {k : IntKind} {j : Int} {c : UInt8} [hT : StrT P xt] (hx : ev f x = strV s) (hi : ev f i = .int k j) (h0 : 0 ≤ j) (hc : s[j.toNat]? = some c) (h : WOps P all Z K rest (upd f d (enc8 c)) ds w) :
    WOps P all Z K (⟨some d, .index xt x i, ty, pos, af, none⟩ :: rest) f ds w := by
  refine W_val rfl ?_ h
  obtain ⟨hlt, hg⟩ := List.getElem?_eq_some_iff.1 hc
  have e : (⟨s.toArray⟩ : ByteArray)[j.toNat]? = some c := by
    simp only [getElem?_def, ByteArray.size]
    simp [hlt]
    exact hg
  simp [execOp, hx, hi, Instr.index, asIntOf, run_underlying hT.out, h0, e, enc8]
end

/-! ### Addresses, slices -/
theorem W_fieldAddr {T i off : Nat} {ft : TypeId} {x : Operand} {b o : Nat} [hT : FieldT P T i off ft] (hx : ev f x = .pointer (some ⟨b, o, none⟩)) (h : WOps P all Z K rest (upd f d (.pointer (some ⟨b, o + off, none⟩))) ds w) :
    WOps P all Z K (⟨some d, .fieldAddr T x i, ty, pos, af, none⟩ :: rest) f ds w := by
  obtain ⟨fs, fld, h1, h2, h3, h4, j, hj, hjs⟩ := hT.out
  refine W_val rfl ?_ h
  simp only [execOp, hx, Instr.fieldAt, Sem.run_bind, run_underlying h1, Result.andThen_ok, h2, Instr.sureAddr, Sem.run_pure, fieldPlace, sizeOf, typeInfo, program]
  simp [Sem.run, h4, hj, hjs, h3, Addr.add_lit]

theorem W_indexAddr {T e size bytes : Nat} {z : Value} {x i : Operand} {b o n c : Nat} {k : IntKind} {j : Int} [hT : SlT P T e size bytes z] (hx : ev f x = .slice (some ⟨b, o, none⟩) n c) (hi : ev f i = .int k j)
    (h0 : 0 ≤ j) (h1 : j < n) (h : WOps P all Z K rest (upd f d (.pointer (some ⟨b, o + j.toNat * size, none⟩))) ds w) :
    WOps P all Z K (⟨some d, .indexAddr T x i, ty, pos, af, none⟩ :: rest) f ds w := by
  obtain ⟨q, hq, _, hs, _⟩ := hT.out
  refine W_val rfl ?_ h
  simp only [execOp, hx, hi, Instr.indexAt, asIntOf, Sem.run_bind, Sem.run_pure, Result.andThen_ok, run_underlying hT.und, sizeOf, typeInfo, program]
  simp [Sem.run, hq, hs, h0, h1, Addr.add_lit]

theorem W_indexArr {T len e size : Nat} {x i : Operand} {b o : Nat} {k : IntKind} {j : Int} [hT : ArrT P T len e size] (hx : ev f x = .pointer (some ⟨b, o, none⟩)) (hi : ev f i = .int k j)
    (h0 : 0 ≤ j) (h1 : j < len) (h : WOps P all Z K rest (upd f d (.pointer (some ⟨b, o + j.toNat * size, none⟩))) ds w) :
    WOps P all Z K (⟨some d, .indexAddr T x i, ty, pos, af, none⟩ :: rest) f ds w := by
  obtain ⟨q, hq, hs⟩ := hT.out
  refine W_val rfl ?_ h
  simp only [execOp, hx, hi, Instr.indexAt, asIntOf, Sem.run_bind, Sem.run_pure, Result.andThen_ok, run_underlying hT.und, sizeOf, typeInfo, program, Instr.sureAddr]
  simp [Sem.run, hq, hs, h0, h1, Addr.add_lit]

/-- an element whose number is k -/
theorem W_idx {T e size bytes : Nat} {z : Value} {x i : Operand} {b o n c k : Nat} {kk : IntKind} {j : Int} [hT : SlT P T e size bytes z] (hx : ev f x = .slice (some ⟨b, o, none⟩) n c) (hi : ev f i = .int kk j)
    (hj : j = (k : Int)) (h1 : k < n) (h : WOps P all Z K rest (upd f d (.pointer (some ⟨b, o + k * size, none⟩))) ds w) :
    WOps P all Z K (⟨some d, .indexAddr T x i, ty, pos, af, none⟩ :: rest) f ds w := by
  subst hj
  exact W_indexAddr hx hi (by omega) (by omega) (by simpa using h)
theorem W_idx1 {T e bytes : Nat} {z : Value} {x i : Operand} {b o n c k : Nat} {kk : IntKind} {j : Int} [hT : SlT P T e 1 bytes z] (hx : ev f x = .slice (some ⟨b, o, none⟩) n c) (hi : ev f i = .int kk j)
    (hj : j = (k : Int)) (h1 : k < n) (h : WOps P all Z K rest (upd f d (.pointer (some ⟨b, o + k, none⟩))) ds w) :
    WOps P all Z K (⟨some d, .indexAddr T x i, ty, pos, af, none⟩ :: rest) f ds w :=
  W_idx hx hi hj h1 (by simpa using h)

theorem W_extract {x : Operand} {vs : List Value} {i : Nat} {v : Value} (hx : ev f x = .tuple vs.toArray) (hi : vs[i]? = some v) (h : WOps P all Z K rest (upd f d v) ds w) :
    WOps P all Z K (⟨some d, .extract x i, ty, pos, af, none⟩ :: rest) f ds w :=
  W_val rfl (by simp [execOp, hx, Instr.extract, hi]) h

/-! ### Calls -/
theorem evL_map (f : Fr) : ∀ l : List Operand, evL f l = l.map (ev f)
  | [] => rfl
  | _ :: l => by simp [evL, evL_map f l]

theorem W_callP {g : FuncId} {xs : List Operand} {ats : Array TypeId} {vs : List Value} {R : Value → World → Prop} {Y : List PanicEntry → World → Prop} [hg : PlainFn P g]
    (hc : FnP P g vs w R Y) (ha : evL f xs = vs) (h : ∀ v w', R v w' → WOps P all Z K rest (upd f d v) ds w') (hz : ∀ ch w', Y ch w' → Z f ds ch w') :
    WOps P all Z K (⟨some d, .call ⟨.value (.func g), xs.toArray, ats⟩, ty, pos, af, none⟩ :: rest) f ds w := by
  obtain ⟨fn, h1, h2, h3⟩ := hg.out
  have hr : (execOp (ev f) ⟨some d, .call ⟨.value (.func g), xs.toArray, ats⟩, ty, pos, af, none⟩).run P w = .ok (.enter g vs.toArray) w := by
    rw [evL_map] at ha
    simp only [execOp, resolve, ev, Deferred.ofValue, Sem.run_bind, Sem.run_pure, Result.andThen_ok, invoke, callFunc, program]
    simp [Sem.run, h1, h2, h3, ← ha]
  unfold WOps
  simp only [wantedF, if_true, stepP, hr]
  refine Calls.mono hc fun e w' he => ?_
  cases e with
  | returned v => exact h v w' he
  | panicked ch => exact hz ch w' he
  | outgrown => exact he

theorem W_call {g : FuncId} {xs : List Operand} {ats : Array TypeId} {vs : List Value} {R : Value → World → Prop} [hg : PlainFn P g]
    (hc : Fn P g vs w R) (ha : evL f xs = vs) (h : ∀ v w', R v w' → WOps P all Z K rest (upd f d v) ds w') :
    WOps P all Z K (⟨some d, .call ⟨.value (.func g), xs.toArray, ats⟩, ty, pos, af, none⟩ :: rest) f ds w :=
  W_callP hc ha h fun _ _ h => h.elim

theorem W_len {x : Operand} {T e size bytes : Nat} {z : Value} {a : Option Addr} {n c : Nat} [hT : SlT P T e size bytes z] (hx : ev f x = .slice a n c) (h : WOps P all Z K rest (upd f d (.int .i64 (n : Int))) ds w) :
    WOps P all Z K (⟨some d, .call ⟨.builtin .len, #[x], #[T]⟩, ty, pos, af, none⟩ :: rest) f ds w := by
  refine W_val (v := .int .i64 (n : Int)) rfl ?_ h
  simp [execOp, resolve, invoke, builtin, Builtin.len_, hx, run_underlying hT.und, goInt]
theorem W_slen {x : Operand} {T : TypeId} {s : List UInt8} [hT : StrT P T] (hx : ev f x = strV s) (h : WOps P all Z K rest (upd f d (.int .i64 (s.length : Int))) ds w) :
    WOps P all Z K (⟨some d, .call ⟨.builtin .len, #[x], #[T]⟩, ty, pos, af, none⟩ :: rest) f ds w := by
  refine W_val (v := .int .i64 (s.length : Int)) rfl ?_ h
  have h1 : (⟨s.toArray⟩ : ByteArray).size = s.length := rfl
  simp [execOp, resolve, invoke, builtin, Builtin.len_, hx, run_underlying hT.out, goInt, h1]

/-! ### Cuts -/
section
variable {T e size bytes : Nat} {z : Value} {x lo hi : Operand} {a : Option Addr} {n c : Nat} {k k' : IntKind} {l h' : Int}
theorem W_slice_lh [hT : SlT P T e size bytes z] (hx : ev f x = .slice a n c) (hl : ev f lo = .int k l) (hh : ev f hi = .int k' h') (h0 : 0 ≤ l) (h1 : l ≤ h') (h2 : h' ≤ c)
    (h : WOps P all Z K rest (upd f d (.slice (adv c l.toNat size a) (h'.toNat - l.toNat) (c - l.toNat))) ds w) :
    WOps P all Z K (⟨some d, .slice T x (some lo) (some hi) none, ty, pos, af, none⟩ :: rest) f ds w := by
  obtain ⟨q, hq, _, hs, _⟩ := hT.out
  refine W_val rfl ?_ h
  simp only [execOp, hx, hl, hh, Option.map_some, Option.map_none, Instr.sliceAt, Sem.run_bind, run_underlying hT.und, Result.andThen_ok, Instr.slice, Instr.sliceBounds, Instr.sliceBound, asIntOf, Sem.run_pure, sizeOf, typeInfo, program]
  simp [Sem.run, hq, hs, h0, show (0 : Int) ≤ h' by omega, h2, adv]
  intro hm
  omega
theorem W_slice_l [hT : SlT P T e size bytes z] (hx : ev f x = .slice a n c) (hl : ev f lo = .int k l) (h0 : 0 ≤ l) (h1 : l ≤ n)
    (h : WOps P all Z K rest (upd f d (.slice (adv c l.toNat size a) (n - l.toNat) (c - l.toNat))) ds w) :
    WOps P all Z K (⟨some d, .slice T x (some lo) none none, ty, pos, af, none⟩ :: rest) f ds w := by
  obtain ⟨q, hq, _, hs, _⟩ := hT.out
  refine W_val rfl ?_ h
  simp only [execOp, hx, hl, Option.map_some, Option.map_none, Instr.sliceAt, Sem.run_bind, run_underlying hT.und, Result.andThen_ok, Instr.slice, Instr.sliceBounds, Instr.sliceBound, asIntOf, Sem.run_pure, sizeOf, typeInfo, program]
  simp [Sem.run, hq, hs, h0, h1, adv]
theorem W_slice_h [hT : SlT P T e size bytes z] (hx : ev f x = .slice a n c) (hh : ev f hi = .int k' h') (h1 : 0 ≤ h') (h2 : h' ≤ c)
    (h : WOps P all Z K rest (upd f d (.slice a h'.toNat c)) ds w) :
    WOps P all Z K (⟨some d, .slice T x none (some hi) none, ty, pos, af, none⟩ :: rest) f ds w := by
  obtain ⟨q, hq, _, hs, _⟩ := hT.out
  refine W_val rfl ?_ h
  simp only [execOp, hx, hh, Option.map_some, Option.map_none, Instr.sliceAt, Sem.run_bind, run_underlying hT.und, Result.andThen_ok, Instr.slice, Instr.sliceBounds, Instr.sliceBound, asIntOf, Sem.run_pure, sizeOf, typeInfo, program]
  have e : (if c = 0 then a else a.map fun (x : Addr) => x.add 0) = a := by
    split
    · rfl
    · cases a with
      | none => rfl
      | some a => simp [Addr.add]
  simp [Sem.run, hq, hs, h1, h2, e]
theorem W_slice_arr {len : Nat} {b o : Nat} [hT : ArrT P T len e size] (hx : ev f x = .pointer (some ⟨b, o, none⟩)) (h : WOps P all Z K rest (upd f d (.slice (some ⟨b, o, none⟩) len len)) ds w) :
    WOps P all Z K (⟨some d, .slice T x none none none, ty, pos, af, none⟩ :: rest) f ds w := by
  obtain ⟨q, hq, hs⟩ := hT.out
  refine W_val rfl ?_ h
  simp only [execOp, hx, Option.map_none, Instr.sliceAt, Sem.run_bind, run_underlying hT.und, Result.andThen_ok, Instr.sureAddr, Instr.sliceBounds, Sem.run_pure, sizeOf, typeInfo, program]
  simp [Sem.run, hq, hs, Addr.add_lit]
end

end Go.Proofs.YteonolnfgppagaaDoor
