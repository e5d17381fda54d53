/- Rules: a checked pointer, pieces of strings, places of arrays as values, panics, what an interface holds. Conditions: none. -/
import Derived.Test.YteonolnfgppagaaDoorOps4
namespace Go.Proofs.YteonolnfgppagaaDoor
open Go.RowKit
attribute [local semireducible] WC WOps thenQ blockQ scopeQ finQ finD stepP

section
variable {P : Program} {all : Array Oper} {Z : Fr → DS → List PanicEntry → World → Prop} {K : Fr → DS → World → Prop} {rest : List Oper} {f : Fr} {ds : DS} {w : World}
  {d : Nat} {ty : TypeId} {pos : String} {af : Array Edge}

theorem W_nilCheck {x : Operand} {a : Addr} (hx : ev f x = .pointer (some a)) (h : WOps P all Z K rest (upd f d (.pointer (some a))) ds w) :
    WOps P all Z K (⟨some d, .nilCheck x, ty, pos, af, none⟩ :: rest) f ds w :=
  W_val rfl (by simp [execOp, hx]) h

theorem W_sidx {xt : TypeId} {x i : Operand} {k : IntKind} {s : List UInt8} {j : Nat} {c : UInt8} [hT : StrT P xt] (hx : ev f x = strV s) (hi : ev f i = .int k (j : Int)) (hc : s[j]? = some c) (h : WOps P all Z K rest (upd f d (enc8 c)) ds w) :
    WOps P all Z K (⟨some d, .index xt x i, ty, pos, af, none⟩ :: rest) f ds w :=
  W_sindex hx hi (by omega) (by simpa using hc) h

theorem bytes_extract (s : List UInt8) (l h : Nat) : (⟨s.toArray⟩ : ByteArray).extract l h = ⟨((s.take h).drop l).toArray⟩ := by
  apply ByteArray.ext
  simp [ByteArray.data_extract, List.drop_take]

theorem W_sslice_lh {xt : TypeId} {x lo hi : Operand} {k k' : IntKind} {s : List UInt8} {l h' : Nat} [hT : StrT P xt] (hx : ev f x = strV s) (hl : ev f lo = .int k (l : Int)) (hh : ev f hi = .int k' (h' : Int)) (h1 : l ≤ h') (h2 : h' ≤ s.length)
    (h : WOps P all Z K rest (upd f d (strV ((s.take h').drop l))) ds w) : WOps P all Z K (⟨some d, .slice xt x (some lo) (some hi) none, ty, pos, af, none⟩ :: rest) f ds w := by
  refine W_val (v := strV ((s.take h').drop l)) rfl ?_ h
  have e : (⟨s.toArray⟩ : ByteArray).size = s.length := by simp [ByteArray.size]
  have c2 : (0 : Int) ≤ (l : Int) ∧ (l : Int) ≤ (h' : Int) := by omega
  have c1 : (0 : Int) ≤ (h' : Int) ∧ (h' : Int) ≤ ((s.length : Nat) : Int) := by omega
  simp only [execOp, hx, hl, hh, Option.map_some, Option.map_none, Instr.sliceAt, Sem.run_bind, run_underlying hT.out, Result.andThen_ok, Instr.slice, Instr.sliceBounds, Instr.sliceBound, asIntOf, Sem.run_pure, e]
  simp [c1, c2, bytes_extract, h1, h2]
theorem W_sslice_l {xt : TypeId} {x lo : Operand} {k : IntKind} {s : List UInt8} {l : Nat} [hT : StrT P xt] (hx : ev f x = strV s) (hl : ev f lo = .int k (l : Int)) (h1 : l ≤ s.length)
    (h : WOps P all Z K rest (upd f d (strV (s.drop l))) ds w) : WOps P all Z K (⟨some d, .slice xt x (some lo) none none, ty, pos, af, none⟩ :: rest) f ds w := by
  refine W_val (v := strV (s.drop l)) rfl ?_ h
  have e : (⟨s.toArray⟩ : ByteArray).size = s.length := by simp [ByteArray.size]
  simp only [execOp, hx, hl, Option.map_some, Option.map_none, Instr.sliceAt, Sem.run_bind, run_underlying hT.out, Result.andThen_ok, Instr.slice, Instr.sliceBounds, Instr.sliceBound, asIntOf, Sem.run_pure, e]
  simp [bytes_extract, h1]
theorem W_sslice_h {xt : TypeId} {x hi : Operand} {k : IntKind} {s : List UInt8} {l : Nat} [hT : StrT P xt] (hx : ev f x = strV s) (hl : ev f hi = .int k (l : Int)) (h1 : l ≤ s.length)
    (h : WOps P all Z K rest (upd f d (strV (s.take l))) ds w) : WOps P all Z K (⟨some d, .slice xt x none (some hi) none, ty, pos, af, none⟩ :: rest) f ds w := by
  refine W_val (v := strV (s.take l)) rfl ?_ h
  have e : (⟨s.toArray⟩ : ByteArray).size = s.length := by simp [ByteArray.size]
  simp only [execOp, hx, hl, Option.map_some, Option.map_none, Instr.sliceAt, Sem.run_bind, run_underlying hT.out, Result.andThen_ok, Instr.slice, Instr.sliceBounds, Instr.sliceBound, asIntOf, Sem.run_pure, e]
  simp [bytes_extract, h1]

theorem W_vidx1 {T len e : Nat} {x i : Operand} {k : IntKind} {L : List Value} {j : Nat} {v : Value} [hT : ArrT P T len e 1] [he : OneT P e] (hx : ev f x = .agg L.toArray) (hi : ev f i = .int k (j : Int)) (hj : j < len) (hv : L[j]? = some v)
    (h : WOps P all Z K rest (upd f d v) ds w) : WOps P all Z K (⟨some d, .index T x i, ty, pos, af, none⟩ :: rest) f ds w := by
  refine W_val rfl ?_ h
  obtain ⟨q, hq, hs⟩ := hT.out
  obtain ⟨dd, h1, h2⟩ := he.out
  have ha : (isAgg e).run P w = .ok false w := by
    simp only [isAgg, Sem.run_bind, run_underlying h1, Result.andThen_ok]
    cases dd <;> simp_all [aggD]
  have hp : (part e L.toArray j).run P w = .ok v w := by
    simp only [part, Sem.run_bind, ha, Result.andThen_ok]
    simp [hv]
  simp only [execOp, hx, hi, Instr.index, asIntOf, Sem.run_bind, Sem.run_pure, Result.andThen_ok, run_underlying hT.und]
  have c : (0 : Int) ≤ (j : Int) ∧ (j : Int) < (len : Int) := by omega
  simp [hj, sizeOf, typeInfo, hq, hs, hp]
theorem W_vidx {T len e size : Nat} {x i : Operand} {k : IntKind} {L cs : List Value} {j : Nat} [hT : ArrT P T len e size] [he : AggT P e size] (hx : ev f x = .agg L.toArray) (hi : ev f i = .int k (j : Int)) (hj : j < len) (hv : (L.drop (j * size)).take size = cs)
    (h : WOps P all Z K rest (upd f d (.agg cs.toArray)) ds w) : WOps P all Z K (⟨some d, .index T x i, ty, pos, af, none⟩ :: rest) f ds w := by
  refine W_val rfl ?_ h
  obtain ⟨q, hq, hs⟩ := hT.out
  obtain ⟨⟨dd, h1, h2⟩, q', hq', hs'⟩ := he.out
  have ha : (isAgg e).run P w = .ok true w := by
    simp only [isAgg, Sem.run_bind, run_underlying h1, Result.andThen_ok]
    cases dd <;> simp_all [aggD]
  have hp : (part e L.toArray (j * size)).run P w = .ok (.agg cs.toArray) w := by
    simp only [part, Sem.run_bind, ha, Result.andThen_ok, sizeOf, typeInfo]
    simp [hq, hs, ← hv]
  simp only [execOp, hx, hi, Instr.index, asIntOf, Sem.run_bind, Sem.run_pure, Result.andThen_ok, run_underlying hT.und]
  simp [hj, sizeOf, typeInfo, hq, hs, hp]

/-- not an interface -/
class ConcT (P : Program) (T : TypeId) : Prop where
  out : ∃ d, P.underlying T = some d ∧ (match d with | .interface _ => false | _ => true) = true
theorem W_iface {T : TypeId} {x : Operand} [hT : ConcT P T] (h : WOps P all Z K rest (upd f d (.iface T (ev f x))) ds w) : WOps P all Z K (⟨some d, .makeInterface T x, ty, pos, af, none⟩ :: rest) f ds w := by
  obtain ⟨dd, h1, h2⟩ := hT.out
  refine W_val rfl ?_ h
  simp only [execOp, Instr.makeInterface, Sem.run_bind, run_underlying h1, Result.andThen_ok]
  cases dd <;> simp_all
theorem W_panic {x : Operand} {T : TypeId} {v : Value} {dst : Option Nat} (hx : ev f x = .iface T v) (h : Z f ds [{ v := .iface T v, recovered := false }] w) : WOps P all Z K (⟨dst, .panic x, ty, pos, af, none⟩ :: rest) f ds w := by
  unfold WOps
  have hr : (execOp (ev f) ⟨dst, .panic x, ty, pos, af, none⟩).run P w = .halt (.panic (.iface T v)) w := by
    simp only [execOp, hx, Instr.panic]
    rfl
  simp only [wantedF, if_true, stepP, hr]
  exact h
end

section
variable {P : Program} {fn : Func} {R : Value → World → Prop} {Y : List PanicEntry → World → Prop} {f : Fr} {w : World} {ch : List PanicEntry}
theorem fin_pan (h : Y ch w) : finQ P fn R Y (.panic ch) f [] w := ⟨rfl, h⟩
theorem Q_then_pan {k : Fr → DS → World → Prop} {Q : Post} {ds : DS} (h : Q (.panic ch) f ds w) : thenQ k Q (.panic ch) f ds w := h
theorem Q_block_pan {id : Nat} {Q : Post} {ds : DS} (h : Q (.panic ch) f ds w) : blockQ id Q (.panic ch) f ds w := h
theorem Q_scope_pan {Q : Post} {ds : DS} (h : Q (.panic ch) f ds w) : scopeQ Q (.panic ch) f ds w := h
end
end Go.Proofs.YteonolnfgppagaaDoor
