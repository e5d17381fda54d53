/- Structs of plain fields compared. Conditions: none. -/
import Derived.Test.YteonolnfgppagaaDoorOps3
namespace Go.Proofs.YteonolnfgppagaaDoor
open Go.RowKit
attribute [local semireducible] WC WOps thenQ blockQ scopeQ finQ finD stepP

variable {P : Program} {all : Array Oper} {Z : Fr → DS → List PanicEntry → World → Prop} {K : Fr → DS → World → Prop} {rest : List Oper} {f : Fr} {ds : DS} {w : World}
  {d : Nat} {ty : TypeId} {pos : String} {af : Array Edge}

/-- two values of a plain type -/
def sameSort (P : Program) (t : TypeId) : Value → Value → Prop
  | .int k _, .int k' _ => k = k' ∧ P.underlying t = some (.int k)
  | .string _, .string _ => P.underlying t = some .string
  | .bool _, .bool _ => P.underlying t = some .bool
  | _, _ => False

theorem run_equalIn_plain {t : TypeId} {a b : Value} (h : sameSort P t a b) (D : Nat) : ∃ r : Bool, (Op.equalIn (D + 1) t a b).run P w = .ok r w ∧ (r = true ↔ a = b) := by
  cases a <;> cases b <;> simp only [sameSort] at h
  case int.int k x k' y =>
    obtain ⟨rfl, h⟩ := h
    exact ⟨_, run_equalIn_int w D t k k _ _ h, by simp⟩
  case bool.bool x y => exact ⟨_, run_equalIn_bool' w D t _ _ h, by simp⟩
  case string.string x y =>
    refine ⟨x == y, by simp [Op.equalIn, run_underlying h], ?_⟩
    obtain ⟨⟨x⟩⟩ := x
    obtain ⟨⟨y⟩⟩ := y
    show ((⟨x⟩ : Array UInt8) == ⟨y⟩) = true ↔ _
    simp

theorem run_part_plain {t : TypeId} {cs : List Value} {o : Nat} {a b : Value} (h : sameSort P t a b) {v : Value} (hv : cs[o]? = some v) : (part t cs.toArray o).run P w = .ok v w := by
  have ha : (isAgg t).run P w = .ok false w := by
    cases a <;> cases b <;> simp only [sameSort] at h <;> first | exact h.elim | skip
    · simp [isAgg, run_underlying h]
    · simp [isAgg, run_underlying h.2]
    · simp [isAgg, run_underlying h]
  simp only [part, Sem.run_bind, ha, Result.andThen_ok]
  simp [hv]

theorem run_eqFields_plain (D : Nat) {xs ys : List Value} : ∀ fs : List Field, (∀ f ∈ fs, f.name ≠ "_" ∧ ∃ a b, xs[f.offset]? = some a ∧ ys[f.offset]? = some b ∧ sameSort P f.type a b) →
    ∃ r : Bool, (Op.eqFields (D + 1) xs.toArray ys.toArray fs).run P w = .ok r w ∧ (r = true ↔ ∀ f ∈ fs, xs[f.offset]? = ys[f.offset]?)
  | [], _ => ⟨true, by simp [Op.eqFields], by simp⟩
  | g :: fs, h => by
    obtain ⟨hn, a, b, ha, hb, hs⟩ := h g (by simp)
    obtain ⟨r, hr, hiff⟩ := run_equalIn_plain (w := w) hs D
    obtain ⟨r', hr', hiff'⟩ := run_eqFields_plain D fs fun f hf => h f (by simp [hf])
    simp only [Op.eqFields, if_pos hn, Sem.run_bind, run_part_plain hs ha, run_part_plain hs hb, hr, Result.andThen_ok]
    cases r with
    | false => exact ⟨false, by simp, by simp [ha, hb]; intro e; exact absurd (hiff.2 e) (by simp)⟩
    | true =>
      refine ⟨r', by simpa using hr', ?_⟩
      rw [hiff']
      simp [ha, hb, hiff.1 rfl]

/-- a struct of plain fields: place and type of each -/
class FlT (P : Program) (T : TypeId) (fs : outParam (List (Nat × TypeId))) : Prop where
  out : P.underlying T = some (.struct (P.fieldsOf T)) ∧ P.stoodInHeld T = false ∧ P.eqGuardType P.depth T = false ∧ (P.fieldsOf T).toList.map (fun f => (f.offset, f.type)) = fs ∧ ((P.fieldsOf T).toList.all fun f => f.name ≠ "_") = true

theorem run_equal_flat {T : TypeId} {fs : List (Nat × TypeId)} {xs ys : List Value} [hT : FlT P T fs] (h : ∀ p ∈ fs, ∃ a b, xs[p.1]? = some a ∧ ys[p.1]? = some b ∧ sameSort P p.2 a b) :
    ∃ r : Bool, (Op.equal T (.agg xs.toArray) (.agg ys.toArray)).run P w = .ok r w ∧ (r = true ↔ ∀ p ∈ fs, xs[p.1]? = ys[p.1]?) := by
  obtain ⟨h1, h2, h3, rfl, h5⟩ := hT.out
  obtain ⟨r, hr, hiff⟩ := run_eqFields_plain (P := P) (w := w) (xs := xs) (ys := ys) 9998 (P.fieldsOf T).toList fun f hf =>
    ⟨by simpa using List.all_eq_true.1 h5 f hf, h (f.offset, f.type) (List.mem_map.2 ⟨f, hf, rfl⟩)⟩
  refine ⟨r, ?_, ?_⟩
  · unfold Op.equal
    rw [show Op.maxDepth = 9998 + 1 + 1 from rfl, run_equalIn_agg w _ T _ _ h1 h2]
    exact hr
  · rw [hiff]
    constructor
    · intro hh p hp
      obtain ⟨f, hf, rfl⟩ := List.mem_map.1 hp
      exact hh f hf
    · intro hh f hf
      exact hh (f.offset, f.type) (List.mem_map.2 ⟨f, hf, rfl⟩)

theorem W_flEql {T yt : TypeId} {x y : Operand} {fs : List (Nat × TypeId)} {xs ys : List Value} [hT : FlT P T fs] (hx : ev f x = .agg xs.toArray) (hy : ev f y = .agg ys.toArray) (h : ∀ p ∈ fs, ∃ a b, xs[p.1]? = some a ∧ ys[p.1]? = some b ∧ sameSort P p.2 a b)
    (hk : ∀ r : Bool, (r = true ↔ ∀ p ∈ fs, xs[p.1]? = ys[p.1]?) → WOps P all Z K rest (upd f d (.bool r)) ds w) : WOps P all Z K (⟨some d, .binOp .eql T x y yt, ty, pos, af, none⟩ :: rest) f ds w := by
  obtain ⟨r, hr, hiff⟩ := run_equal_flat (P := P) (T := T) (w := w) h
  refine W_val rfl ?_ (hk r hiff)
  simp only [execOp, hx, hy, Sem.run_bind, run_eqGuard_agg w _ _ _ _ _ _ hT.out.2.2.1, Result.andThen_ok, binOp, hr]
  simp
theorem W_flNeq {T yt : TypeId} {x y : Operand} {fs : List (Nat × TypeId)} {xs ys : List Value} [hT : FlT P T fs] (hx : ev f x = .agg xs.toArray) (hy : ev f y = .agg ys.toArray) (h : ∀ p ∈ fs, ∃ a b, xs[p.1]? = some a ∧ ys[p.1]? = some b ∧ sameSort P p.2 a b)
    (hk : ∀ r : Bool, (r = true ↔ ∀ p ∈ fs, xs[p.1]? = ys[p.1]?) → WOps P all Z K rest (upd f d (.bool (!r))) ds w) : WOps P all Z K (⟨some d, .binOp .neq T x y yt, ty, pos, af, none⟩ :: rest) f ds w := by
  obtain ⟨r, hr, hiff⟩ := run_equal_flat (P := P) (T := T) (w := w) h
  refine W_val rfl ?_ (hk r hiff)
  simp only [execOp, hx, hy, Sem.run_bind, run_eqGuard_agg w _ _ _ _ _ _ hT.out.2.2.1, Result.andThen_ok, binOp, hr]
  simp

theorem W_load_aggB {T bt : TypeId} {a : Operand} {b n : Nat} {L : List Value} [hT : AggT P T n] (ha : ev f a = .pointer (some ⟨b, 0, none⟩)) (hb : Blk w b bt L) (hl : L.length = n)
    (h : WOps P all Z K rest (upd f d (.agg L.toArray)) ds w) : WOps P all Z K (⟨some d, .load T a, ty, pos, af, none⟩ :: rest) f ds w := W_load_agg ha hl hb.cells h

class BoolT (P : Program) (T : TypeId) : Prop where
  out : P.underlying T = some .bool
theorem run_equal_bool {T : TypeId} [hT : BoolT P T] (a b : Bool) : (Op.equal T (.bool a) (.bool b)).run P w = .ok (a == b) w := by
  unfold Op.equal
  rw [show Op.maxDepth = 9999 + 1 from rfl, run_equalIn_bool' w 9999 T a b hT.out]
theorem W_beql {T yt : TypeId} {x y : Operand} {a b : Bool} [hT : BoolT P T] (hx : ev f x = .bool a) (hy : ev f y = .bool b) (h : WOps P all Z K rest (upd f d (.bool (a == b))) ds w) : WOps P all Z K (⟨some d, .binOp .eql T x y yt, ty, pos, af, none⟩ :: rest) f ds w := by
  refine W_val rfl ?_ h
  simp [execOp, hx, hy, eqGuard, binOp, run_equal_bool]
theorem W_bneq {T yt : TypeId} {x y : Operand} {a b : Bool} [hT : BoolT P T] (hx : ev f x = .bool a) (hy : ev f y = .bool b) (h : WOps P all Z K rest (upd f d (.bool (a != b))) ds w) : WOps P all Z K (⟨some d, .binOp .neq T x y yt, ty, pos, af, none⟩ :: rest) f ds w := by
  refine W_val rfl ?_ h
  simp [execOp, hx, hy, eqGuard, binOp, run_equal_bool, bne]
end Go.Proofs.YteonolnfgppagaaDoor
