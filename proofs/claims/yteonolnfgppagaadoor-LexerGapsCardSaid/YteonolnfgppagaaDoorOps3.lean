/- Rules for strings out of bytes and for arrays of bytes. Conditions: none. -/
import Derived.Test.YteonolnfgppagaaDoorRng
import Derived.Laws.IdiomStrings
import Derived.ChangeKeysEq
namespace Go.Proofs.YteonolnfgppagaaDoor
open Go.RowKit
attribute [local semireducible] WC WOps thenQ blockQ scopeQ finQ finD stepP

variable {P : Program} {all : Array Oper} {Z : Fr → DS → List PanicEntry → World → Prop} {K : Fr → DS → World → Prop} {rest : List Oper} {f : Fr} {ds : DS} {w : World}
  {d : Nat} {ty : TypeId} {pos : String} {af : Array Edge}

/-- string(b) -/
theorem W_bstr {src dst e size bytes : Nat} {z v : Value} {x : Operand} {l : List UInt8} {ok : Nat → Prop} [hs : SlT P src e size bytes z] [he : IntT P e .u8] [hd : StrT P dst] (hx : ev f x = v) (hb : BytesAt ok w v l)
    (h : WOps P all Z K rest (upd f d (strV l)) ds w) : WOps P all Z K (⟨some d, .convert src dst x, ty, pos, af, none⟩ :: rest) f ds w := by
  obtain ⟨a, c, rfl, h1, h2, h3, h4⟩ := hb
  refine W_val (v := strV l) rfl ?_ h
  have key : (convert src dst (.slice a l.length c)).run P w = .ok (strV l) w := by
    by_cases h0 : l.length = 0
    · obtain rfl : l = [] := List.eq_nil_of_length_eq_zero h0
      rw [run_convert_bytes_string w src dst e a _ c hs.und he.out hd.out]
      cases a with
      | none => simp [Conv.bytesToString]; rfl
      | some a => exact run_convert_bytes_back w src dst e a c [] hs.und he.out hd.out (fun j hj => by simp at hj) ▸ (run_convert_bytes_string w src dst e (some a) _ c hs.und he.out hd.out).symm ▸ rfl
    · obtain ⟨b, off, rfl, _, hc⟩ := h4.resolve_left h0
      exact run_convert_bytes_back w src dst e _ c l hs.und he.out hd.out (fun j hj => by
        rw [Addr.add_lit]
        exact hc j _ (by simp [cells8, enc8, hj]))
  simp only [execOp, hx]
  simp [key]

/-- (*[n]T)(s) -/
theorem W_arrAt {T len e size n c : Nat} {x : Operand} {a : Option Addr} [hT : ArrT P T len e size] (hx : ev f x = .slice a n c) (hn : len ≤ n) (h : WOps P all Z K rest (upd f d (.pointer a)) ds w) :
    WOps P all Z K (⟨some d, .sliceToArrayPointer T x, ty, pos, af, none⟩ :: rest) f ds w := by
  refine W_val rfl ?_ h
  simp only [execOp, hx, Instr.arrayAt, Sem.run_bind, run_underlying hT.und, Result.andThen_ok]
  rw [if_neg (by omega)]
  simp

theorem run_eqItems8 {e : Nat} {l m : List UInt8} (hu : P.underlying e = some (.int .u8)) (D : Nat) : ∀ is : List Nat, (∀ i ∈ is, i < l.length ∧ i < m.length) →
    (Op.eqItems (D + 1) e 1 (cells8 l).toArray (cells8 m).toArray is).run P w = .ok (is.all fun i => l.getD i 0 == m.getD i 0) w
  | [], _ => by simp [Op.eqItems]
  | i :: is, h => by
    obtain ⟨h1, h2⟩ := h i (by simp)
    have ha : (isAgg e).run P w = .ok false w := by simp [isAgg, run_underlying hu]
    have hp : ∀ (q : List UInt8), i < q.length → (part e (cells8 q).toArray (i * 1)).run P w = .ok (enc8 (q.getD i 0)) w := by
      intro q hq
      have := cells8_get hq
      simp only [part, Sem.run_bind, ha, Result.andThen_ok, Nat.mul_one]
      simp [this]
    have he : (Op.equalIn (D + 1) e (enc8 (l.getD i 0)) (enc8 (m.getD i 0))).run P w = .ok (l.getD i 0 == m.getD i 0) w := by
      unfold enc8
      rw [run_equalIn_int w D e .u8 .u8 _ _ hu]
      congr 1
      by_cases hc : l.getD i 0 = m.getD i 0
      · rw [hc, beq_self_eq_true, beq_self_eq_true]
      · rw [beq_eq_false_iff_ne.2 hc, beq_eq_false_iff_ne]
        intro e; exact hc (UInt8.toNat_inj.1 (by omega))
    simp only [Op.eqItems, Sem.run_bind, hp l h1, hp m h2, he, Result.andThen_ok]
    cases hb : (l.getD i 0 == m.getD i 0) with
    | false => simp only [Bool.not_false, if_true, Sem.run_pure, List.all_cons, hb, Bool.false_and]
    | true =>
      simp only [Bool.not_true, Bool.false_eq_true, if_false, List.all_cons, hb, Bool.true_and]
      exact run_eqItems8 hu D is fun j hj => h j (by simp [hj])

theorem all_range_getD {l m : List UInt8} (h : l.length = m.length) : ((List.range l.length).all fun i => l.getD i 0 == m.getD i 0) = (l == m) := by
  rw [Bool.eq_iff_iff, List.all_eq_true, beq_iff_eq]
  constructor
  · intro hh
    refine List.ext_getElem h fun i h1 h2 => ?_
    have := hh i (by simpa using h1)
    simpa [h1, h2] using this
  · rintro rfl i _
    simp

theorem run_equal_arr8 {T len e : Nat} {l m : List UInt8} [hT : ArrT P T len e 1] [he : IntT P e .u8] (hl : l.length = len) (hm : m.length = len) : (Op.equal T (.agg (cells8 l).toArray) (.agg (cells8 m).toArray)).run P w = .ok (l == m) w := by
  obtain ⟨i, hi, hs⟩ := hT.out
  have hc : P.cellsOf e = 1 := by simp [Program.cellsOf, hi, hs]
  unfold Op.equal
  rw [show Op.maxDepth = 9998 + 1 + 1 from rfl, run_equalIn_array w _ _ _ hT.und hi, hc, run_eqItems8 he.out 9998 _ (fun i hi => by simp at hi; omega), ← hl, all_range_getD (by omega)]

theorem eqGuard_arr8 {T len e : Nat} {op : BinOp} {x y : Operand} {l m : List UInt8} [hT : ArrT P T len e 1] [he : IntT P e .u8] (hd : 2 ≤ P.depth) : (eqGuard op T x y (.agg (cells8 l).toArray) (.agg (cells8 m).toArray)).run P w = .ok () w := by
  have hg : P.eqGuardType P.depth T = false := by
    obtain ⟨k, hk⟩ : ∃ k, P.depth = k + 1 + 1 := ⟨P.depth - 2, by omega⟩
    rw [hk]
    simp [Program.eqGuardType, hT.und, he.out]
  unfold eqGuard
  simp [hg]

theorem W_aneq {T len e yt : Nat} {x y : Operand} {l m : List UInt8} [hT : ArrT P T len e 1] [he : IntT P e .u8] (hd : 2 ≤ P.depth) (hx : ev f x = .agg (cells8 l).toArray) (hy : ev f y = .agg (cells8 m).toArray) (hl : l.length = len) (hm : m.length = len)
    (h : WOps P all Z K rest (upd f d (.bool (!(l == m)))) ds w) : WOps P all Z K (⟨some d, .binOp .neq T x y yt, ty, pos, af, none⟩ :: rest) f ds w := by
  refine W_val rfl ?_ h
  simp only [execOp, hx, hy, Sem.run_bind, eqGuard_arr8 hd, Result.andThen_ok, binOp, run_equal_arr8 hl hm]
  simp
theorem W_aeql {T len e yt : Nat} {x y : Operand} {l m : List UInt8} [hT : ArrT P T len e 1] [he : IntT P e .u8] (hd : 2 ≤ P.depth) (hx : ev f x = .agg (cells8 l).toArray) (hy : ev f y = .agg (cells8 m).toArray) (hl : l.length = len) (hm : m.length = len)
    (h : WOps P all Z K rest (upd f d (.bool (l == m))) ds w) : WOps P all Z K (⟨some d, .binOp .eql T x y yt, ty, pos, af, none⟩ :: rest) f ds w := by
  refine W_val rfl ?_ h
  simp only [execOp, hx, hy, Sem.run_bind, eqGuard_arr8 hd, Result.andThen_ok, binOp, run_equal_arr8 hl hm]
  simp
end Go.Proofs.YteonolnfgppagaaDoor
