/- The parser: names. Rules: bytes out of a string, an interface held against nil. The parser: numbers. The parser: accepts, expect, name, number. The parser: operators, indices, nodes. The parser: nodes, formulas in a row. The parser: primary formulas. The parser: formulas. Conditions: none. -/
import Derived.Test.YtfcgdbmoncnibaaGreatDoorZG4
import Derived.Lib.ConvBytes

namespace Go.Proofs.YtfcgdbmoncnibaaGreatDoor
open Go.RowKit
set_option linter.unusedVariables false
variable {mk : Prop} [MK mk]
def keyC : List Value := keysL.map AL
structure GK (w : World) : Prop where
 gv : GV w
 keys : Cells w 3 0 keyC
theorem GK.keep {X : List Nat} {w w' : World} (h : GK w) (k : Keep X w w') (hX : ∀ x ∈ X, 10 ≤ x) : GK w' :=
 ⟨h.gv.keep k (fun hx => by have := hX _ hx; omega) (fun hx => by have := hX _ hx; omega), h.keys.keep k (fun hx => by have := hX _ hx; omega)⟩
theorem GK.ext {w w' : World} (h : GK w) (k : Ext w w') : GK w' := h.keep k fun x hx => by cases hx
def okAt (i : Nat) (c : UInt8) : Bool := A4 c || (decide (0 < i) && (Ap c || decide (c.toNat = 95)))
def shapeB (s : List UInt8) : Bool := A4 (s.getD 0 0) && s.all restB
theorem shapeB_iff (s : List UInt8) (h : 1 ≤ s.length) : shapeB s = true ↔ ∀ (i : Nat) (c : UInt8), s[i]? = some c → okAt i c = true := by
 match s, h with
 | d :: s, _ =>
  simp only [shapeB, List.getD_eq_getElem?_getD, List.getElem?_cons_zero, Option.getD_some, Bool.and_eq_true, List.all_eq_true]
  constructor
  ·rintro ⟨h1, h2⟩ i c hc
   cases i with
   | zero => simp at hc; subst hc; simp [okAt, h1]
   | succ i =>
    have := h2 c (List.mem_of_getElem? hc)
    simp [restB] at this
    simp [okAt]
    rcases this with (h | h) | h
    ·exact .inl h
    ·exact .inr (.inl h)
    ·exact .inr (.inr h)
  ·intro h
   have h0 := h 0 d rfl
   simp [okAt] at h0
   refine ⟨h0, fun c hc => ?_⟩
   obtain ⟨i, hi⟩ := List.getElem?_of_mem hc
   have := h i c hi
   simp only [okAt, restB, Bool.or_eq_true, Bool.and_eq_true, decide_eq_true_eq] at this ⊢
   rcases this with h | ⟨_, h | h⟩
   ·exact .inl (.inl h)
   ·exact .inl (.inr h)
   ·exact .inr h
theorem C4 (s : List UInt8) : BV s = (decide (1 ≤ s.length) && decide (s.length ≤ 12) && shapeB s && !decide (s ∈ keysL)) := by
 unfold BV shapeB
 cases decide (1 ≤ s.length) <;> cases decide (s.length ≤ 12) <;> cases A4 (s.getD 0 0) <;> cases s.all restB <;> rfl
theorem sigName_ok (s : List UInt8) (w : World) (hG : GK w) : Fn Tryz.prog 128 [AL s] w fun v w' => v = .bool (BV s) ∧ w' = w := by
 refine Ab Tryz.func128 rfl Tryz.ntmps128 (Nat.le_of_ble_eq_true rfl) (by kernel_rfl) ?_
 repeat refine nx rfl ?_
 refine AA (AC (AB rfl ?_))
 repeat refine nx rfl ?_
 by_cases h1 : s.length < 1
 ·refine AA (AU rfl (Au rfl (BC rfl rfl (by omega) (AB rfl (AI rfl (AI rfl (AI rfl (AK rfl (AB rfl ?_)))))))))
  repeat refine nx rfl ?_
  refine AA (AC (AB rfl ?_))
  repeat refine nx rfl ?_
  exact AO rfl ⟨by rw [C4, decide_eq_false (show ¬ 1 ≤ s.length by omega)]; rfl, rfl⟩
 by_cases h12 : 12 < s.length
 ·refine AA (AU rfl (Au rfl (BA rfl rfl (by omega) (AB rfl (AE rfl (AU rfl (AE rfl (Au rfl (AE rfl (DI rfl rfl (by omega) (AP rfl (AB rfl ?_))))))))))))
  repeat refine nx rfl ?_
  refine AA (AC (AB rfl ?_))
  repeat refine nx rfl ?_
  exact AO rfl ⟨by rw [C4, decide_eq_false (show ¬ s.length ≤ 12 by omega)]; simp [upd, Nat.beq], rfl⟩
 refine AA (AU rfl (Au rfl (BA rfl rfl (by omega) (AB rfl (AE rfl (AU rfl (AE rfl (Au rfl (AE rfl (DF rfl rfl (by omega) (AP rfl (AB rfl ?_))))))))))))
 repeat first | refine nx rfl ?_ | refine nf rfl ?_
 refine AA (AC (AB rfl ?_))
 repeat refine nx rfl ?_
 refine AA (AU rfl (Au rfl (AF rfl ?_)))
 repeat refine nx rfl ?_
 refine BJ (α := Nat) (fun k => [(0, AL s), (3, .bool true), (17, .int .i64 (s.length : Int)), (18, .int .i64 (k : Int))]) (fun k w1 => k ≤ s.length ∧ (∀ (i : Nat) (c : UInt8), i < k → s[i]? = some c → okAt i c = true) ∧ w1 = w) (fun k => s.length - k) 0 ⟨rfl, rfl, rfl, rfl, trivial⟩ ⟨by omega, fun i c hi => by omega, rfl⟩ ?_
 rintro k w1 f1 ⟨hk, hok, rfl⟩
 repeat refine nx rfl ?_
 by_cases hlt : k < s.length
 ·have hc0 : s[k]? = some s[k] := List.getElem?_eq_getElem hlt
  generalize s[k] = c at hc0
  have cb := c.toNat_lt
  have step : okAt k c = true → ∀ (i : Nat) (d : UInt8), i < k + 1 → s[i]? = some d → okAt i d = true := fun hkc i d hi hd => by
   by_cases hik : i = k
   ·subst hik; rw [hc0] at hd; cases hd; exact hkc
   ·exact hok i d (by omega) hd
  refine AA (BC rfl rfl (by omega) ?_)
  repeat refine nx rfl ?_
  refine AA (AF rfl (AC (AF rfl ?_)))
  repeat refine nx rfl ?_
  (refine AA (AU rfl (AF rfl (BB rfl rfl (by assumption) ?_))) <;> refine AC (AF rfl ?_))
  repeat refine nx rfl ?_
  by_cases hs : 97 ≤ c.toNat ∧ c.toNat ≤ 122
  ·have hkc : okAt k c = true := by simp [okAt, A4, hs.1, hs.2]
   refine AA (AF rfl (C2 rfl rfl (by omega) (AB rfl (AE rfl (AF rfl (AE rfl (C2 rfl rfl (by omega) (AK rfl (AB rfl (AC (AB rfl ?_)))))))))))
   repeat refine nx rfl ?_
   (refine AA (BK rfl rfl (by first | exact Am (by omega) (by omega) | exact At (by omega) (by omega) | exact Al (by omega) (by omega)) ?_) <;> refine AF rfl ?_)
   repeat refine nx rfl ?_
   refine ⟨k + 1, ⟨rfl, ⟨rfl, rfl, rfl, ?_, trivial⟩, ⟨by omega, step hkc, rfl⟩⟩, by omega⟩
   show Value.int .i64 ((k : Int) + 1) = _
   rw [Int.natCast_add]; rfl
  ·have hns : A4 c = false := by simp [A4]; omega
   by_cases hr : 0 < k ∧ ((48 ≤ c.toNat ∧ c.toNat ≤ 57) ∨ c.toNat = 95)
   ·have hkc : okAt k c = true := by
     simp only [okAt, Ap, Bool.or_eq_true, Bool.and_eq_true, decide_eq_true_eq]
     exact .inr hr
    refine AA (AF rfl (DM rfl rfl (by omega) (AB rfl (AI rfl (AI rfl (AP rfl (AB rfl (AC (AB rfl (AJ ?_))))))))))
    all_goals
     repeat first | refine nx rfl ?_ | refine nf rfl ?_
     (refine AA (AF rfl (DI rfl rfl (by omega) (AB rfl (AE rfl (AF rfl (AE rfl (C2 rfl rfl (by omega) (AE rfl (AB rfl (AE rfl (AF rfl ?_))))))))))) <;> (refine AE rfl ?_; (refine W_leq rfl rfl (fun hc => ?_) (fun hc => ?_) <;> try omega)) <;> refine AE rfl (AK rfl (AB rfl (AE rfl (AB rfl ?_)))) <;> (first | refine AI rfl ?_ | (refine AE rfl ?_; refine AF rfl ?_)) <;> (first | refine AI rfl ?_ | (refine AE rfl ?_; refine Av rfl rfl (by omega) ?_)) <;> (refine AE rfl ?_; ((first | refine AK rfl ?_ | refine AP rfl ?_); refine AB rfl ?_)) <;> refine AK rfl (AB rfl (AC (AB rfl (AJ ?_)))))
     all_goals
      repeat refine nx rfl ?_
      (refine AA (BK rfl rfl (by first | exact Am (by omega) (by omega) | exact At (by omega) (by omega) | exact Al (by omega) (by omega)) ?_) <;> refine AF rfl ?_)
      repeat refine nx rfl ?_
      refine ⟨k + 1, ⟨rfl, ⟨rfl, rfl, rfl, ?_, trivial⟩, ⟨by omega, step hkc, rfl⟩⟩, by omega⟩
      show Value.int .i64 ((k : Int) + 1) = _
      rw [Int.natCast_add]; rfl
   ·have hsh : shapeB s = false := by
     cases hsb : shapeB s with
     | false => rfl
     | true =>
      have := (shapeB_iff s (by omega)).1 hsb k c hc0
      simp only [okAt, hns, Ap, Bool.false_or, Bool.or_eq_true, Bool.and_eq_true, decide_eq_true_eq] at this
      exact absurd this hr
    (refine AA (AF rfl ?_) <;> (refine W_leq rfl rfl (fun hc => ?_) (fun hc => ?_) <;> try omega) <;> refine AB rfl ?_ <;> (first | refine AI rfl ?_ | (refine AE rfl ?_; refine AF rfl ?_)) <;> (first | refine AI rfl ?_ | (refine AE rfl ?_; refine DM rfl rfl (by omega) ?_)) <;> ((first | refine AK rfl ?_ | refine AP rfl ?_); refine AB rfl ?_) <;> refine AC (AB rfl (AJ ?_)))
    all_goals
     repeat first | refine nx rfl ?_ | refine nf rfl ?_
     (refine AA (AF rfl ?_) <;> (refine W_gtr rfl rfl (fun hc => ?_) (fun hc => ?_) <;> try omega) <;> refine AB rfl ?_ <;> (first | refine AI rfl ?_ | (refine AE rfl ?_; refine AF rfl ?_)) <;> (first | refine AI rfl ?_ | (refine AE rfl ?_; (refine W_leq rfl rfl (fun hc => ?_) (fun hc => ?_) <;> try omega))) <;> (first | refine AI rfl ?_ | (refine AE rfl ?_; refine AB rfl ?_)) <;> (first | refine AI rfl ?_ | (refine AE rfl ?_; refine AF rfl ?_)) <;> (first | refine AI rfl ?_ | (refine AE rfl ?_; refine DM rfl rfl (by omega) ?_)) <;> (first | refine AI rfl ?_ | (refine AE rfl ?_; ((first | refine AK rfl ?_ | refine AP rfl ?_); refine AB rfl ?_))) <;> (first | refine AI rfl ?_ | (refine AE rfl ?_; refine AB rfl ?_)) <;> (first | refine AI rfl ?_ | (refine AE rfl ?_; refine AF rfl ?_)) <;> (first | refine AI rfl ?_ | (refine AE rfl ?_; refine AN rfl rfl (by omega) ?_)) <;> (first | refine AI rfl ?_ | (refine AE rfl ?_; (refine AP rfl ?_; refine AB rfl ?_))) <;> ((first | refine AK rfl ?_ | refine AP rfl ?_); refine AB rfl ?_) <;> refine AC (AB rfl (AJ ?_)))
     all_goals
      repeat first | refine nx rfl ?_ | refine nf rfl ?_
      refine AA (AC (AB rfl ?_))
      repeat refine nx rfl ?_
      refine AA (Ac (L := keyC) rfl rfl hG.keys ?_)
      refine AF rfl ?_
      repeat refine nx rfl ?_
      refine BJ (α := Nat) (fun k => [(0, AL s), (3, .bool false), (47, .agg keyC.toArray), (48, .int .i64 (k : Int))]) (fun k W => k ≤ 10 ∧ s ∉ keysL.take k ∧ W = w1) (fun k => 10 - k) 0 ⟨rfl, rfl, rfl, rfl, trivial⟩ ⟨by omega, by simp, rfl⟩ ?_
      rintro k w2 f2 ⟨hk, hn, rfl⟩
      repeat refine nx rfl ?_
      by_cases hlt : k < 10
      ·obtain ⟨y, hy⟩ : ∃ y, keysL[k]? = some y := ⟨_, List.getElem?_eq_getElem (by show k < 10; exact hlt)⟩
       have hyc : keyC[k]? = some (AL y) := by unfold keyC; rw [List.getElem?_map, hy]; rfl
       have ht1 : keysL.take (k + 1) = keysL.take k ++ [y] := by rw [List.take_add_one, hy]; rfl
       refine AA (BC rfl rfl (by omega) ?_)
       repeat refine nx rfl ?_
       refine AA ?_
       refine W_vidx1 (L := keyC) rfl rfl (by omega) hyc ?_
       refine AC (AU rfl ?_)
       repeat refine nx rfl ?_
       by_cases hys : y = s
       ·(refine AA (AU rfl (AU rfl ?_)) <;> refine CM rfl rfl (fun hc => ?_) (fun hc => ?_) <;> refine AJ ?_)
        case refine_2 => exact absurd hys (by assumption)
        repeat refine nx rfl ?_
        refine AA (AC (AB rfl ?_))
        repeat refine nx rfl ?_
        exact AO rfl ⟨by rw [C4, decide_eq_true (List.mem_of_getElem? (hys ▸ hy) : s ∈ keysL)]; simp [upd, Nat.beq], rfl⟩
       ·(refine AA (AU rfl (AU rfl ?_)) <;> refine CM rfl rfl (fun hc => ?_) (fun hc => ?_) <;> refine AJ ?_)
        case refine_1 => exact absurd (by assumption) hys
        repeat first | refine nx rfl ?_ | refine nf rfl ?_
        (refine AA (BK rfl rfl (by first | exact Am (by omega) (by omega) | exact At (by omega) (by omega) | exact Al (by omega) (by omega)) ?_) <;> refine AF rfl ?_)
        repeat refine nx rfl ?_
        refine ⟨k + 1, ⟨rfl, ⟨rfl, rfl, rfl, ?_, trivial⟩, ⟨by omega, by rw [ht1]; simp [hn]; exact fun e => hys e.symm, rfl⟩⟩, by omega⟩
        show Value.int .i64 ((k : Int) + 1) = _
        rw [Int.natCast_add]; rfl
      ·obtain rfl : k = 10 := by omega
       refine AA (BA rfl rfl (by omega) ?_)
       repeat first | refine nx rfl ?_ | refine nf rfl ?_
       refine AA (AB rfl (AC (AB rfl ?_)))
       repeat refine nx rfl ?_
       have hn' : s ∉ keysL := hn
       exact AO rfl ⟨by rw [C4, hsh, decide_eq_false hn', decide_eq_true (show 1 ≤ s.length by omega), decide_eq_true (show s.length ≤ 12 by omega)]; rfl, rfl⟩
 ·obtain rfl : k = s.length := by omega
  have hsh : shapeB s = true := (shapeB_iff s (by omega)).2 fun i c hc => hok i c (List.getElem?_eq_some_iff.1 hc).1 hc
  refine AA (BA rfl rfl (by omega) ?_)
  repeat first | refine nx rfl ?_ | refine nf rfl ?_
  refine AA (Ac (L := keyC) rfl rfl hG.keys ?_)
  refine AF rfl ?_
  repeat refine nx rfl ?_
  refine BJ (α := Nat) (fun k => [(0, AL s), (3, .bool true), (47, .agg keyC.toArray), (48, .int .i64 (k : Int))]) (fun k W => k ≤ 10 ∧ s ∉ keysL.take k ∧ W = w1) (fun k => 10 - k) 0 ⟨rfl, rfl, rfl, rfl, trivial⟩ ⟨by omega, by simp, rfl⟩ ?_
  rintro k w2 f2 ⟨hk, hn, rfl⟩
  repeat refine nx rfl ?_
  by_cases hlt : k < 10
  ·obtain ⟨y, hy⟩ : ∃ y, keysL[k]? = some y := ⟨_, List.getElem?_eq_getElem (by show k < 10; exact hlt)⟩
   have hyc : keyC[k]? = some (AL y) := by unfold keyC; rw [List.getElem?_map, hy]; rfl
   have ht1 : keysL.take (k + 1) = keysL.take k ++ [y] := by rw [List.take_add_one, hy]; rfl
   refine AA (BC rfl rfl (by omega) ?_)
   repeat refine nx rfl ?_
   refine AA ?_
   refine W_vidx1 (L := keyC) rfl rfl (by omega) hyc ?_
   refine AC (AU rfl ?_)
   repeat refine nx rfl ?_
   by_cases hys : y = s
   ·(refine AA (AU rfl (AU rfl ?_)) <;> refine CM rfl rfl (fun hc => ?_) (fun hc => ?_) <;> refine AJ ?_)
    case refine_2 => exact absurd hys (by assumption)
    repeat refine nx rfl ?_
    refine AA (AC (AB rfl ?_))
    repeat refine nx rfl ?_
    exact AO rfl ⟨by rw [C4, decide_eq_true (List.mem_of_getElem? (hys ▸ hy) : s ∈ keysL)]; simp [upd, Nat.beq], rfl⟩
   ·(refine AA (AU rfl (AU rfl ?_)) <;> refine CM rfl rfl (fun hc => ?_) (fun hc => ?_) <;> refine AJ ?_)
    case refine_1 => exact absurd (by assumption) hys
    repeat first | refine nx rfl ?_ | refine nf rfl ?_
    (refine AA (BK rfl rfl (by first | exact Am (by omega) (by omega) | exact At (by omega) (by omega) | exact Al (by omega) (by omega)) ?_) <;> refine AF rfl ?_)
    repeat refine nx rfl ?_
    refine ⟨k + 1, ⟨rfl, ⟨rfl, rfl, rfl, ?_, trivial⟩, ⟨by omega, by rw [ht1]; simp [hn]; exact fun e => hys e.symm, rfl⟩⟩, by omega⟩
    show Value.int .i64 ((k : Int) + 1) = _
    rw [Int.natCast_add]; rfl
  ·obtain rfl : k = 10 := by omega
   refine AA (BA rfl rfl (by omega) ?_)
   repeat first | refine nx rfl ?_ | refine nf rfl ?_
   refine AA (AB rfl (AC (AB rfl ?_)))
   repeat refine nx rfl ?_
   have hn' : s ∉ keysL := hn
   exact AO rfl ⟨by rw [C4, hsh, decide_eq_false hn', decide_eq_true (show 1 ≤ s.length by omega), decide_eq_true (show s.length ≤ 12 by omega)]; rfl, rfl⟩
end Go.Proofs.YtfcgdbmoncnibaaGreatDoor
namespace Go.Proofs.YtfcgdbmoncnibaaGreatDoor
open Go.RowKit
variable {mk : Prop} [MK mk]
attribute [local semireducible] WC AW B6 BZ B8 Cw DY By
variable {P : Program} {all : Array Oper} {Z : Fr → DS → List PanicEntry → World → Prop} {K : Fr → DS → World → Prop} {rest : List Oper} {f : Fr} {ds : DS} {w : World}
 {d : Nat} {ty : TypeId} {pos : String} {af : Array Edge}
theorem bytes_unm (w : World) (e : TypeId) (s : ByteArray) : Unm (Lib.bytesWorld w e s) w.heap.size := fun c t fr h => by
 rw [Lib.bytesWorld_at_new] at h
 simp only [Option.some.injEq, Obj.cells.injEq] at h
 obtain ⟨rfl, _, _⟩ := h
 refine .inr fun i v hv => ?_
 have hm := Array.mem_of_getElem? hv
 unfold Lib.bytesCells at hm
 rcases Array.mem_append.1 hm with hm | hm
 ·obtain ⟨b, _, rfl⟩ := Array.mem_map.1 hm
  exact ⟨_, rfl⟩
 ·exact ⟨0, Array.eq_of_mem_replicate hm⟩
theorem W_strb {src dst e size bytes : Nat} {z : Value} {x : Operand} {l : List UInt8} [hs : SlT P dst e size bytes z] [he : IntT P e .u8] [hd : StrT P src] (hx : ev f x = AL l)
  (h : ∀ w' cap, Ext w w' → w'.heap.size = w.heap.size + 1 → Cells w' w.heap.size 0 (Cv l) → AW P all Z K rest (upd f d (.slice (some ⟨w.heap.size, 0, none⟩) l.length cap)) ds w') :
  AW P all Z K (⟨some d, .convert src dst x, ty, pos, af, none⟩ :: rest) f ds w := by
 have hr := Lib.run_convert_string_bytes (P := P) w src dst e ⟨l.toArray⟩ hd.out hs.und he.out
 have hn : (⟨l.toArray⟩ : ByteArray).size = l.length := by simp [ByteArray.size]
 rw [hn] at hr
 refine A5 (v := .slice (some ⟨w.heap.size, 0, none⟩) l.length (grownCap w l.length 0 e)) (w' := Lib.bytesWorld w e ⟨l.toArray⟩) rfl ?_ (h _ _ ⟨rfl, rfl, rfl, ?_, fun b hb _ => Lib.bytesWorld_at_old w e _ b hb, fun _ => mark_new (by rw [Lib.bytesWorld_size]; omega) (fun b hb => Lib.bytesWorld_at_old w e _ b hb) (bytes_unm w e _)⟩ (Lib.bytesWorld_size w e _) ?_)
 ·simp only [execOp, hx]
  simp [hr]
 ·rw [Lib.bytesWorld_size]; omega
 ·intro i u hu
  have hi : i < l.length := by
   have := (List.getElem?_eq_some_iff.1 hu).1
   simpa [Cv] using this
  have := Lib.bytesWorld_cell w e ⟨l.toArray⟩ i (by rw [hn]; exact hi)
  rw [Nat.zero_add, this]
  rw [cells8_get hi] at hu
  rw [← hu]
  simp [enc8, List.getD_eq_getElem?_getD]
class IfT (P : Program) (T : TypeId) : Prop where
 out : ∃ ms, P.underlying T = some (.interface ms)
theorem W_nilneq {xt yt : TypeId} {x : Operand} [hT : IfT P xt] (hx : ev f x = .nilIface) (h : AW P all Z K rest (upd f d (.bool false)) ds w) :
  AW P all Z K (⟨some d, .binOp .neq xt x (.const .nilIface) yt, ty, pos, af, none⟩ :: rest) f ds w := by
 obtain ⟨ms, h1⟩ := hT.out
 refine A5 rfl ?_ h
 have hq : (Op.equalIn Op.maxDepth xt .nilIface .nilIface).run P w = .ok true w := by
  rw [show Op.maxDepth = 9999 + 1 from rfl]
  generalize 9999 = n
  unfold Op.equalIn
  simp [run_underlying h1]
 have hy : ev f (.const .nilIface) = .nilIface := rfl
 simp [execOp, hx, hy, eqGuard, binOp, Op.equal, hq]
end Go.Proofs.YtfcgdbmoncnibaaGreatDoor
namespace Go.Proofs.YtfcgdbmoncnibaaGreatDoor
open Go.RowKit
set_option linter.unusedVariables false
variable {mk : Prop} [MK mk]
instance : IfT Tryz.prog 182 := ⟨_, Tryz.underlying182⟩
def topN : Nat → Int
 | 0 => 0
 | k + 1 => 10 * topN k + 9
theorem topN_le {k : Nat} (h : k ≤ 4) : topN k ≤ 9999 := by
 match k, h with
 | 0, _ => decide
 | 1, _ => decide
 | 2, _ => decide
 | 3, _ => decide
 | 4, _ => decide
 | k + 5, h => omega
theorem numOf_snoc (l : List UInt8) (c : UInt8) : Da (l ++ [c]) = 10 * Da l + ((c.toNat : Int) - 48) := by simp [Da]
theorem numOf_le : ∀ (k : Nat) (l : List UInt8), l.length = k → (∀ c ∈ l, Ap c = true) → 0 ≤ Da l ∧ Da l ≤ topN k
 | 0, l, hl, _ => by
  obtain rfl := List.eq_nil_of_length_eq_zero hl
  exact ⟨by decide, by decide⟩
 | k + 1, l, hl, hd => by
  have hne : l ≠ [] := fun e => by subst e; simp at hl
  have e := List.dropLast_concat_getLast hne
  have ih := numOf_le k l.dropLast (by simp [hl]) (fun c hc => hd c (List.dropLast_subset _ hc))
  have hc := hd _ (List.getLast_mem hne)
  generalize l.getLast hne = c at hc e
  rw [← e, numOf_snoc]
  simp [Ap] at hc
  unfold topN
  omega
theorem atoi_ok (s : List UInt8) (w : World) (h1 : 1 ≤ s.length) (h4 : s.length ≤ 4) (hd : ∀ c ∈ s, Ap c = true) : Fn Tryz.prog 162 [AL s] w fun v w' => v = .tuple #[.int .i64 (Da s), .nilIface] ∧ Ext w w' := by
 have hc0 : s[0]? = some s[0] := List.getElem?_eq_getElem (by omega)
 have hd0 := hd s[0] (List.getElem_mem _)
 generalize s[0] = c0 at hc0 hd0
 simp [Ap] at hd0
 refine Ab Tryz.func162 rfl Tryz.ntmps162 (Nat.le_of_ble_eq_true rfl) (by kernel_rfl) ?_
 repeat refine nx rfl ?_
 refine AA (AC (AF rfl (AC (Az ?_))))
 repeat refine nx rfl ?_
 refine AA (AU rfl (Au rfl (AC (AF rfl ?_))))
 repeat refine nx rfl ?_
 refine AA (AB rfl (AI rfl (AI rfl (AI rfl (AI rfl (AI rfl (AI rfl (AP rfl (AB rfl (AB rfl (AE rfl (AB rfl (AE rfl (AF rfl (AE rfl (BC rfl rfl (by omega) (AE rfl (AB rfl (AE rfl (AF rfl (AE rfl (BC rfl rfl (by omega) (AE rfl (AK rfl (AB rfl (AE rfl (AK rfl (AB rfl (AP rfl (AB rfl ?_))))))))))))))))))))))))))))))
 repeat refine nx rfl ?_
 refine AA (AU rfl (AC (AU rfl ?_)))
 repeat refine nx rfl ?_
 refine AA (AU rfl ?_)
 refine BB (j := 0) rfl rfl hc0 ?_
 refine AN rfl rfl (by omega) (AB rfl (AE rfl (AU rfl ?_)))
 refine AE rfl (BB (j := 0) rfl rfl hc0 ?_)
 refine AE rfl (AN rfl rfl (by omega) (AP rfl (AB rfl ?_)))
 repeat first | refine nx rfl ?_ | refine nf rfl ?_
 refine AA (AC (AF rfl ?_))
 repeat refine nx rfl ?_
 refine AA (AU rfl ?_)
 refine W_strb rfl (fun w1 cap k1 z1 b1 => ?_)
 refine As rfl (AF rfl ?_)
 repeat refine nx rfl ?_
 refine BJ (α := Nat) (fun k => [(5, AL s), (6, .int .i64 (Da (s.take k))), (47, .slice (some ⟨w.heap.size, 0, none⟩) s.length cap), (48, .int .i64 (s.length : Int)), (49, .int .i64 (k : Int))]) (fun k w2 => k ≤ s.length ∧ w2 = w1) (fun k => s.length - k) 0 ⟨rfl, rfl, rfl, rfl, rfl, trivial⟩ ⟨by omega, rfl⟩ ?_
 rintro k w2 f2 ⟨hk, rfl⟩
 repeat refine nx rfl ?_
 by_cases hlt : k < s.length
 ·have hck : s[k]? = some s[k] := List.getElem?_eq_getElem hlt
  have hdk := hd s[k] (List.getElem_mem _)
  generalize s[k] = c at hck hdk
  simp [Ap] at hdk
  have hb : w2.cell? ⟨w.heap.size, 0 + k, none⟩ = some (.int .u8 (c.toNat : Int)) := b1 k _ (by simp [Cv, hck, enc8])
  have et : s.take (k + 1) = s.take k ++ [c] := by rw [List.take_add_one, hck]; rfl
  have hn := numOf_le k (s.take k) (by simp; omega) (fun c hc => hd c (List.take_subset _ _ hc))
  have hk4 := topN_le (k := k) (by omega)
  refine AA (BC rfl rfl (by omega) ?_)
  repeat refine nx rfl ?_
  (refine AA (W_idx1 rfl rfl rfl (by omega) (AG rfl (by assumption) ?_)) <;> refine AC (AF rfl ?_))
  repeat refine nx rfl ?_
  (refine AA (AF rfl (W_sub rfl rfl (by first | exact Am (by omega) (by omega) | exact At (by omega) (by omega) | exact Al (by omega) (by omega)) ?_)) <;> refine AC (AF rfl ?_))
  repeat refine nx rfl ?_
  refine AA (AF rfl (DF rfl rfl (by omega) ?_))
  repeat first | refine nx rfl ?_ | refine nf rfl ?_
  (refine AA (AF rfl (W_mul rfl rfl (by first | exact Am (by omega) (by omega) | exact At (by omega) (by omega) | exact Al (by omega) (by omega)) ?_)) <;> refine AF rfl (W_conv rfl (by first | exact Am (by omega) (by omega) | exact At (by omega) (by omega) | exact Al (by omega) (by omega)) ?_) <;> refine BK rfl rfl (by first | exact Am (by omega) (by omega) | exact At (by omega) (by omega) | exact Al (by omega) (by omega)) ?_ <;> refine AC (AF rfl ?_))
  repeat refine nx rfl ?_
  (refine AA (BK rfl rfl (by first | exact Am (by omega) (by omega) | exact At (by omega) (by omega) | exact Al (by omega) (by omega)) ?_) <;> refine AF rfl ?_)
  repeat refine nx rfl ?_
  refine ⟨k + 1, ⟨rfl, ⟨rfl, ?_, rfl, rfl, ?_, trivial⟩, ⟨by omega, rfl⟩⟩, by omega⟩
  ·rw [et, numOf_snoc, Int.mul_comm 10]; rfl
  ·show Value.int .i64 ((k : Int) + 1) = _
   rw [Int.natCast_add]; rfl
 ·obtain rfl : k = s.length := by omega
  refine AA (BA rfl rfl (by omega) ?_)
  repeat first | refine nx rfl ?_ | refine nf rfl ?_
  refine AA (AU rfl ?_)
  refine BB (j := 0) rfl rfl hc0 ?_
  refine AN rfl rfl (by omega) ?_
  repeat first | refine nx rfl ?_ | refine nf rfl ?_
  refine AA (AF rfl (AC (AF rfl (AC (Az ?_)))))
  repeat refine nx rfl ?_
  exact fin_ret2 rfl ⟨by rw [List.take_length]; rfl, k1⟩
theorem Atoi_ok (s : List UInt8) (w : World) (h1 : 1 ≤ s.length) (h4 : s.length ≤ 4) (hd : ∀ c ∈ s, Ap c = true) : Fn Tryz.prog 155 [AL s] w fun v w' => v = .tuple #[.int .i64 (Da s), .nilIface] ∧ Ext w w' := by
 refine Ab Tryz.func155 rfl Tryz.ntmps155 (Nat.le_of_ble_eq_true rfl) (by kernel_rfl) ?_
 repeat refine nx rfl ?_
 refine AA (AC (AF rfl (AC (Az ?_))))
 repeat refine nx rfl ?_
 refine AA (AU rfl ?_)
 refine AS (atoi_ok s w h1 h4 hd) rfl ?_
 rintro v w1 ⟨rfl, k1⟩
 refine Bp rfl (Ag rfl rfl (Ag rfl rfl (AC (AF rfl (AC (Az ?_))))))
 repeat refine nx rfl ?_
 refine AA (Az ?_)
 refine W_nilneq rfl ?_
 repeat first | refine nx rfl ?_ | refine nf rfl ?_
 refine AA (AF rfl (AC (AF rfl (AC (Az ?_)))))
 repeat refine nx rfl ?_
 exact fin_ret2 rfl ⟨rfl, k1⟩
end Go.Proofs.YtfcgdbmoncnibaaGreatDoor
namespace Go.Proofs.YtfcgdbmoncnibaaGreatDoor
open Go.RowKit
set_option linter.unusedVariables false
variable {mk : Prop} [MK mk]
theorem run_accepts_t {t : List UInt8} {ts : List Tok} (h : Aw t (ts.head?.map bare) = true) : Run (BU t) ts (.ok (true, ts.tail)) := by
 refine Run.look ?_
 rw [if_pos h]; exact Run.next (Run.ret _ _)
theorem run_accepts_f {t : List UInt8} {ts : List Tok} (h : Aw t (ts.head?.map bare) = false) : Run (BU t) ts (.ok (false, ts)) := by
 refine Run.look ?_
 rw [h]; exact Run.ret _ _
theorem run_expect_t {t : List UInt8} {ts : List Tok} (h : Aw t (ts.head?.map bare) = true) : Run (B7 t) ts (.ok ((), ts.tail)) := by
 refine Run.look ?_
 rw [if_pos h]; exact Run.next (Run.ret _ _)
theorem run_expect_f {t : List UInt8} {ts : List Tok} (h : Aw t (ts.head?.map bare) = false) : Run (B7 t) ts (.error ts) := by
 refine Run.look ?_
 rw [h]; exact Run.fail _
theorem B9 (E : Env) (w : World) (ts : List Tok) (t : List UInt8) (h : PSt w E ts) : Fn Tryz.prog 106 [pt E.s, AL t] w (fun v w' => Keep [E.s] w w' ∧ ∃ b ts', v = .bool b ∧ Run (BU t) ts (.ok (b, ts')) ∧ PSt w' E ts') := by
 obtain ⟨a, c, hb, hs⟩ := h.blk
 refine Ab Tryz.func106 rfl Tryz.ntmps106 (Nat.le_of_ble_eq_true rfl) (by kernel_rfl) ?_
 repeat refine nx rfl ?_
 refine AA (AC (AB rfl ?_))
 repeat refine nx rfl ?_
 refine AA (AQ rfl (AU rfl ?_))
 refine AS (sees_ok E w ts t h) rfl ?_
 rintro v w1 ⟨rfl, rfl⟩
 refine A9 rfl (AJ ?_)
 cases hse : Aw t (ts.head?.map bare) with
 | false =>
  repeat refine nx rfl ?_
  refine AA (AC (AB rfl ?_))
  repeat refine nx rfl ?_
  exact AO rfl ⟨Keep.refl _ _, false, ts, rfl, run_accepts_f hse, h⟩
 | true =>
  cases ts with
  | nil => simp [Aw] at hse
  | cons x l =>
   have hl : (x :: l).length = l.length + 1 := rfl
   obtain ⟨b, o, rfl, h1c, _, hs1⟩ := PSt.tok hs
   repeat first | refine nx rfl ?_ | refine nf rfl ?_
   (refine AA (AQ rfl (AQ rfl (AH rfl (AD rfl (AG rfl (Blk.cell (by assumption) (by rfl)) ?_))))) <;> refine W_slice_l rfl rfl (by omega) (by omega) (AH rfl (AD rfl ?_)))
   refine Ao rfl rfl rfl hb (by simp) (fun w2 p2 => ?_)
   have q2 := h.taken hs1 p2
   repeat refine nx rfl ?_
   refine AA (AC (AB rfl ?_))
   repeat refine nx rfl ?_
   exact AO rfl ⟨p2.keep, true, l, rfl, run_accepts_t hse, q2⟩
theorem Cr (E : Env) (w : World) (ts : List Tok) (t : List UInt8) (h : PSt w E ts) : PDo E 109 [pt E.s, AL t] w (B7 t) ts (fun _ v _ => v = .tuple #[]) := by
 unfold PDo
 refine Ar Tryz.func109 rfl Tryz.ntmps109 (Nat.le_of_ble_eq_true rfl) (by kernel_rfl) ?_
 repeat refine nx rfl ?_
 refine AA (AQ rfl (AU rfl ?_))
 refine AS (B9 E w ts t h) rfl ?_
 rintro v w1 ⟨k1, b, ts', rfl, hr, q1⟩
 cases hse : Aw t (ts.head?.map bare) with
 | false =>
  have e := hr.det (run_accepts_f hse)
  cases e
  refine A9 rfl ?_
  repeat refine nx rfl ?_
  refine AA (AQ rfl ?_)
  refine Aa (wrong_ok E w1 ts q1) rfl (R := fun _ _ => False) ?_ ?_
  ·rintro v w2 hh; exact hh.elim
  ·rintro ch w2 ⟨rfl, rfl⟩
   repeat refine nx rfl ?_
   exact AY ⟨k1, ts, run_expect_f hse, rfl⟩
 | true =>
  have e := hr.det (run_accepts_t hse)
  cases e
  refine A9 rfl ?_
  repeat first | refine nx rfl ?_ | refine nf rfl ?_
  exact A1 rfl ⟨k1, (), ts.tail, run_expect_t hse, q1, rfl⟩
theorem pname_ok (E : Env) (w : World) (ts : List Tok) (h : PSt w E ts) (hG : GK w) : PDo E 108 [pt E.s] w nameG ts (fun _ v s => v = AL s ∧ BV s = true) := by
 obtain ⟨a, c, hb, hs⟩ := h.blk
 unfold PDo
 refine Ar Tryz.func108 rfl Tryz.ntmps108 (Nat.le_of_ble_eq_true rfl) (by kernel_rfl) ?_
 repeat refine nx rfl ?_
 refine AA (AC (AU rfl ?_))
 repeat refine nx rfl ?_
 cases ts with
 | nil =>
  have hl : ([] : List Tok).length = 0 := rfl
  (refine AA (AQ rfl (AH rfl (AD rfl (AG rfl (Blk.cell (by assumption) (by rfl)) ?_)))) <;> refine As rfl (Av rfl rfl (by omega) (AB rfl (AI rfl (AI rfl (AI rfl (AI rfl (AI rfl (AI rfl (AI rfl (AI rfl (AK rfl (AB rfl (AB rfl (AI rfl (AI rfl (AI rfl (AI rfl (AI rfl (AI rfl (AI rfl (AI rfl (AI rfl (AK rfl (AB rfl ?_)))))))))))))))))))))))))
  repeat refine nx rfl ?_
  refine AA (AQ rfl ?_)
  refine Aa (wrong_ok E w [] h) rfl (R := fun _ _ => False) ?_ ?_
  ·rintro v w2 hh; exact hh.elim
  ·rintro ch w2 ⟨rfl, rfl⟩
   repeat refine nx rfl ?_
   exact AY ⟨Keep.refl _ _, [], Run.look (Run.fail _), rfl⟩
 | cons x l =>
  have hl : (x :: l).length = l.length + 1 := rfl
  obtain ⟨b, o, rfl, h1c, ⟨hc0, hc1, hc2⟩, hs1⟩ := PSt.tok hs
  by_cases hok : x.kind = 1 ∧ BV x.text = true
  ·obtain ⟨hk, hn⟩ := hok
   (refine AA (AQ rfl (AH rfl (AD rfl (AG rfl (Blk.cell (by assumption) (by rfl)) ?_)))) <;> refine As rfl (AN rfl rfl (by omega) (AB rfl (AE rfl (AQ rfl (AE rfl (AH rfl (AE rfl (AD rfl (AE rfl (AG rfl (Blk.cell (by assumption) (by rfl)) ?_)))))))))) <;> refine AE rfl (BO rfl rfl (by omega) (by omega) (AE rfl (AD rfl (AE rfl (AG rfl (by assumption) ?_))))) <;> refine AE rfl (W_neqF rfl rfl (by omega) (AP rfl (AB rfl (AB rfl (AE rfl (AQ rfl (AE rfl (AH rfl (AE rfl (AD rfl (AE rfl (AG rfl (Blk.cell (by assumption) (by rfl)) ?_)))))))))))) <;> refine AE rfl (BO rfl rfl (by omega) (by omega) (AE rfl (AD rfl (AE rfl (AG rfl (by assumption) ?_))))))
   refine AE rfl (AS (sigName_ok x.text w hG) rfl ?_)
   rintro v w1 ⟨rfl, rfl⟩
   rw [hn]
   refine AE rfl (A9 rfl (AP rfl (AB rfl ?_)))
   repeat first | refine nx rfl ?_ | refine nf rfl ?_
   (refine AA (AQ rfl (AH rfl (AD rfl (AG rfl (Blk.cell (by assumption) (by rfl)) ?_)))) <;> refine BO rfl rfl (by omega) (by omega) (AD rfl (AG rfl (by assumption) ?_)) <;> refine AC (AU rfl ?_))
   repeat refine nx rfl ?_
   (refine AA (AQ rfl (AQ rfl (AH rfl (AD rfl (AG rfl (Blk.cell (by assumption) (by rfl)) ?_))))) <;> refine W_slice_l rfl rfl (by omega) (by omega) (AH rfl (AD rfl ?_)))
   refine Ao rfl rfl rfl hb (by simp) (fun w2 p2 => ?_)
   have q2 := h.taken hs1 p2
   repeat refine nx rfl ?_
   refine AA (AU rfl (AC (AU rfl ?_)))
   repeat refine nx rfl ?_
   refine AO rfl ⟨p2.keep, x.text, l, Run.look ?_, q2, rfl, hn⟩
   have e : (decide (x.kind = 1) && BV x.text) = true := by simp [hk, hn]
   show Run (if (decide (x.kind = 1) && BV x.text) = true then _ else _) _ _
   rw [if_pos e]
   exact Run.next (Run.ret _ _)
  ·have hrun : Run nameG (x :: l) (.error (x :: l)) := by
    have e : (decide (x.kind = 1) && BV x.text) = false := by
     cases hb : (decide (x.kind = 1) && BV x.text) with
     | false => rfl
     | true => simp at hb; exact absurd hb hok
    refine Run.look ?_
    show Run (if (decide (x.kind = 1) && BV x.text) = true then _ else _) _ _
    rw [e]
    exact Run.fail _
   by_cases hk : x.kind = 1
   ·have hn : BV x.text = false := by
     cases hb : BV x.text with
     | false => rfl
     | true => exact absurd ⟨hk, hb⟩ hok
    (refine AA (AQ rfl (AH rfl (AD rfl (AG rfl (Blk.cell (by assumption) (by rfl)) ?_)))) <;> refine As rfl (AN rfl rfl (by omega) (AB rfl (AE rfl (AQ rfl (AE rfl (AH rfl (AE rfl (AD rfl (AE rfl (AG rfl (Blk.cell (by assumption) (by rfl)) ?_)))))))))) <;> refine AE rfl (BO rfl rfl (by omega) (by omega) (AE rfl (AD rfl (AE rfl (AG rfl (by assumption) ?_))))) <;> refine AE rfl (W_neqF rfl rfl (by omega) (AP rfl (AB rfl (AB rfl (AE rfl (AQ rfl (AE rfl (AH rfl (AE rfl (AD rfl (AE rfl (AG rfl (Blk.cell (by assumption) (by rfl)) ?_)))))))))))) <;> refine AE rfl (BO rfl rfl (by omega) (by omega) (AE rfl (AD rfl (AE rfl (AG rfl (by assumption) ?_))))))
    refine AE rfl (AS (sigName_ok x.text w hG) rfl ?_)
    rintro v w1 ⟨rfl, rfl⟩
    rw [hn]
    refine AE rfl (A9 rfl (AP rfl (AB rfl ?_)))
    repeat refine nx rfl ?_
    refine AA (AQ rfl ?_)
    refine Aa (wrong_ok E w1 (x :: l) h) rfl (R := fun _ _ => False) ?_ ?_
    ·rintro v w2 hh; exact hh.elim
    ·rintro ch w2 ⟨rfl, rfl⟩
     repeat refine nx rfl ?_
     exact AY ⟨Keep.refl _ _, x :: l, hrun, rfl⟩
   ·(refine AA (AQ rfl (AH rfl (AD rfl (AG rfl (Blk.cell (by assumption) (by rfl)) ?_)))) <;> refine As rfl (AN rfl rfl (by omega) (AB rfl (AE rfl (AQ rfl (AE rfl (AH rfl (AE rfl (AD rfl (AE rfl (AG rfl (Blk.cell (by assumption) (by rfl)) ?_)))))))))) <;> refine AE rfl (BO rfl rfl (by omega) (by omega) (AE rfl (AD rfl (AE rfl (AG rfl (by assumption) ?_))))) <;> refine AE rfl (W_neqT rfl rfl (by omega) (AP rfl (AB rfl (AB rfl (AI rfl (AI rfl (AI rfl (AI rfl (AI rfl (AI rfl (AI rfl ?_))))))))))))
    refine AI rfl (AI rfl (AK rfl (AB rfl ?_)))
    repeat refine nx rfl ?_
    refine AA (AQ rfl ?_)
    refine Aa (wrong_ok E w (x :: l) h) rfl (R := fun _ _ => False) ?_ ?_
    ·rintro v w2 hh; exact hh.elim
    ·rintro ch w2 ⟨rfl, rfl⟩
     repeat refine nx rfl ?_
     exact AY ⟨Keep.refl _ _, x :: l, hrun, rfl⟩
theorem number_ok (E : Env) (w : World) (ts : List Tok) (h : PSt w E ts) : PDo E 129 [pt E.s] w numberG ts (fun _ v n => v = .int .i64 n ∧ 0 ≤ n ∧ n ≤ 9999) := by
 obtain ⟨a, c, hb, hs⟩ := h.blk
 unfold PDo
 refine Ar Tryz.func129 rfl Tryz.ntmps129 (Nat.le_of_ble_eq_true rfl) (by kernel_rfl) ?_
 repeat refine nx rfl ?_
 refine AA (AC (AF rfl ?_))
 repeat refine nx rfl ?_
 cases ts with
 | nil =>
  have hl : ([] : List Tok).length = 0 := rfl
  (refine AA (AQ rfl (AH rfl (AD rfl (AG rfl (Blk.cell (by assumption) (by rfl)) ?_)))) <;> refine As rfl (Av rfl rfl (by omega) (AB rfl (AI rfl (AI rfl (AI rfl (AI rfl (AI rfl (AI rfl (AI rfl (AI rfl (AK rfl (AB rfl ?_)))))))))))))
  repeat refine nx rfl ?_
  refine AA (AQ rfl ?_)
  refine Aa (wrong_ok E w [] h) rfl (R := fun _ _ => False) ?_ ?_
  ·rintro v w2 hh; exact hh.elim
  ·rintro ch w2 ⟨rfl, rfl⟩
   repeat refine nx rfl ?_
   exact AY ⟨Keep.refl _ _, [], Run.look (Run.fail _), rfl⟩
 | cons x l =>
  have hl : (x :: l).length = l.length + 1 := rfl
  obtain ⟨b, o, rfl, h1c, ⟨hc0, hc1, hc2⟩, hs1⟩ := PSt.tok hs
  by_cases hk : x.kind = 2
  ·obtain ⟨g1, g2, g3⟩ := h.wf x (by simp) hk
   (refine AA (AQ rfl (AH rfl (AD rfl (AG rfl (Blk.cell (by assumption) (by rfl)) ?_)))) <;> refine As rfl (AN rfl rfl (by omega) (AB rfl (AE rfl (AQ rfl (AE rfl (AH rfl (AE rfl (AD rfl (AE rfl (AG rfl (Blk.cell (by assumption) (by rfl)) ?_)))))))))) <;> refine AE rfl (BO rfl rfl (by omega) (by omega) (AE rfl (AD rfl (AE rfl (AG rfl (by assumption) ?_))))) <;> refine AE rfl (W_neqF rfl rfl (by omega) (AP rfl (AB rfl ?_))))
   repeat first | refine nx rfl ?_ | refine nf rfl ?_
   (refine AA (AQ rfl (AH rfl (AD rfl (AG rfl (Blk.cell (by assumption) (by rfl)) ?_)))) <;> refine BO rfl rfl (by omega) (by omega) (AD rfl (AG rfl (by assumption) ?_)))
   refine AS (Atoi_ok x.text w g1 g2 g3) rfl ?_
   rintro v w1 ⟨rfl, k1⟩
   refine Bp rfl (Ag rfl rfl (Ag rfl rfl (AC (AF rfl (AC (Az ?_))))))
   repeat refine nx rfl ?_
   replace h := h.ext k1
   replace hb := hb.keep k1 (by simp)
   replace hs1 := hs1.ext k1
   (refine AA (AQ rfl (AQ rfl (AH rfl (AD rfl (AG rfl (Blk.cell (by assumption) (by rfl)) ?_))))) <;> refine W_slice_l rfl rfl (by omega) (by omega) (AH rfl (AD rfl ?_)))
   refine Ao rfl rfl rfl hb (by simp) (fun w2 p2 => ?_)
   have q2 := h.taken hs1 p2
   repeat refine nx rfl ?_
   refine AA (AF rfl (AC (AF rfl ?_)))
   repeat refine nx rfl ?_
   have hn := numOf_le _ x.text rfl g3
   have hn4 := topN_le g2
   refine AO rfl ⟨k1.any.trans p2.keep (by simp), Da x.text, l, Run.look ?_, q2, rfl, by omega⟩
   show Run (if decide (x.kind = 2) = true then _ else _) _ _
   rw [if_pos (by simp [hk])]
   exact Run.next (Run.ret _ _)
  ·(refine AA (AQ rfl (AH rfl (AD rfl (AG rfl (Blk.cell (by assumption) (by rfl)) ?_)))) <;> refine As rfl (AN rfl rfl (by omega) (AB rfl (AE rfl (AQ rfl (AE rfl (AH rfl (AE rfl (AD rfl (AE rfl (AG rfl (Blk.cell (by assumption) (by rfl)) ?_)))))))))) <;> refine AE rfl (BO rfl rfl (by omega) (by omega) (AE rfl (AD rfl (AE rfl (AG rfl (by assumption) ?_))))) <;> refine AE rfl (W_neqT rfl rfl (by omega) (AP rfl (AB rfl ?_))))
   repeat refine nx rfl ?_
   refine AA (AQ rfl ?_)
   refine Aa (wrong_ok E w (x :: l) h) rfl (R := fun _ _ => False) ?_ ?_
   ·rintro v w2 hh; exact hh.elim
   ·rintro ch w2 ⟨rfl, rfl⟩
    repeat refine nx rfl ?_
    refine AY ⟨Keep.refl _ _, x :: l, Run.look ?_, rfl⟩
    show Run (if decide (x.kind = 2) = true then _ else _) _ _
    rw [if_neg (by simp [hk])]
    exact Run.fail _
end Go.Proofs.YtfcgdbmoncnibaaGreatDoor
namespace Go.Proofs.YtfcgdbmoncnibaaGreatDoor
open Go.RowKit
set_option linter.unusedVariables false
variable {mk : Prop} [MK mk]
def oprC (o : Opr) : List Value := [.int .i64 o.op, .int .i64 o.indexed, .int .i64 o.val]
theorem oneC_opr (o : Opr) : oneC (oprC o) := by
 intro u hu
 simp [oprC] at hu
 rcases hu with rfl | rfl | rfl <;> rfl
theorem tabV_lookup (x : List UInt8) : ∀ t : List (List UInt8 × Opr), (tabV t).lookup x = (t.lookup x).map oprV
 | [] => rfl
 | (a, o) :: t => by
  have ih := tabV_lookup x t
  simp only [tabV, List.map_cons, List.lookup_cons] at ih ⊢
  cases x == a <;> simp [ih]
def takeV (o : Option Opr) : List Value := oprC (o.getD ⟨0, 0, 0⟩)
theorem take_ok (E : Env) (w : World) (ts : List Tok) (m : Nat) (tab : List (List UInt8 × Opr)) (h : PSt w E ts) (hm : SMap w m (tabV tab)) (hms : m ≠ E.s) :
  Fn Tryz.prog 165 [pt E.s, .map (some m)] w (fun v w' => Keep [E.s] w w' ∧ ∃ o ts', v = .tuple #[.agg (takeV o).toArray, .bool o.isSome] ∧ Run (takeG tab) ts (.ok (o, ts')) ∧ PSt w' E ts') := by
 obtain ⟨a, c, hb, hs⟩ := h.blk
 refine Ab Tryz.func165 rfl Tryz.ntmps165 (Nat.le_of_ble_eq_true rfl) (by kernel_rfl) ?_
 repeat refine nx rfl ?_
 refine AA ?_
 refine Ay (fun w1 n1 => ?_)
 have b1 : Blk w1 w.heap.size 191 [.int .i64 0, .int .i64 0, .int .i64 0] := n1.blk
 have z1 := n1.size
 have hsl := h.slt
 have h1 := h.ext n1.keep
 have hb1 := hb.keep n1.keep (by simp)
 have hs1 := hs.ext n1.keep
 have hm1 := hm.keep n1.keep (by simp)
 refine AC (AB rfl ?_)
 repeat refine nx rfl ?_
 cases ts with
 | nil =>
  have hl : ([] : List Tok).length = 0 := rfl
  (refine AA (AQ rfl (AH rfl (AD rfl (AG rfl (Blk.cell (by assumption) (by rfl)) ?_)))) <;> refine As rfl (Av rfl rfl (by omega) ?_))
  repeat refine nx rfl ?_
  refine AA (Ad (by rfl) (by rfl) ?_)
  refine AZ (cs := [.int .i64 0, .int .i64 0, .int .i64 0]) rfl rfl rfl (oneC_opr ⟨0, 0, 0⟩) b1 (by simp) (fun w2 p2 => ?_)
  have b2 : Blk w2 w.heap.size 191 [.int .i64 0, .int .i64 0, .int .i64 0] := p2.blk
  refine AC (AB rfl ?_)
  repeat refine nx rfl ?_
  exact CJ rfl rfl rfl b2.cells ⟨(n1.keep.keep p2.keep (by simp)).any, none, [], rfl, Run.look (Run.ret _ _), h1.keep p2.keep (by simp; omega)⟩
 | cons x l =>
  have hl : (x :: l).length = l.length + 1 := rfl
  obtain ⟨b, o, rfl, h1c, ⟨hc0, hc1, hc2⟩, hsl1⟩ := PSt.tok hs1
  have e0 := tabV_lookup x.text tab
  (refine AA (AQ rfl (AH rfl (AD rfl (AG rfl (Blk.cell (by assumption) (by rfl)) ?_)))) <;> refine As rfl (AN rfl rfl (by omega) ?_))
  repeat first | refine nx rfl ?_ | refine nf rfl ?_
  (refine AA (M_map rfl (AQ rfl (AH rfl (AD rfl (AG rfl (Blk.cell (by assumption) (by rfl)) ?_))))) <;> refine BO rfl rfl (by omega) (by omega) (AD rfl (AG rfl (by assumption) ?_)))
  refine W_lookup2S rfl rfl hm1 ?_
  have eg : ((tabV tab).lookup x.text).getD (.agg #[.int .i64 0, .int .i64 0, .int .i64 0]) = .agg (takeV (tab.lookup x.text)).toArray := by
   rw [e0]; cases tab.lookup x.text <;> rfl
  have es : ((tabV tab).lookup x.text).isSome = (tab.lookup x.text).isSome := by rw [e0]; simp
  rw [eg, es]
  have hrun : Run (takeG tab) (x :: l) (match tab.lookup x.text with | some p => .ok (some p, l) | none => .ok (none, x :: l)) := by
   refine Run.look ?_
   show Run (match tab.lookup x.text with | some p => .next (.ret (some p)) | none => .ret none) _ _
   cases tab.lookup x.text with
   | none => exact Run.ret _ _
   | some p => exact Run.next (Run.ret _ _)
  have hone : oneC (takeV (tab.lookup x.text)) := oneC_opr _
  have hlen : (takeV (tab.lookup x.text)).length = 3 := rfl
  generalize tab.lookup x.text = q at hrun hone hlen
  refine Bp rfl (Ag rfl rfl (Ag rfl rfl ?_))
  refine Ay (fun w2 n2 => ?_)
  have z2 := n2.size
  refine AZ (cs := takeV q) rfl rfl rfl hone n2.blk (by simp [takeV, oprC]) (fun w3 p3 => ?_)
  have k3 : Ext w1 w3 := n2.keep.keep p3.keep (by simp)
  have b3 : Blk w3 w1.heap.size 191 (takeV q) := p3.blk
  have h3 := h1.ext k3
  have hb3 := hb1.keep k3 (by simp)
  have hsl3 := hsl1.ext k3
  have b1' := b1.keep k3 (by simp)
  refine AC (AB rfl ?_)
  repeat refine nx rfl ?_
  refine AA (AB rfl (AJ ?_))
  cases q with
  | none =>
   repeat first | refine nx rfl ?_ | refine nf rfl ?_
   (refine AA (AX rfl (by assumption) (by rfl) ?_) <;> refine AB rfl ?_)
   refine AZ (cs := takeV none) rfl rfl rfl hone b1' (by simp [takeV, oprC]) (fun w4 p4 => ?_)
   have b4 : Blk w4 w.heap.size 191 (takeV none) := p4.blk
   have k4 : Ext w w4 := (n1.keep.trans k3).keep p4.keep (by simp)
   refine AC (AB rfl ?_)
   repeat refine nx rfl ?_
   exact CJ rfl rfl rfl b4.cells ⟨k4.any, none, x :: l, rfl, hrun, h3.keep p4.keep (by simp; omega)⟩
  | some q =>
   repeat refine nx rfl ?_
   (refine AA (AQ rfl (AQ rfl (AH rfl (AD rfl (AG rfl (Blk.cell (by assumption) (by rfl)) ?_))))) <;> refine W_slice_l rfl rfl (by omega) (by omega) (AH rfl (AD rfl ?_)))
   refine Ao rfl rfl rfl hb3 (by simp) (fun w4 p4 => ?_)
   have q4 := h3.taken hsl3 p4
   have b3' := b3.keep p4.keep (by simp; omega)
   have b1'' := b1'.keep p4.keep (by simp; omega)
   repeat refine nx rfl ?_
   (refine AA (AX rfl (by assumption) (by rfl) ?_) <;> refine AB rfl ?_)
   refine AZ (cs := takeV (some q)) rfl rfl rfl hone b1'' (by simp [takeV, oprC]) (fun w5 p5 => ?_)
   have b5 : Blk w5 w.heap.size 191 (takeV (some q)) := p5.blk
   have k5 : Keep [E.s] w w5 := ((n1.keep.trans k3).any.trans p4.keep (by simp)).trans p5.keep (by simp)
   refine AC (AB rfl ?_)
   repeat refine nx rfl ?_
   exact CJ rfl rfl rfl b5.cells ⟨k5, some q, l, rfl, hrun, q4.keep p5.keep (by simp; omega)⟩
theorem index_ok (E : Env) (w : World) (ts : List Tok) (o : Opr) (h : PSt w E ts) : PDo E 166 [pt E.s, .agg (oprC o).toArray] w (DG o) ts (fun _ v n => v = .tuple #[.int .i64 (n.getD 0), .bool n.isSome] ∧ 0 ≤ n.getD 0 ∧ n.getD 0 ≤ 9999) := by
 have hsl := h.slt
 unfold PDo
 refine Ar Tryz.func166 rfl Tryz.ntmps166 (Nat.le_of_ble_eq_true rfl) (by kernel_rfl) ?_
 repeat refine nx rfl ?_
 (refine AA ?_; refine Bq (L := oprC o) rfl (fun w1 n1 => ?_))
 have b1 : Blk w1 w.heap.size 191 [.int .i64 o.op, .int .i64 o.indexed, .int .i64 o.val] := n1.blk
 have z1 := n1.size
 have h1 := h.ext n1.keep
 refine AC (AF rfl (AC (AB rfl ?_)))
 repeat refine nx rfl ?_
 by_cases h0 : o.indexed = 0
 ·(refine AA (AD rfl (AG rfl (Blk.cell (by assumption) (by rfl)) ?_)) <;> refine Av rfl rfl (by omega) (AB rfl (AI rfl ?_)))
  refine AI rfl (AI rfl (AK rfl (AB rfl ?_)))
  repeat refine nx rfl ?_
  refine AA (AC (AF rfl (AC (AB rfl ?_))))
  repeat refine nx rfl ?_
  refine fin_ret2 rfl ⟨n1.keep.any, none, ts, ?_, h1, rfl, by decide, by decide⟩
  unfold DG
  rw [if_pos h0]; exact Run.ret _ _
 ·have e : DG o = (BU [91]).bind fun b => if b then numberG.bind fun n => (B7 [93]).bind fun _ => .ret (some n) else .ret none := by unfold DG; rw [if_neg h0]
  rw [e]
  (refine AA (AD rfl (AG rfl (Blk.cell (by assumption) (by rfl)) ?_)) <;> refine AN rfl rfl (by omega) (AB rfl (AE rfl (AQ rfl ?_))))
  refine AE rfl (AS (B9 E w1 ts [91] h1) rfl ?_)
  rintro v w2 ⟨k2, b, t2, rfl, r2, h2⟩
  replace k2 : Keep [E.s] w w2 := n1.keep.any.trans k2 (by simp)
  cases b with
  | false =>
   refine AE rfl (A9 rfl (AP rfl (AB rfl ?_)))
   repeat refine nx rfl ?_
   refine AA (AC (AF rfl (AC (AB rfl ?_))))
   repeat refine nx rfl ?_
   exact fin_ret2 rfl ⟨k2, none, t2, r2.bind (Run.ret _ _), h2, rfl, by decide, by decide⟩
  | true =>
   refine AE rfl (A9 rfl (AP rfl (AB rfl ?_)))
   repeat first | refine nx rfl ?_ | refine nf rfl ?_
   refine AA (AQ rfl ?_)
   refine Aa (number_ok E w2 t2 h2) rfl ?_ ?_
   ·rintro v w3 ⟨k3, n, t3, r3, h3, rfl, hn0, hn1⟩
    replace k3 := k2.trans k3 (by simp)
    refine AC (AF rfl ?_)
    repeat refine nx rfl ?_
    refine AA (AQ rfl ?_)
    refine Aa (Cr E w3 t3 [93] h3) rfl ?_ ?_
    ·rintro v w4 ⟨k4, u, t4, r4, h4, rfl⟩
     repeat refine nx rfl ?_
     refine AA (AF rfl (AC (AF rfl (AC (AB rfl ?_)))))
     repeat refine nx rfl ?_
     exact fin_ret2 rfl ⟨k3.trans k4 (by simp), some n, t4, r2.bind (r3.bind (r4.bind (Run.ret _ _))), h4, rfl, hn0, hn1⟩
    ·rintro ch w4 ⟨k4, l, r4, rfl⟩
     repeat refine nx rfl ?_
     exact AY ⟨k3.trans k4 (by simp), l, r2.bind (r3.bind (Run.bindE r4)), rfl⟩
   ·rintro ch w3 ⟨k3, l, r3, rfl⟩
    repeat refine nx rfl ?_
    exact AY ⟨k2.trans k3 (by simp), l, r2.bind (Run.bindE r3), rfl⟩
end Go.Proofs.YtfcgdbmoncnibaaGreatDoor
namespace Go.Proofs.YtfcgdbmoncnibaaGreatDoor
open Go.RowKit
set_option linter.unusedVariables false
variable {mk : Prop} [MK mk]
structure PW (w : World) (E : Env) (ts : List Tok) : Prop where
 st : PSt w E ts
 gk : GK w
 ge : 10 ≤ E.s
theorem PW.next {w w' : World} {E : Env} {ts ts' : List Tok} (h : PW w E ts) (k : Keep [E.s] w w') (h' : PSt w' E ts') : PW w' E ts' :=
 ⟨h', h.gk.keep k (by have := h.ge; simpa using this), h.ge⟩
theorem PW.ext {w w' : World} {E : Env} {ts : List Tok} (h : PW w E ts) (k : Ext w w') : PW w' E ts := ⟨h.st.ext k, h.gk.ext k, h.ge⟩
theorem PW.keep {X : List Nat} {w w' : World} {E : Env} {ts : List Tok} (h : PW w E ts) (k : Keep X w w') (hX : ∀ x ∈ X, E.s < x) : PW w' E ts :=
 ⟨h.st.keep k hX, h.gk.keep k (fun x hx => by have := hX x hx; have := h.ge; omega), h.ge⟩
def Cn : List Value := [.int .i64 0, AL [], .int .i64 0, .int .i64 0, .slice none 0 0]
theorem made5 : (madeCells (Value.agg #[.int .i64 0, AL [], .int .i64 0, .int .i64 0, .slice none 0 0]).cells (1 * 5)).toList = Cn := by kernel_rfl
theorem made10 : (madeCells (Value.agg #[.int .i64 0, AL [], .int .i64 0, .int .i64 0, .slice none 0 0]).cells (2 * 5)).toList = Cn ++ Cn := by kernel_rfl
theorem FsAt.fresh {ok : Nat → Prop} {w w' : World} {e : TypeId} {L : List (List Value)} {l : List Fml} (n : New w w' e L.flatten) (h : FsAt ok w L l) (hb : ok w.heap.size) (hl : l.length ≤ 1000000) :
  Sl ok w' (.slice (some ⟨w.heap.size, 0, none⟩) l.length l.length) l.length L.flatten ∧ FsAt ok w' L l :=
 ⟨⟨_, _, rfl, Nat.le_refl _, by omega, (fun h => by cases h), .inr ⟨_, _, rfl, hb, n.blk.cells⟩⟩, h.keep n.keep fun _ _ => by simp⟩
theorem FsAt.one {ok : Nat → Prop} {w : World} {c : List Value} {f : Fml} (h : FAt ok w (.agg c.toArray) f) (hc : c.length = 5) : FsAt ok w [c] [f] := FsAt.cons h hc (FsAt.nil ok w)
theorem FsAt.two {ok : Nat → Prop} {w : World} {c d : List Value} {f g : Fml} (h : FAt ok w (.agg c.toArray) f) (hc : c.length = 5) (h' : FAt ok w (.agg d.toArray) g) (hd : d.length = 5) : FsAt ok w [c, d] [f, g] := FsAt.cons h hc (FsAt.one h' hd)
theorem FsAt.ext {ok : Nat → Prop} {w w' : World} {L : List (List Value)} {l : List Fml} (h : FsAt ok w L l) (k : Ext w w') : FsAt ok w' L l := h.keep k fun _ _ => by simp
theorem flatten_at : ∀ (L : List (List Value)) (k j : Nat) (c : List Value) (v : Value), (∀ c ∈ L, c.length = 5) → L[k]? = some c → c[j]? = some v → L.flatten[k * 5 + j]? = some v
 | [], k, j, c, v, _, h, _ => by simp at h
 | d :: L, 0, j, c, v, h5, h, hv => by
  simp at h; subst h
  rw [List.flatten_cons, Nat.zero_mul, Nat.zero_add, List.getElem?_append_left (List.getElem?_eq_some_iff.1 hv).1]; exact hv
 | d :: L, k + 1, j, c, v, h5, h, hv => by
  have hd := h5 d (by simp)
  rw [List.flatten_cons, List.getElem?_append_right (by omega), hd, show (k + 1) * 5 + j - 5 = k * 5 + j by omega]
  exact flatten_at L k j c v (fun c hc => h5 c (by simp [hc])) (by simpa using h) hv
theorem Sl.fml {ok : Nat → Prop} {w : World} {a : Option Addr} {n cap k : Nat} {L : List (List Value)} {c : List Value} (h : Sl ok w (.slice a n cap) n L.flatten) (h5 : ∀ c ∈ L, c.length = 5) (hk : L[k]? = some c) (hn : k < n) :
  ∃ b o, a = some ⟨b, o, none⟩ ∧ ok b ∧ Cells w b (o + k * 5) c := by
 obtain ⟨a', cap', hv, h1, h2, h3, h4⟩ := h
 cases hv
 obtain ⟨b, o, rfl, hb, hc⟩ := h4.resolve_left (by omega)
 refine ⟨b, o, rfl, hb, fun j v hv => ?_⟩
 have := hc _ _ (flatten_at L k j c v h5 hk hv)
 rwa [← Nat.add_assoc] at this
theorem node_ok (w : World) (op : Int) (ok : Nat → Prop) (a : Option Addr) (cap : Nat) (L : List (List Value)) (l : List Fml) (hS : Sl ok w (.slice a l.length cap) l.length L.flatten) (hF : FsAt ok w L l) (hl : l ≠ []) :
  Fn Tryz.prog 142 [.int .i64 op, .slice a l.length cap] w fun v w' => Ext w w' ∧ FAt ok w' v (nodeF op l) := by
 refine Ab Tryz.func142 rfl Tryz.ntmps142 (Nat.le_of_ble_eq_true rfl) (by kernel_rfl) ?_
 repeat refine nx rfl ?_
 refine AA ?_
 refine Ay (fun w1 n1 => ?_)
 have b1 : Blk w1 w.heap.size 24 Cn := n1.blk
 repeat refine nx rfl ?_
 have hS1 := hS.ext n1.keep
 have hF1 := hF.ext n1.keep
 by_cases h1 : l.length = 1
 ·match l, L, h1, hF1, hS1 with
  | [f], [c], _, hF1, hS1 =>
   have hc5 := hF1.2.1 c (by simp)
   have hf := hF1.2.2 0 c f rfl rfl
   obtain ⟨c', e', _, hone⟩ := hf.cells
   have ecc : c = c' := by simpa using e'
   subst ecc
   obtain ⟨b, o, rfl, hb, hcc⟩ := hS1.fml hF1.2.1 (k := 0) rfl (by simp)
   have hl1 : [f].length = 1 := rfl
   refine AA (Ae rfl (As rfl (Av rfl rfl (by omega) ?_)))
   repeat refine nx rfl ?_
   refine AA (Ae rfl (BO rfl rfl (by omega) (by omega) ?_))
   refine Ac (L := c) rfl hc5 hcc ?_
   refine AZ (cs := c) rfl rfl hc5 hone b1 (by simp [Cn]) (fun w2 p2 => ?_)
   have b2 : Blk w2 w.heap.size 24 c := by
    have := p2.blk
    match c, hc5 with
    | [c0, c1, c2, c3, c4], _ => exact this
   repeat refine nx rfl ?_
   have k2 : Ext w w2 := n1.keep.keep p2.keep (by simp)
   refine A6 rfl rfl hc5 b2.cells ⟨k2, ?_⟩
   exact (hF.2.2 0 c f rfl rfl).ext k2
 ·refine AA (Ae rfl (As rfl (AN rfl rfl (by omega) ?_)))
  repeat first | refine nx rfl ?_ | refine nf rfl ?_
  refine AA (AF rfl (Ae rfl (Ad (by rfl) (by rfl) ?_)))
  refine AZ (cs := [.int .i64 op, AL [], .int .i64 0, .int .i64 0, .slice a l.length cap]) rfl rfl rfl (by intro u hu; simp at hu; rcases hu with rfl | rfl | rfl | rfl | rfl <;> rfl) b1 (by simp [Cn]) (fun w2 p2 => ?_)
  have b2 : Blk w2 w.heap.size 24 [.int .i64 op, AL [], .int .i64 0, .int .i64 0, .slice a l.length cap] := p2.blk
  repeat refine nx rfl ?_
  have k2 : Ext w w2 := n1.keep.keep p2.keep (by simp)
  have en : nodeF op l = ⟨op, [], 0, 0, l⟩ := by
   match l, h1, hl with
   | _ :: _ :: _, _, _ => rfl
  rw [en]
  exact A6 rfl rfl rfl b2.cells ⟨k2, FAt.node op [] 0 0 (hS.ext k2) (hF.ext k2)⟩
structure ChainP (sep : List UInt8) (pi : G Fml) (pl : G (List Fml)) : Prop where
 done : ∀ {t t'}, Run (BU sep) t (.ok (false, t')) → Run pl t (.ok ([], t'))
 more : ∀ {t t1 t2 t3 a l}, Run (BU sep) t (.ok (true, t1)) → Run pi t1 (.ok (a, t2)) → Run pl t2 (.ok (l, t3)) → Run pl t (.ok (a :: l, t3))
 err1 : ∀ {t t1 e}, Run (BU sep) t (.ok (true, t1)) → Run pi t1 (.error e) → Run pl t (.error e)
 err2 : ∀ {t t1 t2 a e}, Run (BU sep) t (.ok (true, t1)) → Run pi t1 (.ok (a, t2)) → Run pl t2 (.error e) → Run pl t (.error e)
def prepA (l : List Fml) : Ans (List Fml) → Ans (List Fml)
 | .ok y => .ok (l ++ y.1, y.2)
 | .error e => .error e
theorem ChainP.step {sep : List UInt8} {pi : G Fml} {pl : G (List Fml)} (h : ChainP sep pi pl) {t t1 t2 : List Tok} {a : Fml} (h1 : Run (BU sep) t (.ok (true, t1))) (h2 : Run pi t1 (.ok (a, t2))) {r : Ans (List Fml)} (hr : Run pl t2 r) : Run pl t (prepA [a] r) := by
 cases r with
 | ok y => exact h.more h1 h2 hr
 | error e => exact h.err2 h1 h2 hr
theorem prepA_app (l m : List Fml) (r : Ans (List Fml)) : prepA l (prepA m r) = prepA (l ++ m) r := by
 cases r <;> simp [prepA]
theorem accepts_inv {t : List UInt8} {ts ts' : List Tok} {b : Bool} (h : Run (BU t) ts (.ok (b, ts'))) : (b = true ∧ ts'.length + 1 = ts.length ∧ Aw t (ts.head?.map bare) = true ∧ ts' = ts.tail) ∨ (b = false ∧ ts' = ts ∧ Aw t (ts.head?.map bare) = false) := by
 cases hs : Aw t (ts.head?.map bare) with
 | true =>
  have e := h.det (run_accepts_t hs)
  cases e
  cases ts with
  | nil => simp [Aw] at hs
  | cons x l => exact .inl ⟨rfl, rfl, rfl, rfl⟩
 | false =>
  have e := h.det (run_accepts_f hs)
  cases e
  exact .inr ⟨rfl, rfl, rfl⟩
def fresh (w : World) : Nat → Prop := fun b => w.heap.size ≤ b
def CW (E : Env) (N : Nat) (g : FuncId) (pi : G Fml) : Prop := ∀ (w : World) (ts : List Tok), PW w E ts → ts.length ≤ N → PDo E g [pt E.s] w pi ts (fun w' v a => FAt (fresh w) w' v a)
theorem chain_ok (E : Env) (N : Nat) (g : FuncId) [AT Tryz.prog g] (sep : List UInt8) (pi : G Fml) (pl : G (List Fml)) (hC : ChainP sep pi pl) (hI : CW E N g pi) (w : World) (ts : List Tok) (h : PW w E ts) (hN : ts.length ≤ N) :
  PDo E 143 [pt E.s, AL sep, .func (.func g) #[pt E.s] #[]] w (pi.bind fun a => pl.bind fun l => .ret (a :: l)) ts
   (fun w' v l => ∃ a c L, v = .slice a l.length c ∧ l ≠ [] ∧ Sl (fresh w) w' v l.length L.flatten ∧ FsAt (fresh w) w' L l) := by
 have hsl := h.st.slt
 unfold PDo
 refine Ar Tryz.func143 rfl Tryz.ntmps143 (Nat.le_of_ble_eq_true rfl) (by kernel_rfl) ?_
 repeat refine nx rfl ?_
 refine AA (AC (Ae rfl ?_))
 repeat refine nx rfl ?_
 refine AA (Ct rfl ?_)
 refine CQ (v1 := [pt E.s]) (v2 := []) (vs := []) rfl (hI w ts h hN) rfl ?_ ?_
 rotate_left
 ·rintro ch w1 ⟨k1, l, r1, rfl⟩
  repeat refine nx rfl ?_
  exact AY ⟨k1, l, Run.bindE r1, rfl⟩
 rintro v w1 ⟨k1, a0, t1, r1, q1, f1⟩
 have h1 := h.next k1 q1
 have f1' := f1.lt
 obtain ⟨av, rfl, _⟩ := f1.form
 refine AV (out := [.int .i64 a0.op, AL a0.name, .int .i64 a0.val, .int .i64 a0.bound, av]) rfl (by omega) (by rw [made5]; rfl) (fun w2 n2 => ?_)
 have z2 := n2.size
 have o2 := n2.own (n := 1) (size := 5) rfl (by unfold maxLen; omega) (Nat.le_refl _)
 have h2 := h1.ext n2.keep
 have hws := k1.size
 refine AC (Ae rfl ?_)
 repeat refine nx rfl ?_
 have ht1 : t1.length ≤ ts.length := (show t1 <:+ ts from r1.suffix).length_le
 refine BJ (α := Value × List (List Value) × List Fml × List Tok) (fun x => [(0, pt E.s), (1, AL sep), (2, .func (.func g) #[pt E.s] #[]), (7, x.1)])
  (fun x W => Keep [E.s] w W ∧ PW W E x.2.2.2 ∧ x.2.2.2.length ≤ t1.length ∧ x.2.2.1.length + x.2.2.2.length ≤ ts.length + 1 ∧ x.1.ownBlock ≠ none ∧ W.ownsRow w1.heap.size 24 5 x.1 x.2.2.1.length x.2.1.flatten ∧ FsAt (fun b => fresh w b ∧ x.1.ownBlock ≠ some b) W x.2.1 x.2.2.1 ∧
   ∃ l', x.2.2.1 = a0 :: l' ∧ ∀ r, Run pl x.2.2.2 r → Run pl t1 (prepA l' r))
  (fun x => x.2.2.2.length) (.slice (some ⟨w1.heap.size, 0, none⟩) 1 1, [[.int .i64 a0.op, AL a0.name, .int .i64 a0.val, .int .i64 a0.bound, av]], [a0], t1)
  ⟨rfl, rfl, rfl, rfl, trivial⟩ ⟨k1.ext n2.keep, h2, Nat.le_refl _, by simp; omega, by simp [Value.ownBlock], by simpa using o2, ?_, [], rfl, fun r hr => by cases r <;> simpa [prepA] using hr⟩ ?_
 ·exact FsAt.one ((f1'.ext n2.keep).mono fun b hb => ⟨hb.1, by simp [Value.ownBlock]; omega⟩) rfl
 rintro ⟨v, L, l, cur⟩ w3 f3 ⟨k3, h3, hcur, hcnt, hown, o3, F3, l', rfl, hcont⟩
 simp only at k3 h3 hcur hcnt hown o3 F3 hcont ⊢
 repeat refine nx rfl ?_
 refine AA (AQ rfl (AU rfl ?_))
 refine AS (B9 E w3 cur sep h3.st) rfl ?_
 rintro _ w4 ⟨k4, b, c1, rfl, r4, q4⟩
 have h4 := h3.next k4 q4
 have hsg : ∀ g, v.ownBlock = some g → w1.heap.size ≤ g ∧ g < w3.heap.size := fun g hg => BM o3 hg
 have o4 := Ax o3 k4 (fun g hg => by have := hsg g hg; simp; omega)
 have F4 := F3.keep k4 (fun b hb => by have := hb.1; simp [fresh] at this ⊢; omega)
 have k34 := k3.trans k4 (by simp)
 rcases accepts_inv r4 with ⟨rfl, hlen4, _, _⟩ | ⟨rfl, rfl, _⟩
 ·refine AJ ?_
  repeat refine nx rfl ?_
  refine AA (Az (Ct rfl ?_))
  refine CQ (v1 := [pt E.s]) (v2 := []) (vs := []) rfl (hI w4 c1 h4 (by omega)) rfl ?_ ?_
  rotate_left
  ·rintro ch w5 ⟨k5, l, r5, rfl⟩
   repeat refine nx rfl ?_
   exact AY ⟨k34.trans k5 (by simp), l, r1.bind (Run.bindE (hcont _ (hC.err1 r4 r5))), rfl⟩
  rintro u w5 ⟨k5, a, c2, r5, q5, f5⟩
  have h5 := h4.next k5 q5
  have hc2 : c2.length ≤ c1.length := (show c2 <:+ c1 from r5.suffix).length_le
  have o5 := Ax o4 k5 (fun g hg => by have := hsg g hg; simp; omega)
  have F5 := F4.keep k5 (fun b hb => by have := hb.1; simp [fresh] at this ⊢; omega)
  have k35 := k34.trans k5 (by simp)
  have f5' := f5.lt
  have z34 := k4.size
  have z5 := k5.size
  have z3 := k3.size
  obtain ⟨av5, rfl, L5, S5, _⟩ := f5.form
  obtain ⟨sa5, sc5, rfl, _⟩ := id S5
  have hw13 : w1.heap.size ≤ w3.heap.size := by
   obtain ⟨g, hg⟩ := Option.ne_none_iff_exists'.1 hown
   have := hsg g hg; omega
  refine AV (out := [.int .i64 a.op, AL a.name, .int .i64 a.val, .int .i64 a.bound, .slice sa5 a.args.length sc5]) rfl (by omega) (by rw [made5]; rfl) (fun w6 n6 => ?_)
  have z6 := n6.size
  have o6 := n6.own (n := 1) (size := 5) rfl (by unfold maxLen; omega) (Nat.le_refl _)
  have hts2 := h.st.cnt
  have hll : (a0 :: l').length = l'.length + 1 := rfl
  refine Bl (ok := A0) (v := v) (sv := .slice (some ⟨w5.heap.size, 0, none⟩) 1 1) rfl rfl (BX o5 n6.keep) (A3 o6 fun _ _ => trivial) (by omega) rfl rfl (by intro y hy; simp at hy; rcases hy with rfl | rfl | rfl | rfl | rfl <;> rfl) (by omega) (by omega) (by omega) (fun v7 w7 a7 => ?_)
  refine AC (Az ?_)
  repeat refine nx rfl ?_
  have o7 := a7.own
  have e7 : Ext w5 w7 → True := fun _ => trivial
  have h7 := (h5.ext n6.keep).keep a7.keep (fun x hx => by have := hsg x (Option.mem_toList.1 hx); omega)
  have hv7 : ∀ b, v7.ownBlock = some b → v.ownBlock = some b ∨ b = w6.heap.size := fun b hb => by
   rcases a7.blk with e | e
   ·exact .inl (by rw [← e]; exact hb)
   ·rw [e] at hb; exact .inr (Option.some.inj hb).symm
  have F7 : FsAt (fun b => fresh w b ∧ v7.ownBlock ≠ some b) w7 L (a0 :: l') := by
   refine ((F5.lt.keep n6.keep fun _ _ => by simp).keep a7.keep ?_).mono ?_
   ·rintro b ⟨⟨_, hb⟩, _⟩ hx; exact hb (Option.mem_toList.1 hx)
   ·rintro b ⟨⟨h1, hb⟩, hlt⟩
    refine ⟨h1, fun e => ?_⟩
    rcases hv7 b e with e | e
    ·exact hb e
    ·omega
  have f7 : FAt (fun b => fresh w b ∧ v7.ownBlock ≠ some b) w7 (.agg [.int .i64 a.op, AL a.name, .int .i64 a.val, .int .i64 a.bound, .slice sa5 a.args.length sc5].toArray) a := by
   refine ((f5'.ext n6.keep).keep a7.keep ?_).mono ?_
   ·rintro b ⟨hb, hlt⟩ hx
    have := hsg b (Option.mem_toList.1 hx)
    simp [fresh] at hb; omega
   ·rintro b ⟨hb, hlt⟩
    simp only [fresh] at hb ⊢
    refine ⟨by omega, fun e => ?_⟩
    rcases hv7 b e with e | e
    ·have := hsg b e; omega
    ·omega
  refine ⟨(v7, L ++ [[.int .i64 a.op, AL a.name, .int .i64 a.val, .int .i64 a.bound, .slice sa5 a.args.length sc5]], (a0 :: l') ++ [a], c2), ⟨rfl, ⟨rfl, rfl, rfl, rfl, trivial⟩, ⟨?_, h7, by simp only; omega, by simp only [List.length_append, List.length_cons, List.length_nil] at hcnt ⊢; omega, a7.some (by simp), ?_, F7.snoc f7 rfl, l' ++ [a], by simp, fun r hr => ?_⟩⟩, by simp only; omega⟩
  ·exact (k35.ext n6.keep).trans a7.keep (fun x hx hlt => by have := hsg x (Option.mem_toList.1 hx); omega)
  ·have e1 : (L ++ [[Value.int .i64 a.op, AL a.name, .int .i64 a.val, .int .i64 a.bound, .slice sa5 a.args.length sc5]]).flatten = L.flatten ++ [.int .i64 a.op, AL a.name, .int .i64 a.val, .int .i64 a.bound, .slice sa5 a.args.length sc5] := by simp
   simp only
   rw [e1, List.length_append]
   exact o7
  ·rw [← prepA_app]
   exact hcont _ (hC.step r4 r5 hr)
 ·refine AJ ?_
  repeat first | refine nx rfl ?_ | refine nf rfl ?_
  refine AA (Az (AC (Az (AJ ?_))))
  have hS := A3 (ok := fresh w) o4 (fun g hg => by have := hsg g hg; simp only [fresh]; omega)
  obtain ⟨sa, sc, rfl, _⟩ := id hS
  repeat refine nx rfl ?_
  refine AO rfl ⟨k34, a0 :: l', _, r1.bind ((hcont _ (hC.done r4)).bind ?_), q4, _, _, L, rfl, by simp, hS, F4.mono fun b hb => hb.1⟩
  simp only [List.append_nil]
  exact Run.ret _ _
end Go.Proofs.YtfcgdbmoncnibaaGreatDoor
namespace Go.Proofs.YtfcgdbmoncnibaaGreatDoor
open Go.RowKit
set_option linter.unusedVariables false
variable {mk : Prop} [MK mk]
section
variable {P : Program} {all : Array Oper} {Z : Fr → DS → List PanicEntry → World → Prop} {K : Fr → DS → World → Prop} {rest : List Oper} {f : Fr} {ds : DS} {w : World}
 {d : Nat} {ty ty' : TypeId} {pos pos' : String} {af af' : Array Edge}
theorem B4 (L cs : List Value) (h : cs.length = L.length) : splice L 0 cs = cs := by
 simp [splice, h]
theorem BE {T n : Nat} {x : Operand} {cs z : List Value} [hZ : Co P T z] [hT : CR P T n] (hx : ev (upd f d (.pointer (some ⟨w.heap.size, 0, none⟩))) x = .agg cs.toArray) (hn : cs.length = n) (hz : z.length = n) (h1 : oneC cs)
  (h : ∀ w', New w w' T cs → AW P all Z K rest (upd f d (.pointer (some ⟨w.heap.size, 0, none⟩))) ds w') :
  AW P all Z K (⟨some d, .alloc T, ty, pos, af, none⟩ :: ⟨none, .store T (.tmp d) x, ty', pos', af', none⟩ :: rest) f ds w := by
 refine Ay (L := z) fun w1 n1 => ?_
 refine AZ (b := w.heap.size) (o := 0) (cs := cs) (by simp [ev, upd]) hx hn h1 n1.blk (by omega) fun w2 p2 => ?_
 have e := p2.blk
 rw [B4 z cs (by omega)] at e
 refine h w2 ⟨n1.keep.keep p2.keep (by simp), by rw [p2.size, n1.size], e⟩
theorem Bu {T bt b : Nat} {a x : Operand} {v : Value} {g : Fml} {ok : Nat → Prop} {L : List Value} [hT : CR P T 5] (ha : ev f a = .pointer (some ⟨b, 0, none⟩)) (hx : ev f x = v) (hf : FAt ok w v g) (hb : Blk w b bt L) (hL : L.length = 5)
  (h : ∀ w' cs, v = .agg cs.toArray → cs.length = 5 → Keep [b] w w' → w'.heap.size = w.heap.size → Blk w' b bt cs → AW P all Z K rest f ds w') :
  AW P all Z K (⟨none, .store T a x, ty, pos, af, none⟩ :: rest) f ds w := by
 obtain ⟨cs, rfl, hcs, hone⟩ := hf.cells
 refine AZ (cs := cs) ha hx hcs hone hb (by omega) fun w' p => ?_
 have e := p.blk
 rw [B4 L cs (by omega)] at e
 exact h w' cs rfl hcs p.keep p.size e
end
theorem FAt.new {ok : Nat → Prop} {w w' : World} {v : Value} {f : Fml} (h : FAt ok w v f) {T : TypeId} {cs : List Value} (n : New w w' T cs) : FAt ok w' v f := h.ext n.keep
theorem oneC_fml (a b c d : Value) (e : Option Addr) (n m : Nat) (ha : a.oneCell' = true) (hb : b.oneCell' = true) (hc : c.oneCell' = true) (hd : d.oneCell' = true) : oneC [a, b, c, d, .slice e n m] := by
 intro u hu
 simp at hu
 rcases hu with rfl | rfl | rfl | rfl | rfl <;> first | assumption | rfl
theorem primary_ok (E : Env) (N : Nat) (hF : ∀ M, M < N → CW E M 65 (body .formula)) : CW E N 173 (body .primary) := by
 intro w ts h hN
 have hsl := h.st.slt
 unfold PDo
 refine Ar Tryz.func173 rfl Tryz.ntmps173 (Nat.le_of_ble_eq_true rfl) (by kernel_rfl) ?_
 repeat refine nx rfl ?_
 refine AA ?_
 refine Ay (fun w1 n1 => ?_)
 have b1 : Blk w1 w.heap.size 24 Cn := n1.blk
 have z1 := n1.size
 have h1 := h.ext n1.keep
 have k1 : Keep [E.s] w w1 := n1.keep.any
 repeat refine nx rfl ?_
 refine AA (AQ rfl ?_)
 refine AS (B9 E w1 ts [116, 114, 117, 101] h1.st) rfl ?_
 rintro _ w2 ⟨k2, b, t2, rfl, r2, q2⟩
 have h2 := h1.next k2 q2
 have b2 := b1.keep k2 (by simp <;> omega)
 have k12 := k1.trans k2 (by simp)
 have z2 := k2.size
 have l2 : t2.length ≤ ts.length := (show t2 <:+ ts from r2.suffix).length_le
 refine AC (AB rfl (AJ ?_))
 cases b with
 | true =>
  repeat refine nx rfl ?_
  refine AA (Ad (by rfl) (by rfl) ?_)
  refine Bu rfl rfl (FAt.leaf (fresh w) w2 1 [] 0 0) b2 rfl (fun w3 cs e hcs k3 z3 b3 => ?_)
  repeat refine nx rfl ?_
  refine A6 rfl rfl hcs b3.cells ⟨k12.trans k3 (by simp <;> omega), _, t2, r2.bind (Run.ret _ _), q2.keep k3 (by simp <;> omega), ?_⟩
  rw [← e]
  exact FAt.leaf _ _ _ _ _ _
 | false =>
 repeat first | refine nx rfl ?_ | refine nf rfl ?_
 refine AA (AQ rfl ?_)
 refine AS (B9 E w2 t2 [102, 97, 108, 115, 101] h2.st) rfl ?_
 rintro _ w3 ⟨k3, b, t3, rfl, r3, q3⟩
 have h3 := h2.next k3 q3
 have b3 := b2.keep k3 (by simp <;> omega)
 have k13 := k12.trans k3 (by simp)
 have z3 := k3.size
 have l3 : t3.length ≤ t2.length := (show t3 <:+ t2 from r3.suffix).length_le
 refine AC (AB rfl (AJ ?_))
 cases b with
 | true =>
  repeat refine nx rfl ?_
  refine AA (Ad (by rfl) (by rfl) ?_)
  refine Bu rfl rfl (FAt.leaf (fresh w) w3 2 [] 0 0) b3 rfl (fun w4 cs e hcs k4 z4 b4 => ?_)
  repeat refine nx rfl ?_
  refine A6 rfl rfl hcs b4.cells ⟨k13.trans k4 (by simp <;> omega), _, t3, r2.bind (r3.bind (Run.ret _ _)), q3.keep k4 (by simp <;> omega), ?_⟩
  rw [← e]
  exact FAt.leaf _ _ _ _ _ _
 | false =>
 repeat first | refine nx rfl ?_ | refine nf rfl ?_
 refine AA (AQ rfl ?_)
 refine AS (B9 E w3 t3 [40] h3.st) rfl ?_
 rintro _ w4 ⟨k4, b, t4, rfl, r4, q4⟩
 have h4 := h3.next k4 q4
 have b4 := b3.keep k4 (by simp <;> omega)
 have k14 := k13.trans k4 (by simp)
 have z4 := k4.size
 have l4 : t4.length ≤ t3.length := (show t4 <:+ t3 from r4.suffix).length_le
 refine AC (AB rfl (AJ ?_))
 cases b with
 | true =>
  have l4' : t4.length + 1 = t3.length := by
   rcases accepts_inv r4 with ⟨_, e, _⟩ | ⟨e, _⟩
   ·exact e
   ·cases e
  repeat refine nx rfl ?_
  refine AA (AQ rfl ?_)
  refine Aa (hF t4.length (by omega) w4 t4 h4 (Nat.le_refl _)) rfl ?_ ?_
  rotate_left
  ·
   rintro ch wq ⟨kq, lq, rq, rfl⟩
   repeat refine nx rfl ?_
   exact AY ⟨k14.trans kq (by simp), lq, r2.bind (r3.bind (r4.bind (Run.callE rq))), rfl⟩
  rintro v w5 ⟨k5, f, t5, r5, q5, f5⟩
  have h5 := h4.next k5 q5
  have b5 := b4.keep k5 (by simp <;> omega)
  have k15 := k14.trans k5 (by simp)
  have z5 := k5.size
  obtain ⟨cs, rfl, hcs, hone⟩ := f5.cells
  refine BE (cs := cs) rfl hcs (by rfl) hone (fun w6 n6 => ?_)
  have f6 := f5.new n6
  have h6 := h5.ext n6.keep
  have b6 := b5.keep n6.keep (by simp)
  have z6 := n6.size
  have e6 := n6.blk
  repeat refine nx rfl ?_
  refine AA (AQ rfl ?_)
  refine Aa (Cr E w6 t5 [41] h6.st) rfl ?_ ?_
  rotate_left
  ·
   rintro ch wq ⟨kq, lq, rq, rfl⟩
   repeat refine nx rfl ?_
   exact AY ⟨(k15.ext n6.keep).trans kq (by simp), lq, r2.bind (r3.bind (r4.bind (Run.call r5 (Run.bindE rq)))), rfl⟩
  rintro v w7 ⟨k7, _, t7, r7, q7, rfl⟩
  have e7 := e6.keep k7 (by simp <;> omega)
  have b7 := b6.keep k7 (by simp <;> omega)
  have f7 := f6.keep k7 (by intro b hb; simp [fresh] at hb ⊢; omega)
  repeat refine nx rfl ?_
  refine AA (AX rfl e7 hcs ?_)
  refine Bu rfl rfl f7 b7 rfl (fun w8 cs' e hcs' k8 z8 b8 => ?_)
  repeat refine nx rfl ?_
  refine A6 rfl rfl hcs' b8.cells ⟨((k15.ext n6.keep).trans k7 (by simp)).trans k8 (by simp <;> omega), f, t7, r2.bind (r3.bind (r4.bind (Run.call r5 (r7.bind (Run.ret _ _))))), q7.keep k8 (by simp <;> omega), ?_⟩
  rw [← e]
  exact (f7.keep k8 (by intro b hb; simp [fresh] at hb ⊢; omega)).mono (fun b hb => by simp only [fresh] at hb ⊢; omega)
 | false =>
 repeat first | refine nx rfl ?_ | refine nf rfl ?_
 refine AA (AQ rfl ?_)
 refine Aa (pname_ok E w4 t4 h4.st h4.gk) rfl ?_ ?_
 rotate_left
 ·
  rintro ch wq ⟨kq, lq, rq, rfl⟩
  repeat refine nx rfl ?_
  exact AY ⟨k14.trans kq (by simp), lq, r2.bind (r3.bind (r4.bind (Run.bindE rq))), rfl⟩
 rintro v w5 ⟨k5, s, t5, r5, q5, rfl, hs⟩
 have h5 := h4.next k5 q5
 have b5 := b4.keep k5 (by simp <;> omega)
 have k15 := k14.trans k5 (by simp)
 have z5 := k5.size
 refine Ad (by rfl) (by rfl) ?_
 refine BE (cs := [.int .i64 3, AL s, .int .i64 1, .int .i64 0, .slice none 0 0]) rfl rfl (by rfl) (oneC_fml _ _ _ _ _ _ _ rfl rfl rfl rfl) (fun w6 n6 => ?_)
 have h6 := h5.ext n6.keep
 have b6 := b5.keep n6.keep (by simp)
 have z6 := n6.size
 have e6 := n6.blk
 have k16 := k15.ext n6.keep
 repeat refine nx rfl ?_
 refine AA (AQ rfl ?_)
 refine AS (B9 E w6 t5 [61] h6.st) rfl ?_
 rintro _ w7 ⟨k7, b, t7, rfl, r7, q7⟩
 have h7 := h6.next k7 q7
 have b7 := b6.keep k7 (by simp <;> omega)
 have e7 := e6.keep k7 (by simp <;> omega)
 have k17 := k16.trans k7 (by simp)
 have z7 := k7.size
 refine AC (AB rfl (AJ ?_))
 cases b with
 | true =>
  repeat refine nx rfl ?_
  refine AA (AQ rfl ?_)
  refine Aa (number_ok E w7 t7 h7.st) rfl ?_ ?_
  rotate_left
  ·
   rintro ch wq ⟨kq, lq, rq, rfl⟩
   repeat refine nx rfl ?_
   exact AY ⟨k17.trans kq (by simp), lq, r2.bind (r3.bind (r4.bind (r5.bind (r7.bind (Run.bindE rq))))), rfl⟩
  rintro v w8 ⟨k8, n, t8, r8, q8, rfl, hn0, hn1⟩
  have b8 := b7.keep k8 (by simp <;> omega)
  have e8 := e7.keep k8 (by simp <;> omega)
  have z8 := k8.size
  refine AD rfl ?_
  refine Ao rfl rfl rfl e8 (by simp) (fun w9 p9 => ?_)
  have b9 := b8.keep p9.keep (by simp <;> omega)
  have e9 : Blk w9 w5.heap.size 24 [.int .i64 3, AL s, .int .i64 n, .int .i64 0, .slice none 0 0] := p9.blk
  have z9 := p9.size
  repeat refine nx rfl ?_
  refine AA (AX rfl (by assumption) (by rfl) ?_)
  refine Bu rfl rfl (FAt.leaf (fresh w) w9 3 s n 0) b9 rfl (fun w10 cs e hcs k10 z10 b10 => ?_)
  repeat refine nx rfl ?_
  refine A6 rfl rfl hcs b10.cells ⟨((k17.trans k8 (by simp)).trans p9.keep (by simp <;> omega)).trans k10 (by simp <;> omega), _, t8, r2.bind (r3.bind (r4.bind (r5.bind (r7.bind (r8.bind (Run.ret _ _)))))), (q8.keep p9.keep (by simp <;> omega)).keep k10 (by simp <;> omega), ?_⟩
  rw [← e]
  exact FAt.leaf _ _ _ _ _ _
 | false =>
 repeat first | refine nx rfl ?_ | refine nf rfl ?_
 refine AA (AQ rfl ?_)
 refine AS (B9 E w7 t7 [33, 61] h7.st) rfl ?_
 rintro _ w8 ⟨k8, b, t8, rfl, r8, q8⟩
 have h8 := h7.next k8 q8
 have b8 := b7.keep k8 (by simp <;> omega)
 have e8 := e7.keep k8 (by simp <;> omega)
 have k18 := k17.trans k8 (by simp)
 have z8 := k8.size
 refine AC (AB rfl (AJ ?_))
 cases b with
 | true =>
  repeat refine nx rfl ?_
  refine AA (AQ rfl ?_)
  refine Aa (number_ok E w8 t8 h8.st) rfl ?_ ?_
  rotate_left
  ·
   rintro ch wq ⟨kq, lq, rq, rfl⟩
   repeat refine nx rfl ?_
   exact AY ⟨k18.trans kq (by simp), lq, r2.bind (r3.bind (r4.bind (r5.bind (r7.bind (r8.bind (Run.bindE rq)))))), rfl⟩
  rintro v w9 ⟨k9, n, t9, r9, q9, rfl, hn0, hn1⟩
  have b9 := b8.keep k9 (by simp <;> omega)
  have e9 := e8.keep k9 (by simp <;> omega)
  have z9 := k9.size
  refine AD rfl ?_
  refine Ao rfl rfl rfl e9 (by simp) (fun w10 p10 => ?_)
  have b10 := b9.keep p10.keep (by simp <;> omega)
  have e10 : Blk w10 w5.heap.size 24 [.int .i64 3, AL s, .int .i64 n, .int .i64 0, .slice none 0 0] := p10.blk
  have z10 := p10.size
  repeat refine nx rfl ?_
  refine AA (AX rfl e10 rfl ?_)
  refine AV (out := [.int .i64 3, AL s, .int .i64 n, .int .i64 0, .slice none 0 0]) rfl (by omega) (by rw [made5]; rfl) (fun w11 n11 => ?_)
  have z11 := n11.size
  have b11 := b10.keep n11.keep (by simp)
  obtain ⟨S11, F11⟩ := FsAt.fresh (ok := fresh w) (L := [[.int .i64 3, AL s, .int .i64 n, .int .i64 0, .slice none 0 0]]) n11 (FsAt.one (FAt.leaf (fresh w) w10 3 s n 0) rfl) (by simp only [fresh]; omega) (by simp)
  refine Ad (by rfl) (by rfl) ?_
  refine Bu rfl rfl (FAt.node 4 [] 0 0 S11 F11) b11 rfl (fun w12 cs e hcs k12' z12 b12 => ?_)
  repeat refine nx rfl ?_
  refine A6 rfl rfl hcs b12.cells ⟨(((k18.trans k9 (by simp)).trans p10.keep (by simp <;> omega)).ext n11.keep).trans k12' (by simp <;> omega), _, t9, r2.bind (r3.bind (r4.bind (r5.bind (r7.bind (r8.bind (r9.bind (Run.ret _ _))))))), (((q9.keep p10.keep (by simp <;> omega)).ext n11.keep)).keep k12' (by simp <;> omega), ?_⟩
  rw [← e]
  obtain ⟨S12, F12⟩ := FsAt.fresh (ok := fun b => fresh w b ∧ b ≠ w.heap.size) (L := [[.int .i64 3, AL s, .int .i64 n, .int .i64 0, .slice none 0 0]]) n11 (FsAt.one (FAt.leaf _ w10 3 s n 0) rfl) (by simp only [fresh]; omega) (by simp)
  exact ((FAt.node 4 [] 0 0 S12 F12).keep k12' (by rintro b ⟨_, hb⟩; simpa using hb)).mono fun b hb => hb.1
 | false =>
  repeat first | refine nx rfl ?_ | refine nf rfl ?_
  refine AA (AX rfl (by assumption) (by rfl) ?_)
  refine Bu rfl rfl (FAt.leaf (fresh w) w8 3 s 1 0) b8 rfl (fun w9 cs e hcs k9 z9 b9 => ?_)
  repeat refine nx rfl ?_
  refine A6 rfl rfl hcs b9.cells ⟨k18.trans k9 (by simp <;> omega), _, t8, r2.bind (r3.bind (r4.bind (r5.bind (r7.bind (r8.bind (Run.ret _ _)))))), q8.keep k9 (by simp <;> omega), ?_⟩
  rw [← e]
  exact FAt.leaf _ _ _ _ _ _
end Go.Proofs.YtfcgdbmoncnibaaGreatDoor
namespace Go.Proofs.YtfcgdbmoncnibaaGreatDoor
open Go.RowKit
set_option linter.unusedVariables false
variable {mk : Prop} [MK mk]
theorem take_inv {tab : List (List UInt8 × Opr)} {ts ts' : List Tok} {o : Option Opr} (h : Run (takeG tab) ts (.ok (o, ts'))) : (∃ p, o = some p ∧ ts'.length + 1 = ts.length) ∨ (o = none ∧ ts' = ts) := by
 cases ts with
 | nil =>
  have e := h.det (Run.look (Run.ret _ _))
  cases e; exact .inr ⟨rfl, rfl⟩
 | cons x l =>
  have hr : Run (takeG tab) (x :: l) (match tab.lookup x.text with | some p => .ok (some p, l) | none => .ok (none, x :: l)) := by
   refine Run.look ?_
   show Run (match tab.lookup x.text with | some p => .next (.ret (some p)) | none => .ret none) _ _
   cases tab.lookup x.text with
   | none => exact Run.ret _ _
   | some p => exact Run.next (Run.ret _ _)
  have e := h.det hr
  cases hl : tab.lookup x.text with
  | none => rw [hl] at e; cases e; exact .inr ⟨rfl, rfl⟩
  | some p => rw [hl] at e; cases e; exact .inl ⟨p, rfl, rfl⟩
theorem unary_ok (E : Env) (N : Nat) (hP : CW E N 173 (body .primary)) (hU : ∀ M, M < N → CW E M 164 (body .unary)) : CW E N 164 (body .unary) := by
 intro w ts h hN
 have hsl := h.st.slt
 unfold PDo
 refine Ar Tryz.func164 rfl Tryz.ntmps164 (Nat.le_of_ble_eq_true rfl) (by kernel_rfl) ?_
 repeat refine nx rfl ?_
 refine AA ?_
 refine Ay (fun w1 n1 => ?_)
 have b1 : Blk w1 w.heap.size 24 Cn := n1.blk
 have z1 := n1.size
 have h1 := h.ext n1.keep
 have k1 : Keep [E.s] w w1 := n1.keep.any
 obtain ⟨ta, tc, hb1, _⟩ := h1.st.blk
 have hlt := h1.st.lt
 repeat refine nx rfl ?_
 refine AA (AQ rfl (AQ rfl (AH rfl (AD rfl (AG rfl (Blk.cell (by assumption) (by rfl)) ?_)))))
 refine AS (take_ok E w1 ts E.mp prefixT h1.st h1.st.pre (by omega)) rfl ?_
 rintro v w2 ⟨k2, o, t2, rfl, r2, q2⟩
 have h2 := h1.next k2 q2
 have b2 := b1.keep k2 (by simp <;> omega)
 have k12 := k1.trans k2 (by simp)
 have z2 := k2.size
 refine Bp rfl (Ag rfl rfl (Ag rfl rfl ?_))
 refine BE (cs := takeV o) rfl rfl (by rfl) (oneC_opr _) (fun w3 n3 => ?_)
 have h3 := h2.ext n3.keep
 have b3 := b2.keep n3.keep (by simp)
 have z3 := n3.size
 have e3 := n3.blk
 have k13 := k12.ext n3.keep
 refine AC (AB rfl ?_)
 repeat refine nx rfl ?_
 rcases take_inv r2 with ⟨q, rfl, hl2⟩ | ⟨rfl, rfl⟩
 ·replace e3 : Blk w3 w2.heap.size 191 [.int .i64 q.op, .int .i64 q.indexed, .int .i64 q.val] := e3
  refine AA (AB rfl (A9 rfl ?_))
  repeat first | refine nx rfl ?_ | refine nf rfl ?_
  (refine AA (AD rfl (AG rfl (Blk.cell (by assumption) (by rfl)) ?_)) <;> refine AD rfl (AG rfl (Blk.cell (by assumption) (by rfl)) ?_) <;> refine Ad (by rfl) (by rfl) ?_)
  refine BE (cs := [.int .i64 q.op, AL [], .int .i64 q.val, .int .i64 0, .slice none 0 0]) rfl rfl (by rfl) (oneC_fml _ _ _ _ _ _ _ rfl rfl rfl rfl) (fun w4 n4 => ?_)
  have h4 := h3.ext n4.keep
  have b4 := b3.keep n4.keep (by simp)
  have e4 := e3.keep n4.keep (by simp)
  have z4 := n4.size
  have g4 := n4.blk
  have k14 := k13.ext n4.keep
  repeat refine nx rfl ?_
  refine AA (AQ rfl (AX rfl (by assumption) (by rfl) ?_))
  refine Aa (index_ok E w4 t2 q h4.st) rfl ?_ ?_
  rotate_left
  ·rintro ch wq ⟨kq, lq, rq, rfl⟩
   repeat refine nx rfl ?_
   exact AY ⟨k14.trans kq (by simp), lq, r2.bind (Run.bindE rq), rfl⟩
  rintro v w5 ⟨k5, n, t5, r5, q5, rfl, hn0, hn1⟩
  have h5 := h4.next k5 q5
  have b5 := b4.keep k5 (by simp <;> omega)
  have e5 := e4.keep k5 (by simp <;> omega)
  have g5 := g4.keep k5 (by simp <;> omega)
  have k15 := k14.trans k5 (by simp)
  have z5 := k5.size
  have l5 : t5.length ≤ t2.length := (show t5 <:+ t2 from r5.suffix).length_le
  refine Bp rfl (Ag rfl rfl (Ag rfl rfl (AC (AF rfl (AC (AB rfl ?_))))))
  repeat refine nx rfl ?_
  refine AA (AB rfl (AJ ?_))
  cases n with
  | none =>
   repeat first | refine nx rfl ?_ | refine nf rfl ?_
   refine AA (AQ rfl ?_)
   refine Aa (hU t5.length (by omega) w5 t5 h5 (Nat.le_refl _)) rfl ?_ ?_
   rotate_left
   ·rintro ch wq ⟨kq, lq, rq, rfl⟩
    repeat refine nx rfl ?_
    exact AY ⟨k15.trans kq (by simp), lq, r2.bind (r5.bind (Run.callE rq)), rfl⟩
   rintro v w7 ⟨k7, a, t7, r7, q7, f7⟩
   have h7 := (h5).next k7 q7
   have b7 := (b5).keep k7 (by simp <;> omega)
   have g7 := (g5).keep k7 (by simp <;> omega)
   have k17 := (k15).trans k7 (by simp)
   have z7 := k7.size
   obtain ⟨cs, rfl, hcs, hone⟩ := f7.cells
   obtain ⟨c0, c1, c2, c3, c4, rfl⟩ : ∃ c0 c1 c2 c3 c4, cs = [c0, c1, c2, c3, c4] := by
    match cs, hcs with
    | [c0, c1, c2, c3, c4], _ => exact ⟨_, _, _, _, _, rfl⟩
   refine AV (out := [c0, c1, c2, c3, c4]) rfl (by omega) (by rw [made5]; rfl) (fun w8 n8 => ?_)
   have z8 := n8.size
   have b8 := b7.keep n8.keep (by simp)
   have g8 := g7.keep n8.keep (by simp)
   obtain ⟨S8, F8⟩ := FsAt.fresh (ok := fun b => w5.heap.size ≤ b) (L := [[c0, c1, c2, c3, c4]]) n8 (FsAt.one (f7.mono fun b hb => by simp only [fresh] at hb ⊢; omega) rfl) (by omega) (by simp)
   refine AD rfl ?_
   refine Ao rfl rfl rfl g8 (by simp) (fun w9 p9 => ?_)
   have b9 := b8.keep p9.keep (by simp <;> omega)
   have g9 := p9.blk
   have z9 := p9.size
   have f9 := (FAt.node (q.op) [] q.val (0) S8 F8).keep p9.keep (by intro b hb; simp at hb ⊢; omega)
   repeat refine nx rfl ?_
   refine AA (AX rfl g9 rfl ?_)
   refine Bu rfl rfl f9 b9 rfl (fun w10 cs' e hcs' k10 z10 b10 => ?_)
   repeat refine nx rfl ?_
   refine A6 rfl rfl hcs' b10.cells ⟨((k17.ext n8.keep).trans p9.keep (by simp <;> omega)).trans k10 (by simp <;> omega), _, t7, r2.bind (r5.bind (Run.call r7 (Run.ret _ _))), ((q7.ext n8.keep).keep p9.keep (by simp <;> omega)).keep k10 (by simp <;> omega), ?_⟩
   rw [← e]
   show FAt _ _ _ (⟨q.op, [], q.val, 0, [a]⟩ : Fml)
   exact (f9.keep k10 (by intro b hb; simp at hb ⊢; omega)).mono (fun b hb => by simp only [fresh] at hb ⊢; omega)
  | some n =>
   repeat refine nx rfl ?_
   (refine AA (AD rfl (AG rfl (Blk.cell (by assumption) (by rfl)) ?_)) <;> refine AF rfl (AD rfl ?_))
   refine Ao rfl rfl rfl g5 (by simp) (fun w6 p6 => ?_)
   refine AD rfl ?_
   refine Ao rfl rfl rfl p6.blk (by simp) (fun w6' p6' => ?_)
   have g6 : Blk w6' w3.heap.size 24 [.int .i64 q.indexed, AL [], .int .i64 q.val, .int .i64 n, .slice none 0 0] := p6'.blk
   have h6 := (h5.keep p6.keep (by simp <;> omega)).keep p6'.keep (by simp <;> omega)
   have b6 := (b5.keep p6.keep (by simp <;> omega)).keep p6'.keep (by simp <;> omega)
   have k16 := (k15.trans p6.keep (by simp <;> omega)).trans p6'.keep (by simp <;> omega)
   have z6 : w6'.heap.size = w5.heap.size := by rw [p6'.size, p6.size]
   repeat refine nx rfl ?_
   refine AA (AQ rfl ?_)
   refine Aa (hU t5.length (by omega) w6' t5 h6 (Nat.le_refl _)) rfl ?_ ?_
   rotate_left
   ·rintro ch wq ⟨kq, lq, rq, rfl⟩
    repeat refine nx rfl ?_
    exact AY ⟨k16.trans kq (by simp), lq, r2.bind (r5.bind (Run.callE rq)), rfl⟩
   rintro v w7 ⟨k7, a, t7, r7, q7, f7⟩
   have h7 := (h6).next k7 q7
   have b7 := (b6).keep k7 (by simp <;> omega)
   have g7 := (g6).keep k7 (by simp <;> omega)
   have k17 := (k16).trans k7 (by simp)
   have z7 := k7.size
   obtain ⟨cs, rfl, hcs, hone⟩ := f7.cells
   obtain ⟨c0, c1, c2, c3, c4, rfl⟩ : ∃ c0 c1 c2 c3 c4, cs = [c0, c1, c2, c3, c4] := by
    match cs, hcs with
    | [c0, c1, c2, c3, c4], _ => exact ⟨_, _, _, _, _, rfl⟩
   refine AV (out := [c0, c1, c2, c3, c4]) rfl (by omega) (by rw [made5]; rfl) (fun w8 n8 => ?_)
   have z8 := n8.size
   have b8 := b7.keep n8.keep (by simp)
   have g8 := g7.keep n8.keep (by simp)
   obtain ⟨S8, F8⟩ := FsAt.fresh (ok := fun b => w5.heap.size ≤ b) (L := [[c0, c1, c2, c3, c4]]) n8 (FsAt.one (f7.mono fun b hb => by simp only [fresh] at hb ⊢; omega) rfl) (by omega) (by simp)
   refine AD rfl ?_
   refine Ao rfl rfl rfl g8 (by simp) (fun w9 p9 => ?_)
   have b9 := b8.keep p9.keep (by simp <;> omega)
   have g9 := p9.blk
   have z9 := p9.size
   have f9 := (FAt.node (q.indexed) [] q.val (n) S8 F8).keep p9.keep (by intro b hb; simp at hb ⊢; omega)
   repeat refine nx rfl ?_
   refine AA (AX rfl g9 rfl ?_)
   refine Bu rfl rfl f9 b9 rfl (fun w10 cs' e hcs' k10 z10 b10 => ?_)
   repeat refine nx rfl ?_
   refine A6 rfl rfl hcs' b10.cells ⟨((k17.ext n8.keep).trans p9.keep (by simp <;> omega)).trans k10 (by simp <;> omega), _, t7, r2.bind (r5.bind (Run.call r7 (Run.ret _ _))), ((q7.ext n8.keep).keep p9.keep (by simp <;> omega)).keep k10 (by simp <;> omega), ?_⟩
   rw [← e]
   show FAt _ _ _ (⟨q.indexed, [], q.val, n, [a]⟩ : Fml)
   exact (f9.keep k10 (by intro b hb; simp at hb ⊢; omega)).mono (fun b hb => by simp only [fresh] at hb ⊢; omega)
 ·refine AA (AB rfl (A9 rfl ?_))
  repeat refine nx rfl ?_
  refine AA (AQ rfl ?_)
  refine Aa (hP w3 _ h3 hN) rfl ?_ ?_
  rotate_left
  ·rintro ch wq ⟨kq, lq, rq, rfl⟩
   repeat refine nx rfl ?_
   exact AY ⟨k13.trans kq (by simp), lq, r2.bind (Run.callE rq), rfl⟩
  rintro v w4 ⟨k4, f, t4, r4, q4, f4⟩
  have b4 := b3.keep k4 (by simp <;> omega)
  have z4 := k4.size
  refine Bu rfl rfl f4 b4 rfl (fun w5 cs e hcs k5 z5 b5 => ?_)
  repeat refine nx rfl ?_
  refine A6 rfl rfl hcs b5.cells ⟨(k13.trans k4 (by simp)).trans k5 (by simp <;> omega), f, t4, r2.bind (Run.call r4 (Run.ret _ _)), q4.keep k5 (by simp <;> omega), ?_⟩
  rw [← e]
  exact (f4.keep k5 (by intro b hb; simp [fresh] at hb ⊢; omega)).mono (fun b hb => by simp only [fresh] at hb ⊢; omega)
end Go.Proofs.YtfcgdbmoncnibaaGreatDoor
