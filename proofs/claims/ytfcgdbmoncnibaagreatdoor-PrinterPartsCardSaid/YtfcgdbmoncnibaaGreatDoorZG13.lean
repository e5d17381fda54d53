/- The reference: names. The reference printer: numbers, operators, signs. The reference printer: what can be printed. The reference printer: the text of a formula. The reference printer: requirements, edits. The reference printer: specifications and edits held printable. The reference printer: the text of a specification. The reference: sizes. The reference printer: edits. The printer's laws, plain: texts are parsed back; equal texts; what is parsed can be printed. Conditions: none. -/
import Derived.Test.YtfcgdbmoncnibaaGreatDoorZG12

namespace Go.Proofs.YtfcgdbmoncnibaaGreatDoor
open Go.RowKit
set_option linter.unusedVariables false
variable {mk : Prop} [MK mk]
theorem in_ok (w : World) (v : Value) (l : List (List UInt8)) (s : List UInt8) (hT : Sl A0 w v l.length (l.map AL)) : Fn Tryz.prog 86 [v, AL s] w fun v w' => v = .bool (decide (s ∈ l)) ∧ w' = w := by
 obtain ⟨a, c, rfl, hc1, hc2, _, hcc⟩ := hT
 refine Ab Tryz.func86 rfl Tryz.ntmps86 (Nat.le_of_ble_eq_true rfl) (by kernel_rfl) ?_
 repeat refine nx rfl ?_
 refine AA (AC (AB rfl ?_))
 repeat refine nx rfl ?_
 refine AA (AC (AF rfl ?_))
 repeat refine nx rfl ?_
 refine BJ (α := Nat) (fun k => [(0, .slice a l.length c), (1, AL s), (5, .int .i64 (k : Int))]) (fun k W => k ≤ l.length ∧ s ∉ l.take k ∧ W = w) (fun k => l.length - k) 0 ⟨rfl, rfl, rfl, trivial⟩ ⟨by omega, by simp, rfl⟩ ?_
 rintro k w2 f2 ⟨hk, hn, rfl⟩
 repeat refine nx rfl ?_
 by_cases hlt : k < l.length
 ·obtain ⟨b, o, rfl, _, hcell⟩ := hcc.resolve_left (by omega)
  obtain ⟨y, hy⟩ : ∃ y, l[k]? = some y := ⟨_, List.getElem?_eq_getElem hlt⟩
  have hyc : w2.cell? ⟨b, o + k, none⟩ = some (AL y) := hcell k _ (by simp [hy])
  have ht1 : l.take (k + 1) = l.take k ++ [y] := by rw [List.take_add_one, hy]; rfl
  refine AA (AF rfl (Ae rfl (As rfl (BC rfl rfl (by omega) ?_))))
  repeat refine nx rfl ?_
  by_cases hys : y = s
  ·(refine AA (Ae rfl (AF rfl (W_idx1 rfl rfl rfl (by omega) (AG rfl (by assumption) ?_)))) <;> refine AU rfl ?_ <;> refine CM rfl rfl (fun hc => ?_) (fun hc => ?_) <;> refine AJ ?_)
   case refine_2 => exact absurd hys (by assumption)
   repeat refine nx rfl ?_
   refine AA (AC (AB rfl ?_))
   repeat refine nx rfl ?_
   exact AO rfl ⟨by rw [decide_eq_true (List.mem_of_getElem? (hys ▸ hy) : s ∈ l)]; rfl, rfl⟩
  ·(refine AA (Ae rfl (AF rfl (W_idx1 rfl rfl rfl (by omega) (AG rfl (by assumption) ?_)))) <;> refine AU rfl ?_ <;> refine CM rfl rfl (fun hc => ?_) (fun hc => ?_) <;> refine AJ ?_)
   case refine_1 => exact absurd (by assumption) hys
   repeat first | refine nx rfl ?_ | refine nf rfl ?_
   (refine AA (AF rfl (BK rfl rfl (by first | exact Am (by omega) (by omega) | exact At (by omega) (by omega) | exact Al (by omega) (by omega)) ?_)) <;> refine AC (AF rfl ?_))
   repeat refine nx rfl ?_
   refine ⟨k + 1, ⟨rfl, ⟨rfl, rfl, ?_, trivial⟩, ⟨by omega, by rw [ht1]; simp [hn]; exact fun e => hys e.symm, rfl⟩⟩, by omega⟩
   show Value.int .i64 ((k : Int) + 1) = _
   rw [Int.natCast_add]; rfl
 ·obtain rfl : k = l.length := by omega
  refine AA (AF rfl (Ae rfl (As rfl (BA rfl rfl (by omega) ?_))))
  repeat first | refine nx rfl ?_ | refine nf rfl ?_
  refine AA (AC (AB rfl ?_))
  repeat refine nx rfl ?_
  rw [List.take_length] at hn
  exact AO rfl ⟨by rw [decide_eq_false hn]; rfl, rfl⟩
theorem keywords_ok (w : World) : Fn Tryz.prog 87 [] w fun v w' => Sl A0 w' v keysL.length (keysL.map AL) ∧ Ext w w' := by
 refine Ab Tryz.func87 rfl Tryz.ntmps87 (Nat.le_of_ble_eq_true rfl) (by kernel_rfl) ?_
 repeat refine nx rfl ?_
 refine AA (AC (Ae rfl ?_))
 repeat refine nx rfl ?_
 refine AA ?_
 refine W_buildSlice1 (out := keysL.map AL) rfl (by omega) rfl (by kernel_rfl) (fun w1 n1 => ?_)
 refine AC (Ae rfl ?_)
 repeat refine nx rfl ?_
 exact AO rfl ⟨⟨_, _, rfl, by decide, by decide, (fun h => by cases h), .inr ⟨_, _, rfl, trivial, n1.blk.cells⟩⟩, n1.keep⟩
theorem refName_ok (s : List UInt8) (w : World) : Fn Tryz.prog 53 [AL s] w fun v w' => v = .bool (BV s) ∧ Ext w w' := by
 refine Ab Tryz.func53 rfl Tryz.ntmps53 (Nat.le_of_ble_eq_true rfl) (by kernel_rfl) ?_
 repeat refine nx rfl ?_
 refine AA (AC (AB rfl ?_))
 repeat refine nx rfl ?_
 by_cases h1 : s.length < 1
 ·refine AA (AU rfl (Au rfl (BC rfl rfl (by omega) (AB rfl (AI rfl (AI rfl (AI rfl (AK rfl (AB rfl (AB rfl (AI rfl (AI rfl (AI rfl (AK rfl (AB rfl ?_)))))))))))))))
  repeat refine nx rfl ?_
  refine AA (AC (AB rfl ?_))
  repeat refine nx rfl ?_
  exact AO rfl ⟨by rw [C4, decide_eq_false (show ¬ 1 ≤ s.length by omega)]; rfl, Ext.refl _⟩
 by_cases h12 : 12 < s.length
 ·refine AA (AU rfl (Au rfl (BA rfl rfl (by omega) (AB rfl (AE rfl (AU rfl (AE rfl (Au rfl (AE rfl (DI rfl rfl (by omega) (AP rfl (AB rfl (AB rfl (AI rfl (AI rfl (AI rfl (AK rfl (AB rfl ?_))))))))))))))))))
  repeat refine nx rfl ?_
  refine AA (AC (AB rfl ?_))
  repeat refine nx rfl ?_
  exact AO rfl ⟨by rw [C4, decide_eq_false (show ¬ s.length ≤ 12 by omega)]; simp [upd, Nat.beq], Ext.refl _⟩
 refine AA (AU rfl (Au rfl (BA rfl rfl (by omega) (AB rfl (AE rfl (AU rfl (AE rfl (Au rfl (AE rfl (DF rfl rfl (by omega) (AP rfl (AB rfl (AB rfl ?_)))))))))))))
 refine AE rfl (AS (keywords_ok w) rfl ?_)
 rintro v w1 ⟨hS, k1⟩
 obtain ⟨va, vc, rfl, _⟩ := id hS
 refine AE rfl (AU rfl ?_)
 refine AE rfl (AS (in_ok w1 _ keysL s hS) rfl ?_)
 rintro _ wx ⟨rfl, hw⟩
 obtain rfl := hw.symm
 refine AP rfl (AB rfl (AJ ?_))
 by_cases hkey : s ∈ keysL
 ·rw [decide_eq_true hkey]
  repeat refine nx rfl ?_
  refine AA (AC (AB rfl ?_))
  repeat refine nx rfl ?_
  exact AO rfl ⟨by rw [C4, decide_eq_true hkey]; simp [upd, Nat.beq], k1⟩
 rw [decide_eq_false hkey]
 repeat first | refine nx rfl ?_ | refine nf rfl ?_
 refine AA (AC (AF rfl ?_))
 repeat refine nx rfl ?_
 refine BJ (α := Nat) (fun k => [(0, AL s), (3, .int .i64 (k : Int))]) (fun k W => k ≤ s.length ∧ (∀ (i : Nat) (c : UInt8), i < k → s[i]? = some c → okAt i c = true) ∧ W = w1) (fun k => s.length - k) 0 ⟨rfl, rfl, trivial⟩ ⟨by omega, fun i c hi => by omega, rfl⟩ ?_
 rintro k w2 f2 ⟨hk, hok, rfl⟩
 repeat refine nx rfl ?_
 by_cases hlt : k < s.length
 ·have hc0 : s[k]? = some s[k] := List.getElem?_eq_getElem hlt
  generalize s[k] = c at hc0
  have cb := c.toNat_lt
  have step : okAt k c = true → ∀ (i : Nat) (d : UInt8), i < k + 1 → s[i]? = some d → okAt i d = true := fun hkc i d hi hd => by
   by_cases hik : i = k
   ·subst hik; rw [hc0] at hd; cases hd; exact hkc
   ·exact hok i d (by omega) hd
  refine AA (AF rfl (AU rfl (Au rfl (BC rfl rfl (by omega) ?_))))
  repeat refine nx rfl ?_
  refine CE (α := Unit) (fun _ => [(0, AL s), (3, .int .i64 (k : Int)), (4, .bool (A4 c))]) (fun _ W => w2 = W) ?_ ?_
  ·by_cases ha : 97 ≤ c.toNat
   ·by_cases hb : c.toNat ≤ 122
    ·rw [show A4 c = true by simp [A4, ha, hb]]
     (refine AA (AU rfl (AF rfl (BB rfl rfl (by assumption) ?_))) <;> refine W_geqT rfl rfl (by omega) (AB rfl (AE rfl (AU rfl (AE rfl (AF rfl (AE rfl (BB rfl rfl (by assumption) ?_))))))) <;> refine AE rfl (C2 rfl rfl (by omega) (AK rfl (AB rfl (AC (AB rfl (AJ ?_)))))))
     exact An () ⟨rfl, rfl, rfl, trivial⟩ rfl
    ·rw [show A4 c = false by simp [A4, ha, hb]]
     (refine AA (AU rfl (AF rfl (BB rfl rfl (by assumption) ?_))) <;> refine W_geqT rfl rfl (by omega) (AB rfl (AE rfl (AU rfl (AE rfl (AF rfl (AE rfl (BB rfl rfl (by assumption) ?_))))))) <;> refine AE rfl (DM rfl rfl (by omega) (AK rfl (AB rfl (AC (AB rfl (AJ ?_)))))))
     exact An () ⟨rfl, rfl, rfl, trivial⟩ rfl
   ·rw [show A4 c = false by simp [A4, ha]]
    (refine AA (AU rfl (AF rfl (BB rfl rfl (by assumption) ?_))) <;> refine W_geqF rfl rfl (by omega) (AB rfl (AI rfl (AI rfl (AI rfl (AI rfl (AP rfl (AB rfl (AC (AB rfl (AJ ?_)))))))))))
    exact An () ⟨rfl, rfl, rfl, trivial⟩ rfl
  rintro _ _ f3 rfl
  repeat refine nx rfl ?_
  refine CE (α := Unit) (fun _ => [(0, AL s), (3, .int .i64 (k : Int)), (4, .bool (A4 c)), (5, .bool (Ap c || decide (c.toNat = 95)))]) (fun _ W => w2 = W) ?_ ?_
  ·by_cases ha : 48 ≤ c.toNat
   ·by_cases hb : c.toNat ≤ 57
    ·rw [show (Ap c || decide (c.toNat = 95)) = true by simp [Ap, ha, hb]]
     (refine AA (AU rfl (AF rfl (BB rfl rfl (by assumption) ?_))) <;> refine W_geqT rfl rfl (by omega) (AB rfl (AE rfl (AU rfl (AE rfl (AF rfl (AE rfl (BB rfl rfl (by assumption) ?_))))))) <;> refine AE rfl (C2 rfl rfl (by omega) (AK rfl (AB rfl (AB rfl (AI rfl (AI rfl (AI rfl (AI rfl (AK rfl (AB rfl (AC (AB rfl (AJ ?_))))))))))))))
     exact An () ⟨rfl, rfl, rfl, rfl, trivial⟩ rfl
    ·by_cases hu : c.toNat = 95
     ·rw [show (Ap c || decide (c.toNat = 95)) = true by simp [hu]]
      (refine AA (AU rfl (AF rfl (BB rfl rfl (by assumption) ?_))) <;> refine W_geqT rfl rfl (by omega) (AB rfl (AE rfl (AU rfl (AE rfl (AF rfl (AE rfl (BB rfl rfl (by assumption) ?_))))))) <;> refine AE rfl (DM rfl rfl (by omega) (AK rfl (AB rfl (AB rfl (AE rfl (AU rfl (AE rfl (AF rfl (AE rfl (BB rfl rfl (by assumption) ?_)))))))))) <;> refine AE rfl (Av rfl rfl (by omega) (AP rfl (AB rfl (AC (AB rfl (AJ ?_)))))))
      exact An () ⟨rfl, rfl, rfl, rfl, trivial⟩ rfl
     ·rw [show (Ap c || decide (c.toNat = 95)) = false by simp [Ap, hu, ha, hb]]
      (refine AA (AU rfl (AF rfl (BB rfl rfl (by assumption) ?_))) <;> refine W_geqT rfl rfl (by omega) (AB rfl (AE rfl (AU rfl (AE rfl (AF rfl (AE rfl (BB rfl rfl (by assumption) ?_))))))) <;> refine AE rfl (DM rfl rfl (by omega) (AK rfl (AB rfl (AB rfl (AE rfl (AU rfl (AE rfl (AF rfl (AE rfl (BB rfl rfl (by assumption) ?_)))))))))) <;> refine AE rfl (AN rfl rfl (by omega) (AP rfl (AB rfl (AC (AB rfl (AJ ?_)))))))
      exact An () ⟨rfl, rfl, rfl, rfl, trivial⟩ rfl
   ·rw [show (Ap c || decide (c.toNat = 95)) = false by simp [Ap, ha]; omega]
    (refine AA (AU rfl (AF rfl (BB rfl rfl (by assumption) ?_))) <;> refine W_geqF rfl rfl (by omega) (AB rfl (AI rfl (AI rfl (AI rfl (AI rfl (AP rfl (AB rfl (AB rfl (AE rfl (AU rfl (AE rfl (AF rfl (AE rfl (BB rfl rfl (by assumption) ?_)))))))))))))) <;> refine AE rfl (AN rfl rfl (by omega) (AP rfl (AB rfl (AC (AB rfl (AJ ?_)))))))
    exact An () ⟨rfl, rfl, rfl, rfl, trivial⟩ rfl
  rintro _ _ f4 rfl
  repeat refine nx rfl ?_
  have hbad : okAt k c = false → BV s = false := fun h => by
   have hsh : shapeB s = false := by
    cases hsb : shapeB s with
    | false => rfl
    | true => rw [(shapeB_iff s (by omega)).1 hsb k c hc0] at h; cases h
   rw [C4, hsh]; simp
  have hoke : okAt k c = (A4 c || (decide (0 < k) && (Ap c || decide (c.toNat = 95)))) := rfl
  cases hsm : A4 c with
  | true =>
   refine AA (AB rfl (A9 rfl (AB rfl (AI rfl (AI rfl (AI rfl (AI rfl (AI rfl (AI rfl (AP rfl (AB rfl ?_)))))))))))
   repeat first | refine nx rfl ?_ | refine nf rfl ?_
   (refine AA (AF rfl (BK rfl rfl (by first | exact Am (by omega) (by omega) | exact At (by omega) (by omega) | exact Al (by omega) (by omega)) ?_)) <;> refine AC (AF rfl ?_))
   repeat refine nx rfl ?_
   refine ⟨k + 1, ⟨rfl, ⟨rfl, ?_, trivial⟩, ⟨by omega, step (by rw [hoke, hsm]; rfl), rfl⟩⟩, by omega⟩
   show Value.int .i64 ((k : Int) + 1) = _
   rw [Int.natCast_add]; rfl
  | false =>
   by_cases hk0 : k = 0
   ·have hb := hbad (by rw [hoke, hsm, decide_eq_false (show ¬ 0 < k by omega)]; rfl)
    refine AA (AB rfl (A9 rfl (AB rfl (AE rfl (AF rfl (AE rfl (Av rfl rfl (by omega) (AE rfl (AB rfl (AI rfl (AI rfl (AE rfl (AK rfl (AB rfl (AK rfl (AB rfl ?_))))))))))))))))
    repeat refine nx rfl ?_
    refine AA (AC (AB rfl ?_))
    repeat refine nx rfl ?_
    exact AO rfl ⟨by rw [hb]; rfl, k1⟩
   ·cases hrs : (Ap c || decide (c.toNat = 95)) with
    | true =>
     refine AA (AB rfl (A9 rfl (AB rfl (AE rfl (AF rfl (AE rfl (AN rfl rfl (by omega) (AE rfl (AB rfl (AE rfl (AB rfl (AE rfl (A9 rfl (AE rfl (AP rfl (AB rfl (AK rfl (AB rfl ?_))))))))))))))))))
     repeat first | refine nx rfl ?_ | refine nf rfl ?_
     (refine AA (AF rfl (BK rfl rfl (by first | exact Am (by omega) (by omega) | exact At (by omega) (by omega) | exact Al (by omega) (by omega)) ?_)) <;> refine AC (AF rfl ?_))
     repeat refine nx rfl ?_
     refine ⟨k + 1, ⟨rfl, ⟨rfl, ?_, trivial⟩, ⟨by omega, step (by rw [hoke, hsm, hrs, decide_eq_true (show 0 < k by omega)]; rfl), rfl⟩⟩, by omega⟩
     show Value.int .i64 ((k : Int) + 1) = _
     rw [Int.natCast_add]; rfl
    | false =>
     have hb := hbad (by rw [hoke, hsm, hrs]; simp)
     refine AA (AB rfl (A9 rfl (AB rfl (AE rfl (AF rfl (AE rfl (AN rfl rfl (by omega) (AE rfl (AB rfl (AE rfl (AB rfl (AE rfl (A9 rfl (AE rfl (AP rfl (AB rfl (AK rfl (AB rfl ?_))))))))))))))))))
     repeat refine nx rfl ?_
     refine AA (AC (AB rfl ?_))
     repeat refine nx rfl ?_
     exact AO rfl ⟨by rw [hb]; rfl, k1⟩
 ·obtain rfl : k = s.length := by omega
  have hsh : shapeB s = true := (shapeB_iff s (by omega)).2 fun i c hc => hok i c (List.getElem?_eq_some_iff.1 hc).1 hc
  refine AA (AF rfl (AU rfl (Au rfl (BA rfl rfl (by omega) ?_))))
  repeat first | refine nx rfl ?_ | refine nf rfl ?_
  refine AA (AC (AB rfl ?_))
  repeat refine nx rfl ?_
  exact AO rfl ⟨by rw [C4, hsh, decide_eq_false hkey, decide_eq_true (show 1 ≤ s.length by omega), decide_eq_true (show s.length ≤ 12 by omega)]; rfl, k1⟩
end Go.Proofs.YtfcgdbmoncnibaaGreatDoor
namespace Go.Proofs.YtfcgdbmoncnibaaGreatDoor
open Go.RowKit
set_option linter.unusedVariables false
theorem rnumber_ok (w : World) (n : Int) : Fn Tryz.prog 54 [.int .i64 n] w fun v w' => v = .bool (numB n) ∧ w' = w := by
 refine Ab Tryz.func54 rfl Tryz.ntmps54 (Nat.le_of_ble_eq_true rfl) (by kernel_rfl) ?_
 repeat refine nx rfl ?_
 refine AA (AC (AB rfl ?_))
 repeat refine nx rfl ?_
 (refine AA (AF rfl ?_) <;> (refine W_geq rfl rfl (fun hc => ?_) (fun hc => ?_) <;> try omega) <;> refine AB rfl ?_ <;> (first | refine AI rfl ?_ | (refine AE rfl ?_; refine AF rfl ?_)) <;> (first | refine AI rfl ?_ | (refine AE rfl ?_; (refine W_leq rfl rfl (fun hc => ?_) (fun hc => ?_) <;> try omega))) <;> ((first | refine AK rfl ?_ | refine AP rfl ?_); refine AB rfl ?_) <;> refine AC (AB rfl (AJ ?_)))
 all_goals
  repeat refine nx rfl ?_
  exact AO rfl ⟨congrArg Value.bool (by simp [numB]; omega), rfl⟩
def Cm (op : Int) (n : Nat) : Bool := match Bc op with
 | none => false
 | some s => decide (s.least ≤ n) && decide (n ≤ s.most)
theorem args_else {op : Int} {n : Nat} (h : ∀ k : Int, 1 ≤ k → k ≤ 19 → op ≠ k) : Cm op n = false := by
 unfold Cm
 cases hs : Bc op with
 | none => rfl
 | some s => rcases op_cases hs with h' | h' | h' | h' | h' | h' | h' | h' | h' | h' | h' | h' | h' | h' | h' | h' | h' | h' | h' <;> exact absurd h' (h _ (by decide) (by decide))
theorem rargs_ok (w : World) (op : Int) (n : Nat) (hn : n ≤ 1000000) : Fn Tryz.prog 52 [.int .i64 op, .int .i64 (n : Int)] w fun v w1 => v = .bool (Cm op n) ∧ w1 = w := by
 refine Ab Tryz.func52 rfl Tryz.ntmps52 (Nat.le_of_ble_eq_true rfl) (by kernel_rfl) ?_
 repeat refine nx rfl ?_
 by_cases h1 : op = 1
 ·subst h1
  refine AA (AC (AB rfl ?_))
  repeat refine nx rfl ?_
  refine AA (AF rfl ?_)
  repeat refine nx rfl ?_
  refine AA (Av rfl rfl (by omega) (AC (AB rfl ?_)))
  repeat refine nx rfl ?_
  (refine AA (AF rfl ?_) <;> (refine B0 rfl rfl (fun hc => ?_) (fun hc => ?_) <;> try omega) <;> refine AC (AB rfl (AJ ?_)))
  all_goals
   repeat refine nx rfl ?_
   exact AO rfl ⟨congrArg Value.bool (by simp [Cm, Bc, styL, List.lookup, many]; try omega), rfl⟩
 by_cases h2 : op = 2
 ·subst h2
  refine AA (AC (AB rfl ?_))
  repeat refine nx rfl ?_
  refine AA (AF rfl ?_)
  repeat refine nx rfl ?_
  refine AA (AN rfl rfl (by omega) (AC (AB rfl ?_)))
  repeat first | refine nx rfl ?_ | refine nf rfl ?_
  refine AA (Av rfl rfl (by omega) (AC (AB rfl ?_)))
  repeat refine nx rfl ?_
  (refine AA (AF rfl ?_) <;> (refine B0 rfl rfl (fun hc => ?_) (fun hc => ?_) <;> try omega) <;> refine AC (AB rfl (AJ ?_)))
  all_goals
   repeat refine nx rfl ?_
   exact AO rfl ⟨congrArg Value.bool (by simp [Cm, Bc, styL, List.lookup, many]; try omega), rfl⟩
 by_cases h3 : op = 3
 ·subst h3
  refine AA (AC (AB rfl ?_))
  repeat refine nx rfl ?_
  refine AA (AF rfl ?_)
  repeat refine nx rfl ?_
  refine AA (AN rfl rfl (by omega) (AC (AB rfl ?_)))
  repeat first | refine nx rfl ?_ | refine nf rfl ?_
  refine AA (AN rfl rfl (by omega) (AC (AB rfl ?_)))
  repeat first | refine nx rfl ?_ | refine nf rfl ?_
  refine AA (Av rfl rfl (by omega) (AC (AB rfl ?_)))
  repeat refine nx rfl ?_
  (refine AA (AF rfl ?_) <;> (refine B0 rfl rfl (fun hc => ?_) (fun hc => ?_) <;> try omega) <;> refine AC (AB rfl (AJ ?_)))
  all_goals
   repeat refine nx rfl ?_
   exact AO rfl ⟨congrArg Value.bool (by simp [Cm, Bc, styL, List.lookup, many]; try omega), rfl⟩
 by_cases h4 : op = 4
 ·subst h4
  refine AA (AC (AB rfl ?_))
  repeat refine nx rfl ?_
  refine AA (AF rfl ?_)
  repeat refine nx rfl ?_
  refine AA (AN rfl rfl (by omega) (AC (AB rfl ?_)))
  repeat first | refine nx rfl ?_ | refine nf rfl ?_
  refine AA (AN rfl rfl (by omega) (AC (AB rfl ?_)))
  repeat first | refine nx rfl ?_ | refine nf rfl ?_
  refine AA (AN rfl rfl (by omega) (AC (AB rfl ?_)))
  repeat first | refine nx rfl ?_ | refine nf rfl ?_
  refine AA (Av rfl rfl (by omega) (AC (AB rfl ?_)))
  repeat refine nx rfl ?_
  (refine AA (AF rfl ?_) <;> (refine B0 rfl rfl (fun hc => ?_) (fun hc => ?_) <;> try omega) <;> refine AC (AB rfl (AJ ?_)))
  all_goals
   repeat refine nx rfl ?_
   exact AO rfl ⟨congrArg Value.bool (by simp [Cm, Bc, styL, List.lookup, many]; try omega), rfl⟩
 by_cases h8 : op = 8
 ·subst h8
  refine AA (AC (AB rfl ?_))
  repeat refine nx rfl ?_
  refine AA (AF rfl ?_)
  repeat refine nx rfl ?_
  refine AA (AN rfl rfl (by omega) (AC (AB rfl ?_)))
  repeat first | refine nx rfl ?_ | refine nf rfl ?_
  refine AA (AN rfl rfl (by omega) (AC (AB rfl ?_)))
  repeat first | refine nx rfl ?_ | refine nf rfl ?_
  refine AA (AN rfl rfl (by omega) (AC (AB rfl ?_)))
  repeat first | refine nx rfl ?_ | refine nf rfl ?_
  refine AA (AN rfl rfl (by omega) (AC (AB rfl ?_)))
  repeat first | refine nx rfl ?_ | refine nf rfl ?_
  refine AA (Av rfl rfl (by omega) (AC (AB rfl ?_)))
  repeat refine nx rfl ?_
  (refine AA (AF rfl ?_) <;> (refine B0 rfl rfl (fun hc => ?_) (fun hc => ?_) <;> try omega) <;> refine AC (AB rfl (AJ ?_)))
  all_goals
   repeat refine nx rfl ?_
   exact AO rfl ⟨congrArg Value.bool (by simp [Cm, Bc, styL, List.lookup, many]; try omega), rfl⟩
 by_cases h11 : op = 11
 ·subst h11
  refine AA (AC (AB rfl ?_))
  repeat refine nx rfl ?_
  refine AA (AF rfl ?_)
  repeat refine nx rfl ?_
  refine AA (AN rfl rfl (by omega) (AC (AB rfl ?_)))
  repeat first | refine nx rfl ?_ | refine nf rfl ?_
  refine AA (AN rfl rfl (by omega) (AC (AB rfl ?_)))
  repeat first | refine nx rfl ?_ | refine nf rfl ?_
  refine AA (AN rfl rfl (by omega) (AC (AB rfl ?_)))
  repeat first | refine nx rfl ?_ | refine nf rfl ?_
  refine AA (AN rfl rfl (by omega) (AC (AB rfl ?_)))
  repeat first | refine nx rfl ?_ | refine nf rfl ?_
  refine AA (AN rfl rfl (by omega) (AC (AB rfl ?_)))
  repeat first | refine nx rfl ?_ | refine nf rfl ?_
  refine AA (Av rfl rfl (by omega) (AC (AB rfl ?_)))
  repeat refine nx rfl ?_
  (refine AA (AF rfl ?_) <;> (refine B0 rfl rfl (fun hc => ?_) (fun hc => ?_) <;> try omega) <;> refine AC (AB rfl (AJ ?_)))
  all_goals
   repeat refine nx rfl ?_
   exact AO rfl ⟨congrArg Value.bool (by simp [Cm, Bc, styL, List.lookup, many]; try omega), rfl⟩
 by_cases h12 : op = 12
 ·subst h12
  refine AA (AC (AB rfl ?_))
  repeat refine nx rfl ?_
  refine AA (AF rfl ?_)
  repeat refine nx rfl ?_
  refine AA (AN rfl rfl (by omega) (AC (AB rfl ?_)))
  repeat first | refine nx rfl ?_ | refine nf rfl ?_
  refine AA (AN rfl rfl (by omega) (AC (AB rfl ?_)))
  repeat first | refine nx rfl ?_ | refine nf rfl ?_
  refine AA (AN rfl rfl (by omega) (AC (AB rfl ?_)))
  repeat first | refine nx rfl ?_ | refine nf rfl ?_
  refine AA (AN rfl rfl (by omega) (AC (AB rfl ?_)))
  repeat first | refine nx rfl ?_ | refine nf rfl ?_
  refine AA (AN rfl rfl (by omega) (AC (AB rfl ?_)))
  repeat first | refine nx rfl ?_ | refine nf rfl ?_
  refine AA (AN rfl rfl (by omega) (AC (AB rfl ?_)))
  repeat first | refine nx rfl ?_ | refine nf rfl ?_
  refine AA (Av rfl rfl (by omega) (AC (AB rfl ?_)))
  repeat refine nx rfl ?_
  (refine AA (AF rfl ?_) <;> (refine B0 rfl rfl (fun hc => ?_) (fun hc => ?_) <;> try omega) <;> refine AC (AB rfl (AJ ?_)))
  all_goals
   repeat refine nx rfl ?_
   exact AO rfl ⟨congrArg Value.bool (by simp [Cm, Bc, styL, List.lookup, many]; try omega), rfl⟩
 by_cases h13 : op = 13
 ·subst h13
  refine AA (AC (AB rfl ?_))
  repeat refine nx rfl ?_
  refine AA (AF rfl ?_)
  repeat refine nx rfl ?_
  refine AA (AN rfl rfl (by omega) (AC (AB rfl ?_)))
  repeat first | refine nx rfl ?_ | refine nf rfl ?_
  refine AA (AN rfl rfl (by omega) (AC (AB rfl ?_)))
  repeat first | refine nx rfl ?_ | refine nf rfl ?_
  refine AA (AN rfl rfl (by omega) (AC (AB rfl ?_)))
  repeat first | refine nx rfl ?_ | refine nf rfl ?_
  refine AA (AN rfl rfl (by omega) (AC (AB rfl ?_)))
  repeat first | refine nx rfl ?_ | refine nf rfl ?_
  refine AA (AN rfl rfl (by omega) (AC (AB rfl ?_)))
  repeat first | refine nx rfl ?_ | refine nf rfl ?_
  refine AA (AN rfl rfl (by omega) (AC (AB rfl ?_)))
  repeat first | refine nx rfl ?_ | refine nf rfl ?_
  refine AA (AN rfl rfl (by omega) (AC (AB rfl ?_)))
  repeat first | refine nx rfl ?_ | refine nf rfl ?_
  refine AA (Av rfl rfl (by omega) (AC (AB rfl ?_)))
  repeat refine nx rfl ?_
  (refine AA (AF rfl ?_) <;> (refine B0 rfl rfl (fun hc => ?_) (fun hc => ?_) <;> try omega) <;> refine AC (AB rfl (AJ ?_)))
  all_goals
   repeat refine nx rfl ?_
   exact AO rfl ⟨congrArg Value.bool (by simp [Cm, Bc, styL, List.lookup, many]; try omega), rfl⟩
 by_cases h14 : op = 14
 ·subst h14
  refine AA (AC (AB rfl ?_))
  repeat refine nx rfl ?_
  refine AA (AF rfl ?_)
  repeat refine nx rfl ?_
  refine AA (AN rfl rfl (by omega) (AC (AB rfl ?_)))
  repeat first | refine nx rfl ?_ | refine nf rfl ?_
  refine AA (AN rfl rfl (by omega) (AC (AB rfl ?_)))
  repeat first | refine nx rfl ?_ | refine nf rfl ?_
  refine AA (AN rfl rfl (by omega) (AC (AB rfl ?_)))
  repeat first | refine nx rfl ?_ | refine nf rfl ?_
  refine AA (AN rfl rfl (by omega) (AC (AB rfl ?_)))
  repeat first | refine nx rfl ?_ | refine nf rfl ?_
  refine AA (AN rfl rfl (by omega) (AC (AB rfl ?_)))
  repeat first | refine nx rfl ?_ | refine nf rfl ?_
  refine AA (AN rfl rfl (by omega) (AC (AB rfl ?_)))
  repeat first | refine nx rfl ?_ | refine nf rfl ?_
  refine AA (AN rfl rfl (by omega) (AC (AB rfl ?_)))
  repeat first | refine nx rfl ?_ | refine nf rfl ?_
  refine AA (AN rfl rfl (by omega) (AC (AB rfl ?_)))
  repeat first | refine nx rfl ?_ | refine nf rfl ?_
  refine AA (Av rfl rfl (by omega) (AC (AB rfl ?_)))
  repeat refine nx rfl ?_
  (refine AA (AF rfl ?_) <;> (refine B0 rfl rfl (fun hc => ?_) (fun hc => ?_) <;> try omega) <;> refine AC (AB rfl (AJ ?_)))
  all_goals
   repeat refine nx rfl ?_
   exact AO rfl ⟨congrArg Value.bool (by simp [Cm, Bc, styL, List.lookup, many]; try omega), rfl⟩
 by_cases h15 : op = 15
 ·subst h15
  refine AA (AC (AB rfl ?_))
  repeat refine nx rfl ?_
  refine AA (AF rfl ?_)
  repeat refine nx rfl ?_
  refine AA (AN rfl rfl (by omega) (AC (AB rfl ?_)))
  repeat first | refine nx rfl ?_ | refine nf rfl ?_
  refine AA (AN rfl rfl (by omega) (AC (AB rfl ?_)))
  repeat first | refine nx rfl ?_ | refine nf rfl ?_
  refine AA (AN rfl rfl (by omega) (AC (AB rfl ?_)))
  repeat first | refine nx rfl ?_ | refine nf rfl ?_
  refine AA (AN rfl rfl (by omega) (AC (AB rfl ?_)))
  repeat first | refine nx rfl ?_ | refine nf rfl ?_
  refine AA (AN rfl rfl (by omega) (AC (AB rfl ?_)))
  repeat first | refine nx rfl ?_ | refine nf rfl ?_
  refine AA (AN rfl rfl (by omega) (AC (AB rfl ?_)))
  repeat first | refine nx rfl ?_ | refine nf rfl ?_
  refine AA (AN rfl rfl (by omega) (AC (AB rfl ?_)))
  repeat first | refine nx rfl ?_ | refine nf rfl ?_
  refine AA (AN rfl rfl (by omega) (AC (AB rfl ?_)))
  repeat first | refine nx rfl ?_ | refine nf rfl ?_
  refine AA (AN rfl rfl (by omega) (AC (AB rfl ?_)))
  repeat first | refine nx rfl ?_ | refine nf rfl ?_
  refine AA (Av rfl rfl (by omega) (AC (AB rfl ?_)))
  repeat refine nx rfl ?_
  (refine AA (AF rfl ?_) <;> (refine B0 rfl rfl (fun hc => ?_) (fun hc => ?_) <;> try omega) <;> refine AC (AB rfl (AJ ?_)))
  all_goals
   repeat refine nx rfl ?_
   exact AO rfl ⟨congrArg Value.bool (by simp [Cm, Bc, styL, List.lookup, many]; try omega), rfl⟩
 by_cases h18 : op = 18
 ·subst h18
  refine AA (AC (AB rfl ?_))
  repeat refine nx rfl ?_
  refine AA (AF rfl ?_)
  repeat refine nx rfl ?_
  refine AA (AN rfl rfl (by omega) (AC (AB rfl ?_)))
  repeat first | refine nx rfl ?_ | refine nf rfl ?_
  refine AA (AN rfl rfl (by omega) (AC (AB rfl ?_)))
  repeat first | refine nx rfl ?_ | refine nf rfl ?_
  refine AA (AN rfl rfl (by omega) (AC (AB rfl ?_)))
  repeat first | refine nx rfl ?_ | refine nf rfl ?_
  refine AA (AN rfl rfl (by omega) (AC (AB rfl ?_)))
  repeat first | refine nx rfl ?_ | refine nf rfl ?_
  refine AA (AN rfl rfl (by omega) (AC (AB rfl ?_)))
  repeat first | refine nx rfl ?_ | refine nf rfl ?_
  refine AA (AN rfl rfl (by omega) (AC (AB rfl ?_)))
  repeat first | refine nx rfl ?_ | refine nf rfl ?_
  refine AA (AN rfl rfl (by omega) (AC (AB rfl ?_)))
  repeat first | refine nx rfl ?_ | refine nf rfl ?_
  refine AA (AN rfl rfl (by omega) (AC (AB rfl ?_)))
  repeat first | refine nx rfl ?_ | refine nf rfl ?_
  refine AA (AN rfl rfl (by omega) (AC (AB rfl ?_)))
  repeat first | refine nx rfl ?_ | refine nf rfl ?_
  refine AA (AN rfl rfl (by omega) (AC (AB rfl ?_)))
  repeat first | refine nx rfl ?_ | refine nf rfl ?_
  refine AA (Av rfl rfl (by omega) (AC (AB rfl ?_)))
  repeat refine nx rfl ?_
  (refine AA (AF rfl ?_) <;> (refine B0 rfl rfl (fun hc => ?_) (fun hc => ?_) <;> try omega) <;> refine AC (AB rfl (AJ ?_)))
  all_goals
   repeat refine nx rfl ?_
   exact AO rfl ⟨congrArg Value.bool (by simp [Cm, Bc, styL, List.lookup, many]; try omega), rfl⟩
 by_cases h19 : op = 19
 ·subst h19
  refine AA (AC (AB rfl ?_))
  repeat refine nx rfl ?_
  refine AA (AF rfl ?_)
  repeat refine nx rfl ?_
  refine AA (AN rfl rfl (by omega) (AC (AB rfl ?_)))
  repeat first | refine nx rfl ?_ | refine nf rfl ?_
  refine AA (AN rfl rfl (by omega) (AC (AB rfl ?_)))
  repeat first | refine nx rfl ?_ | refine nf rfl ?_
  refine AA (AN rfl rfl (by omega) (AC (AB rfl ?_)))
  repeat first | refine nx rfl ?_ | refine nf rfl ?_
  refine AA (AN rfl rfl (by omega) (AC (AB rfl ?_)))
  repeat first | refine nx rfl ?_ | refine nf rfl ?_
  refine AA (AN rfl rfl (by omega) (AC (AB rfl ?_)))
  repeat first | refine nx rfl ?_ | refine nf rfl ?_
  refine AA (AN rfl rfl (by omega) (AC (AB rfl ?_)))
  repeat first | refine nx rfl ?_ | refine nf rfl ?_
  refine AA (AN rfl rfl (by omega) (AC (AB rfl ?_)))
  repeat first | refine nx rfl ?_ | refine nf rfl ?_
  refine AA (AN rfl rfl (by omega) (AC (AB rfl ?_)))
  repeat first | refine nx rfl ?_ | refine nf rfl ?_
  refine AA (AN rfl rfl (by omega) (AC (AB rfl ?_)))
  repeat first | refine nx rfl ?_ | refine nf rfl ?_
  refine AA (AN rfl rfl (by omega) (AC (AB rfl ?_)))
  repeat first | refine nx rfl ?_ | refine nf rfl ?_
  refine AA (AN rfl rfl (by omega) (AC (AB rfl ?_)))
  repeat first | refine nx rfl ?_ | refine nf rfl ?_
  refine AA (Av rfl rfl (by omega) (AC (AB rfl ?_)))
  repeat refine nx rfl ?_
  (refine AA (AF rfl ?_) <;> (refine B0 rfl rfl (fun hc => ?_) (fun hc => ?_) <;> try omega) <;> refine AC (AB rfl (AJ ?_)))
  all_goals
   repeat refine nx rfl ?_
   exact AO rfl ⟨congrArg Value.bool (by simp [Cm, Bc, styL, List.lookup, many]; try omega), rfl⟩
 by_cases h7 : op = 7
 ·subst h7
  refine AA (AC (AB rfl ?_))
  repeat refine nx rfl ?_
  refine AA (AF rfl ?_)
  repeat refine nx rfl ?_
  refine AA (AN rfl rfl (by omega) (AC (AB rfl ?_)))
  repeat first | refine nx rfl ?_ | refine nf rfl ?_
  refine AA (AN rfl rfl (by omega) (AC (AB rfl ?_)))
  repeat first | refine nx rfl ?_ | refine nf rfl ?_
  refine AA (AN rfl rfl (by omega) (AC (AB rfl ?_)))
  repeat first | refine nx rfl ?_ | refine nf rfl ?_
  refine AA (AN rfl rfl (by omega) (AC (AB rfl ?_)))
  repeat first | refine nx rfl ?_ | refine nf rfl ?_
  refine AA (AN rfl rfl (by omega) (AC (AB rfl ?_)))
  repeat first | refine nx rfl ?_ | refine nf rfl ?_
  refine AA (AN rfl rfl (by omega) (AC (AB rfl ?_)))
  repeat first | refine nx rfl ?_ | refine nf rfl ?_
  refine AA (AN rfl rfl (by omega) (AC (AB rfl ?_)))
  repeat first | refine nx rfl ?_ | refine nf rfl ?_
  refine AA (AN rfl rfl (by omega) (AC (AB rfl ?_)))
  repeat first | refine nx rfl ?_ | refine nf rfl ?_
  refine AA (AN rfl rfl (by omega) (AC (AB rfl ?_)))
  repeat first | refine nx rfl ?_ | refine nf rfl ?_
  refine AA (AN rfl rfl (by omega) (AC (AB rfl ?_)))
  repeat first | refine nx rfl ?_ | refine nf rfl ?_
  refine AA (AN rfl rfl (by omega) (AC (AB rfl ?_)))
  repeat first | refine nx rfl ?_ | refine nf rfl ?_
  refine AA (AN rfl rfl (by omega) (AC (AB rfl ?_)))
  repeat first | refine nx rfl ?_ | refine nf rfl ?_
  refine AA (Av rfl rfl (by omega) (AC (AB rfl ?_)))
  repeat refine nx rfl ?_
  (refine AA (AF rfl ?_) <;> (refine B0 rfl rfl (fun hc => ?_) (fun hc => ?_) <;> try omega) <;> refine AC (AB rfl (AJ ?_)))
  all_goals
   repeat refine nx rfl ?_
   exact AO rfl ⟨congrArg Value.bool (by simp [Cm, Bc, styL, List.lookup, many]; try omega), rfl⟩
 by_cases h9 : op = 9
 ·subst h9
  refine AA (AC (AB rfl ?_))
  repeat refine nx rfl ?_
  refine AA (AF rfl ?_)
  repeat refine nx rfl ?_
  refine AA (AN rfl rfl (by omega) (AC (AB rfl ?_)))
  repeat first | refine nx rfl ?_ | refine nf rfl ?_
  refine AA (AN rfl rfl (by omega) (AC (AB rfl ?_)))
  repeat first | refine nx rfl ?_ | refine nf rfl ?_
  refine AA (AN rfl rfl (by omega) (AC (AB rfl ?_)))
  repeat first | refine nx rfl ?_ | refine nf rfl ?_
  refine AA (AN rfl rfl (by omega) (AC (AB rfl ?_)))
  repeat first | refine nx rfl ?_ | refine nf rfl ?_
  refine AA (AN rfl rfl (by omega) (AC (AB rfl ?_)))
  repeat first | refine nx rfl ?_ | refine nf rfl ?_
  refine AA (AN rfl rfl (by omega) (AC (AB rfl ?_)))
  repeat first | refine nx rfl ?_ | refine nf rfl ?_
  refine AA (AN rfl rfl (by omega) (AC (AB rfl ?_)))
  repeat first | refine nx rfl ?_ | refine nf rfl ?_
  refine AA (AN rfl rfl (by omega) (AC (AB rfl ?_)))
  repeat first | refine nx rfl ?_ | refine nf rfl ?_
  refine AA (AN rfl rfl (by omega) (AC (AB rfl ?_)))
  repeat first | refine nx rfl ?_ | refine nf rfl ?_
  refine AA (AN rfl rfl (by omega) (AC (AB rfl ?_)))
  repeat first | refine nx rfl ?_ | refine nf rfl ?_
  refine AA (AN rfl rfl (by omega) (AC (AB rfl ?_)))
  repeat first | refine nx rfl ?_ | refine nf rfl ?_
  refine AA (AN rfl rfl (by omega) (AC (AB rfl ?_)))
  repeat first | refine nx rfl ?_ | refine nf rfl ?_
  refine AA (AN rfl rfl (by omega) (AC (AB rfl ?_)))
  repeat first | refine nx rfl ?_ | refine nf rfl ?_
  refine AA (Av rfl rfl (by omega) (AC (AB rfl ?_)))
  repeat refine nx rfl ?_
  (refine AA (AF rfl ?_) <;> (refine B0 rfl rfl (fun hc => ?_) (fun hc => ?_) <;> try omega) <;> refine AC (AB rfl (AJ ?_)))
  all_goals
   repeat refine nx rfl ?_
   exact AO rfl ⟨congrArg Value.bool (by simp [Cm, Bc, styL, List.lookup, many]; try omega), rfl⟩
 by_cases h10 : op = 10
 ·subst h10
  refine AA (AC (AB rfl ?_))
  repeat refine nx rfl ?_
  refine AA (AF rfl ?_)
  repeat refine nx rfl ?_
  refine AA (AN rfl rfl (by omega) (AC (AB rfl ?_)))
  repeat first | refine nx rfl ?_ | refine nf rfl ?_
  refine AA (AN rfl rfl (by omega) (AC (AB rfl ?_)))
  repeat first | refine nx rfl ?_ | refine nf rfl ?_
  refine AA (AN rfl rfl (by omega) (AC (AB rfl ?_)))
  repeat first | refine nx rfl ?_ | refine nf rfl ?_
  refine AA (AN rfl rfl (by omega) (AC (AB rfl ?_)))
  repeat first | refine nx rfl ?_ | refine nf rfl ?_
  refine AA (AN rfl rfl (by omega) (AC (AB rfl ?_)))
  repeat first | refine nx rfl ?_ | refine nf rfl ?_
  refine AA (AN rfl rfl (by omega) (AC (AB rfl ?_)))
  repeat first | refine nx rfl ?_ | refine nf rfl ?_
  refine AA (AN rfl rfl (by omega) (AC (AB rfl ?_)))
  repeat first | refine nx rfl ?_ | refine nf rfl ?_
  refine AA (AN rfl rfl (by omega) (AC (AB rfl ?_)))
  repeat first | refine nx rfl ?_ | refine nf rfl ?_
  refine AA (AN rfl rfl (by omega) (AC (AB rfl ?_)))
  repeat first | refine nx rfl ?_ | refine nf rfl ?_
  refine AA (AN rfl rfl (by omega) (AC (AB rfl ?_)))
  repeat first | refine nx rfl ?_ | refine nf rfl ?_
  refine AA (AN rfl rfl (by omega) (AC (AB rfl ?_)))
  repeat first | refine nx rfl ?_ | refine nf rfl ?_
  refine AA (AN rfl rfl (by omega) (AC (AB rfl ?_)))
  repeat first | refine nx rfl ?_ | refine nf rfl ?_
  refine AA (AN rfl rfl (by omega) (AC (AB rfl ?_)))
  repeat first | refine nx rfl ?_ | refine nf rfl ?_
  refine AA (AN rfl rfl (by omega) (AC (AB rfl ?_)))
  repeat first | refine nx rfl ?_ | refine nf rfl ?_
  refine AA (Av rfl rfl (by omega) (AC (AB rfl ?_)))
  repeat refine nx rfl ?_
  (refine AA (AF rfl ?_) <;> (refine B0 rfl rfl (fun hc => ?_) (fun hc => ?_) <;> try omega) <;> refine AC (AB rfl (AJ ?_)))
  all_goals
   repeat refine nx rfl ?_
   exact AO rfl ⟨congrArg Value.bool (by simp [Cm, Bc, styL, List.lookup, many]; try omega), rfl⟩
 by_cases h16 : op = 16
 ·subst h16
  refine AA (AC (AB rfl ?_))
  repeat refine nx rfl ?_
  refine AA (AF rfl ?_)
  repeat refine nx rfl ?_
  refine AA (AN rfl rfl (by omega) (AC (AB rfl ?_)))
  repeat first | refine nx rfl ?_ | refine nf rfl ?_
  refine AA (AN rfl rfl (by omega) (AC (AB rfl ?_)))
  repeat first | refine nx rfl ?_ | refine nf rfl ?_
  refine AA (AN rfl rfl (by omega) (AC (AB rfl ?_)))
  repeat first | refine nx rfl ?_ | refine nf rfl ?_
  refine AA (AN rfl rfl (by omega) (AC (AB rfl ?_)))
  repeat first | refine nx rfl ?_ | refine nf rfl ?_
  refine AA (AN rfl rfl (by omega) (AC (AB rfl ?_)))
  repeat first | refine nx rfl ?_ | refine nf rfl ?_
  refine AA (AN rfl rfl (by omega) (AC (AB rfl ?_)))
  repeat first | refine nx rfl ?_ | refine nf rfl ?_
  refine AA (AN rfl rfl (by omega) (AC (AB rfl ?_)))
  repeat first | refine nx rfl ?_ | refine nf rfl ?_
  refine AA (AN rfl rfl (by omega) (AC (AB rfl ?_)))
  repeat first | refine nx rfl ?_ | refine nf rfl ?_
  refine AA (AN rfl rfl (by omega) (AC (AB rfl ?_)))
  repeat first | refine nx rfl ?_ | refine nf rfl ?_
  refine AA (AN rfl rfl (by omega) (AC (AB rfl ?_)))
  repeat first | refine nx rfl ?_ | refine nf rfl ?_
  refine AA (AN rfl rfl (by omega) (AC (AB rfl ?_)))
  repeat first | refine nx rfl ?_ | refine nf rfl ?_
  refine AA (AN rfl rfl (by omega) (AC (AB rfl ?_)))
  repeat first | refine nx rfl ?_ | refine nf rfl ?_
  refine AA (AN rfl rfl (by omega) (AC (AB rfl ?_)))
  repeat first | refine nx rfl ?_ | refine nf rfl ?_
  refine AA (AN rfl rfl (by omega) (AC (AB rfl ?_)))
  repeat first | refine nx rfl ?_ | refine nf rfl ?_
  refine AA (AN rfl rfl (by omega) (AC (AB rfl ?_)))
  repeat first | refine nx rfl ?_ | refine nf rfl ?_
  refine AA (Av rfl rfl (by omega) (AC (AB rfl ?_)))
  repeat refine nx rfl ?_
  (refine AA (AF rfl ?_) <;> (refine B0 rfl rfl (fun hc => ?_) (fun hc => ?_) <;> try omega) <;> refine AC (AB rfl (AJ ?_)))
  all_goals
   repeat refine nx rfl ?_
   exact AO rfl ⟨congrArg Value.bool (by simp [Cm, Bc, styL, List.lookup, many]; try omega), rfl⟩
 by_cases h17 : op = 17
 ·subst h17
  refine AA (AC (AB rfl ?_))
  repeat refine nx rfl ?_
  refine AA (AF rfl ?_)
  repeat refine nx rfl ?_
  refine AA (AN rfl rfl (by omega) (AC (AB rfl ?_)))
  repeat first | refine nx rfl ?_ | refine nf rfl ?_
  refine AA (AN rfl rfl (by omega) (AC (AB rfl ?_)))
  repeat first | refine nx rfl ?_ | refine nf rfl ?_
  refine AA (AN rfl rfl (by omega) (AC (AB rfl ?_)))
  repeat first | refine nx rfl ?_ | refine nf rfl ?_
  refine AA (AN rfl rfl (by omega) (AC (AB rfl ?_)))
  repeat first | refine nx rfl ?_ | refine nf rfl ?_
  refine AA (AN rfl rfl (by omega) (AC (AB rfl ?_)))
  repeat first | refine nx rfl ?_ | refine nf rfl ?_
  refine AA (AN rfl rfl (by omega) (AC (AB rfl ?_)))
  repeat first | refine nx rfl ?_ | refine nf rfl ?_
  refine AA (AN rfl rfl (by omega) (AC (AB rfl ?_)))
  repeat first | refine nx rfl ?_ | refine nf rfl ?_
  refine AA (AN rfl rfl (by omega) (AC (AB rfl ?_)))
  repeat first | refine nx rfl ?_ | refine nf rfl ?_
  refine AA (AN rfl rfl (by omega) (AC (AB rfl ?_)))
  repeat first | refine nx rfl ?_ | refine nf rfl ?_
  refine AA (AN rfl rfl (by omega) (AC (AB rfl ?_)))
  repeat first | refine nx rfl ?_ | refine nf rfl ?_
  refine AA (AN rfl rfl (by omega) (AC (AB rfl ?_)))
  repeat first | refine nx rfl ?_ | refine nf rfl ?_
  refine AA (AN rfl rfl (by omega) (AC (AB rfl ?_)))
  repeat first | refine nx rfl ?_ | refine nf rfl ?_
  refine AA (AN rfl rfl (by omega) (AC (AB rfl ?_)))
  repeat first | refine nx rfl ?_ | refine nf rfl ?_
  refine AA (AN rfl rfl (by omega) (AC (AB rfl ?_)))
  repeat first | refine nx rfl ?_ | refine nf rfl ?_
  refine AA (AN rfl rfl (by omega) (AC (AB rfl ?_)))
  repeat first | refine nx rfl ?_ | refine nf rfl ?_
  refine AA (AN rfl rfl (by omega) (AC (AB rfl ?_)))
  repeat first | refine nx rfl ?_ | refine nf rfl ?_
  refine AA (Av rfl rfl (by omega) (AC (AB rfl ?_)))
  repeat refine nx rfl ?_
  (refine AA (AF rfl ?_) <;> (refine B0 rfl rfl (fun hc => ?_) (fun hc => ?_) <;> try omega) <;> refine AC (AB rfl (AJ ?_)))
  all_goals
   repeat refine nx rfl ?_
   exact AO rfl ⟨congrArg Value.bool (by simp [Cm, Bc, styL, List.lookup, many]; try omega), rfl⟩
 by_cases h5 : op = 5
 ·subst h5
  refine AA (AC (AB rfl ?_))
  repeat refine nx rfl ?_
  refine AA (AF rfl ?_)
  repeat refine nx rfl ?_
  refine AA (AN rfl rfl (by omega) (AC (AB rfl ?_)))
  repeat first | refine nx rfl ?_ | refine nf rfl ?_
  refine AA (AN rfl rfl (by omega) (AC (AB rfl ?_)))
  repeat first | refine nx rfl ?_ | refine nf rfl ?_
  refine AA (AN rfl rfl (by omega) (AC (AB rfl ?_)))
  repeat first | refine nx rfl ?_ | refine nf rfl ?_
  refine AA (AN rfl rfl (by omega) (AC (AB rfl ?_)))
  repeat first | refine nx rfl ?_ | refine nf rfl ?_
  refine AA (AN rfl rfl (by omega) (AC (AB rfl ?_)))
  repeat first | refine nx rfl ?_ | refine nf rfl ?_
  refine AA (AN rfl rfl (by omega) (AC (AB rfl ?_)))
  repeat first | refine nx rfl ?_ | refine nf rfl ?_
  refine AA (AN rfl rfl (by omega) (AC (AB rfl ?_)))
  repeat first | refine nx rfl ?_ | refine nf rfl ?_
  refine AA (AN rfl rfl (by omega) (AC (AB rfl ?_)))
  repeat first | refine nx rfl ?_ | refine nf rfl ?_
  refine AA (AN rfl rfl (by omega) (AC (AB rfl ?_)))
  repeat first | refine nx rfl ?_ | refine nf rfl ?_
  refine AA (AN rfl rfl (by omega) (AC (AB rfl ?_)))
  repeat first | refine nx rfl ?_ | refine nf rfl ?_
  refine AA (AN rfl rfl (by omega) (AC (AB rfl ?_)))
  repeat first | refine nx rfl ?_ | refine nf rfl ?_
  refine AA (AN rfl rfl (by omega) (AC (AB rfl ?_)))
  repeat first | refine nx rfl ?_ | refine nf rfl ?_
  refine AA (AN rfl rfl (by omega) (AC (AB rfl ?_)))
  repeat first | refine nx rfl ?_ | refine nf rfl ?_
  refine AA (AN rfl rfl (by omega) (AC (AB rfl ?_)))
  repeat first | refine nx rfl ?_ | refine nf rfl ?_
  refine AA (AN rfl rfl (by omega) (AC (AB rfl ?_)))
  repeat first | refine nx rfl ?_ | refine nf rfl ?_
  refine AA (AN rfl rfl (by omega) (AC (AB rfl ?_)))
  repeat first | refine nx rfl ?_ | refine nf rfl ?_
  refine AA (AN rfl rfl (by omega) (AC (AB rfl ?_)))
  repeat first | refine nx rfl ?_ | refine nf rfl ?_
  refine AA (Av rfl rfl (by omega) (AC (AB rfl ?_)))
  repeat refine nx rfl ?_
  (refine AA (AF rfl ?_) <;> (refine W_geq rfl rfl (fun hc => ?_) (fun hc => ?_) <;> try omega) <;> refine AC (AB rfl (AJ ?_)))
  all_goals
   repeat refine nx rfl ?_
   exact AO rfl ⟨congrArg Value.bool (by simp [Cm, Bc, styL, List.lookup, many]; try omega), rfl⟩
 by_cases h6 : op = 6
 ·subst h6
  refine AA (AC (AB rfl ?_))
  repeat refine nx rfl ?_
  refine AA (AF rfl ?_)
  repeat refine nx rfl ?_
  refine AA (AN rfl rfl (by omega) (AC (AB rfl ?_)))
  repeat first | refine nx rfl ?_ | refine nf rfl ?_
  refine AA (AN rfl rfl (by omega) (AC (AB rfl ?_)))
  repeat first | refine nx rfl ?_ | refine nf rfl ?_
  refine AA (AN rfl rfl (by omega) (AC (AB rfl ?_)))
  repeat first | refine nx rfl ?_ | refine nf rfl ?_
  refine AA (AN rfl rfl (by omega) (AC (AB rfl ?_)))
  repeat first | refine nx rfl ?_ | refine nf rfl ?_
  refine AA (AN rfl rfl (by omega) (AC (AB rfl ?_)))
  repeat first | refine nx rfl ?_ | refine nf rfl ?_
  refine AA (AN rfl rfl (by omega) (AC (AB rfl ?_)))
  repeat first | refine nx rfl ?_ | refine nf rfl ?_
  refine AA (AN rfl rfl (by omega) (AC (AB rfl ?_)))
  repeat first | refine nx rfl ?_ | refine nf rfl ?_
  refine AA (AN rfl rfl (by omega) (AC (AB rfl ?_)))
  repeat first | refine nx rfl ?_ | refine nf rfl ?_
  refine AA (AN rfl rfl (by omega) (AC (AB rfl ?_)))
  repeat first | refine nx rfl ?_ | refine nf rfl ?_
  refine AA (AN rfl rfl (by omega) (AC (AB rfl ?_)))
  repeat first | refine nx rfl ?_ | refine nf rfl ?_
  refine AA (AN rfl rfl (by omega) (AC (AB rfl ?_)))
  repeat first | refine nx rfl ?_ | refine nf rfl ?_
  refine AA (AN rfl rfl (by omega) (AC (AB rfl ?_)))
  repeat first | refine nx rfl ?_ | refine nf rfl ?_
  refine AA (AN rfl rfl (by omega) (AC (AB rfl ?_)))
  repeat first | refine nx rfl ?_ | refine nf rfl ?_
  refine AA (AN rfl rfl (by omega) (AC (AB rfl ?_)))
  repeat first | refine nx rfl ?_ | refine nf rfl ?_
  refine AA (AN rfl rfl (by omega) (AC (AB rfl ?_)))
  repeat first | refine nx rfl ?_ | refine nf rfl ?_
  refine AA (AN rfl rfl (by omega) (AC (AB rfl ?_)))
  repeat first | refine nx rfl ?_ | refine nf rfl ?_
  refine AA (AN rfl rfl (by omega) (AC (AB rfl ?_)))
  repeat first | refine nx rfl ?_ | refine nf rfl ?_
  refine AA (AN rfl rfl (by omega) (AC (AB rfl ?_)))
  repeat first | refine nx rfl ?_ | refine nf rfl ?_
  refine AA (Av rfl rfl (by omega) (AC (AB rfl ?_)))
  repeat refine nx rfl ?_
  (refine AA (AF rfl ?_) <;> (refine W_geq rfl rfl (fun hc => ?_) (fun hc => ?_) <;> try omega) <;> refine AC (AB rfl (AJ ?_)))
  all_goals
   repeat refine nx rfl ?_
   exact AO rfl ⟨congrArg Value.bool (by simp [Cm, Bc, styL, List.lookup, many]; try omega), rfl⟩
 refine AA (AC (AB rfl ?_))
 repeat refine nx rfl ?_
 refine AA (AF rfl ?_)
 repeat refine nx rfl ?_
 refine AA (AN rfl rfl (by omega) (AC (AB rfl ?_)))
 repeat first | refine nx rfl ?_ | refine nf rfl ?_
 refine AA (AN rfl rfl (by omega) (AC (AB rfl ?_)))
 repeat first | refine nx rfl ?_ | refine nf rfl ?_
 refine AA (AN rfl rfl (by omega) (AC (AB rfl ?_)))
 repeat first | refine nx rfl ?_ | refine nf rfl ?_
 refine AA (AN rfl rfl (by omega) (AC (AB rfl ?_)))
 repeat first | refine nx rfl ?_ | refine nf rfl ?_
 refine AA (AN rfl rfl (by omega) (AC (AB rfl ?_)))
 repeat first | refine nx rfl ?_ | refine nf rfl ?_
 refine AA (AN rfl rfl (by omega) (AC (AB rfl ?_)))
 repeat first | refine nx rfl ?_ | refine nf rfl ?_
 refine AA (AN rfl rfl (by omega) (AC (AB rfl ?_)))
 repeat first | refine nx rfl ?_ | refine nf rfl ?_
 refine AA (AN rfl rfl (by omega) (AC (AB rfl ?_)))
 repeat first | refine nx rfl ?_ | refine nf rfl ?_
 refine AA (AN rfl rfl (by omega) (AC (AB rfl ?_)))
 repeat first | refine nx rfl ?_ | refine nf rfl ?_
 refine AA (AN rfl rfl (by omega) (AC (AB rfl ?_)))
 repeat first | refine nx rfl ?_ | refine nf rfl ?_
 refine AA (AN rfl rfl (by omega) (AC (AB rfl ?_)))
 repeat first | refine nx rfl ?_ | refine nf rfl ?_
 refine AA (AN rfl rfl (by omega) (AC (AB rfl ?_)))
 repeat first | refine nx rfl ?_ | refine nf rfl ?_
 refine AA (AN rfl rfl (by omega) (AC (AB rfl ?_)))
 repeat first | refine nx rfl ?_ | refine nf rfl ?_
 refine AA (AN rfl rfl (by omega) (AC (AB rfl ?_)))
 repeat first | refine nx rfl ?_ | refine nf rfl ?_
 refine AA (AN rfl rfl (by omega) (AC (AB rfl ?_)))
 repeat first | refine nx rfl ?_ | refine nf rfl ?_
 refine AA (AN rfl rfl (by omega) (AC (AB rfl ?_)))
 repeat first | refine nx rfl ?_ | refine nf rfl ?_
 refine AA (AN rfl rfl (by omega) (AC (AB rfl ?_)))
 repeat first | refine nx rfl ?_ | refine nf rfl ?_
 refine AA (AN rfl rfl (by omega) (AC (AB rfl ?_)))
 repeat first | refine nx rfl ?_ | refine nf rfl ?_
 refine AA (AN rfl rfl (by omega) (AC (AB rfl ?_)))
 repeat first | refine nx rfl ?_ | refine nf rfl ?_
 refine AA (AC (AB rfl ?_))
 repeat refine nx rfl ?_
 refine AO rfl ⟨by rw [args_else]; rfl; intro k hk1 hk2 he; omega, rfl⟩
end Go.Proofs.YtfcgdbmoncnibaaGreatDoor
namespace Go.Proofs.YtfcgdbmoncnibaaGreatDoor
open Go.RowKit
set_option linter.unusedVariables false
def latB (f : Fml) : Bool := decide (f.op = 15) && decide (f.val = 1)
def nodeR (f : Fml) : Bool :=
 Cm f.op f.args.length && (decide (f.op = 3) == !f.name.isEmpty) && (!decide (f.op = 3) || BV f.name) && numB f.val && numB f.bound &&
 !(!decide (f.val = 0) && !decide (f.op = 3) && !(decide (f.op = 16) || decide (f.op = 17)) && !latB f) && !(!decide (f.bound = 0) && !(decide (f.op = 13) || decide (f.op = 14)))
theorem nodeR_eq (f : Fml) : nodeR f = Cu f.op f.name f.val f.bound f.args.length := by
 unfold nodeR Cu Cm latB numB
 have hE : BV [] = false := rfl
 generalize f.args.length = k
 cases hs : Bc f.op with
 | none => simp
 | some s =>
  rcases op_cases hs with h | h | h | h | h | h | h | h | h | h | h | h | h | h | h | h | h | h | h <;> rw [h] at hs ⊢ <;> simp [Bc, styL, List.lookup] at hs <;> subst hs <;> rw [Bool.eq_iff_iff]
  all_goals
   by_cases hN : BV f.name = true
   ·have hne : f.name ≠ [] := fun e => by have := (Bf hN).1; rw [e] at this; simp at this
    simp [hN, hne]
    try omega
   ·have hN : BV f.name = false := by simpa using hN
    by_cases hn : f.name = []
    ·by_cases hm : k ≤ many
     ·simp [hn, hE, hm]
      try omega
     ·simp [hn, hE, hm]
      try omega
    ·simp [hN, hn]
theorem okL_app : ∀ (l m : List Fml), okL (l ++ m) = (okL l && okL m)
 | [], m => by simp [okL]
 | a :: l, m => by simp [okL, okL_app l m, Bool.and_assoc]
theorem numB0 : numB 0 = true := rfl
set_option maxHeartbeats 3200000 in
set_option maxRecDepth 8000 in
theorem printable_ok : ∀ (N : Nat) (f : Fml), szF f ≤ N → szF f ≤ 1000000 → ∀ (w : World) (v : Value), FAt A0 w v f → Fn Tryz.prog 20 [v] w fun u w' => u = .bool (okF f) ∧ Ext w w' := by
 intro N
 induction N with
 | zero => intro f hN; have := szF_pos f; omega
 | succ N ih =>
 intro f hN hz w v hf
 obtain ⟨av, rfl, L, hS, hFA⟩ := hf.form
 obtain ⟨a, c, rfl, hS'⟩ := id hS
 have hsz := szF_eq f
 have hal : f.args.length ≤ 1000000 := by have := szL_len f.args; omega
 refine Ab Tryz.func20 rfl Tryz.ntmps20 (Nat.le_of_ble_eq_true rfl) (by kernel_rfl) ?_
 repeat refine nx rfl ?_
 (refine AA ?_; refine Bq (L := fcC f (.slice a f.args.length c)) rfl (fun w1 n1 => ?_))
 have b1 := n1.blk
 have k1 := n1.keep
 have c0 : w1.cell? ⟨w.heap.size, 0 + 0, none⟩ = some (.int .i64 f.op) := b1.cell rfl
 have c1 : w1.cell? ⟨w.heap.size, 0 + 1, none⟩ = some (AL f.name) := b1.cell rfl
 have c2 : w1.cell? ⟨w.heap.size, 0 + 2, none⟩ = some (.int .i64 f.val) := b1.cell rfl
 have c3 : w1.cell? ⟨w.heap.size, 0 + 3, none⟩ = some (.int .i64 f.bound) := b1.cell rfl
 have c4 : w1.cell? ⟨w.heap.size, 0 + 4, none⟩ = some (.slice a f.args.length c) := b1.cell rfl
 refine AC (AB rfl (AJ ?_))
 repeat' first | refine AJ ?_ | refine DH ?_ | refine DP ?_
 generalize hI : decide (f.op = 3) = bI
 refine CE (α := Unit) (fun _ => [(1, pt w.heap.size), (3, .bool bI)]) (fun _ W => w1 = W) ?_ ?_
 ·by_cases h3 : f.op = 3
  ·obtain rfl : bI = true := by rw [← hI]; simp [h3]
   (refine AA (AD rfl (AG rfl (Blk.cell (by assumption) (by rfl)) ?_)) <;> refine Av rfl rfl (by omega) (AC (AB rfl (AJ ?_))))
   exact An () ⟨rfl, rfl, trivial⟩ rfl
  ·obtain rfl : bI = false := by rw [← hI]; simp [h3]
   (refine AA (AD rfl (AG rfl (Blk.cell (by assumption) (by rfl)) ?_)) <;> refine AN rfl rfl (by omega) (AC (AB rfl (AJ ?_))))
   exact An () ⟨rfl, rfl, trivial⟩ rfl
 rintro _ _ f1 rfl
 repeat' first | refine AJ ?_ | refine DH ?_ | refine DP ?_
 generalize hS2 : (decide (f.op = 16) || decide (f.op = 17)) = bS
 refine CE (α := Unit) (fun _ => [(1, pt w.heap.size), (3, .bool bI), (4, .bool bS)]) (fun _ W => w1 = W) ?_ ?_
 ·by_cases h16 : f.op = 16
  ·obtain rfl : bS = true := by rw [← hS2]; simp [h16]
   (refine AA (AD rfl (AG rfl (Blk.cell (by assumption) (by rfl)) ?_)) <;> refine Av rfl rfl (by omega) (AB rfl (AI rfl (AI rfl (AI rfl (AK rfl (AB rfl (AC (AB rfl (AJ ?_))))))))))
   exact An () ⟨rfl, rfl, rfl, trivial⟩ rfl
  ·by_cases h17 : f.op = 17
   ·obtain rfl : bS = true := by rw [← hS2]; simp [h17]
    (refine AA (AD rfl (AG rfl (Blk.cell (by assumption) (by rfl)) ?_)) <;> refine AN rfl rfl (by omega) (AB rfl (AE rfl (AD rfl (AE rfl (AG rfl (Blk.cell (by assumption) (by rfl)) ?_))))) <;> refine AE rfl (Av rfl rfl (by omega) (AP rfl (AB rfl (AC (AB rfl (AJ ?_)))))))
    exact An () ⟨rfl, rfl, rfl, trivial⟩ rfl
   ·obtain rfl : bS = false := by rw [← hS2]; simp [h16, h17]
    (refine AA (AD rfl (AG rfl (Blk.cell (by assumption) (by rfl)) ?_)) <;> refine AN rfl rfl (by omega) (AB rfl (AE rfl (AD rfl (AE rfl (AG rfl (Blk.cell (by assumption) (by rfl)) ?_))))) <;> refine AE rfl (AN rfl rfl (by omega) (AP rfl (AB rfl (AC (AB rfl (AJ ?_)))))))
    exact An () ⟨rfl, rfl, rfl, trivial⟩ rfl
 rintro _ _ f2 rfl
 repeat' first | refine AJ ?_ | refine DH ?_ | refine DP ?_
 generalize hB2 : (decide (f.op = 13) || decide (f.op = 14)) = bB
 refine CE (α := Unit) (fun _ => [(1, pt w.heap.size), (3, .bool bI), (4, .bool bS), (5, .bool bB)]) (fun _ W => w1 = W) ?_ ?_
 ·by_cases h16 : f.op = 13
  ·obtain rfl : bB = true := by rw [← hB2]; simp [h16]
   (refine AA (AD rfl (AG rfl (Blk.cell (by assumption) (by rfl)) ?_)) <;> refine Av rfl rfl (by omega) (AB rfl (AI rfl (AI rfl (AI rfl (AK rfl (AB rfl (AC (AB rfl (AJ ?_))))))))))
   exact An () ⟨rfl, rfl, rfl, rfl, trivial⟩ rfl
  ·by_cases h17 : f.op = 14
   ·obtain rfl : bB = true := by rw [← hB2]; simp [h17]
    (refine AA (AD rfl (AG rfl (Blk.cell (by assumption) (by rfl)) ?_)) <;> refine AN rfl rfl (by omega) (AB rfl (AE rfl (AD rfl (AE rfl (AG rfl (Blk.cell (by assumption) (by rfl)) ?_))))) <;> refine AE rfl (Av rfl rfl (by omega) (AP rfl (AB rfl (AC (AB rfl (AJ ?_)))))))
    exact An () ⟨rfl, rfl, rfl, rfl, trivial⟩ rfl
   ·obtain rfl : bB = false := by rw [← hB2]; simp [h16, h17]
    (refine AA (AD rfl (AG rfl (Blk.cell (by assumption) (by rfl)) ?_)) <;> refine AN rfl rfl (by omega) (AB rfl (AE rfl (AD rfl (AE rfl (AG rfl (Blk.cell (by assumption) (by rfl)) ?_))))) <;> refine AE rfl (AN rfl rfl (by omega) (AP rfl (AB rfl (AC (AB rfl (AJ ?_)))))))
    exact An () ⟨rfl, rfl, rfl, rfl, trivial⟩ rfl
 rintro _ _ f3 rfl
 repeat' first | refine AJ ?_ | refine DH ?_ | refine DP ?_
 generalize hL2 : latB f = bL
 refine CE (α := Unit) (fun _ => [(1, pt w.heap.size), (3, .bool bI), (4, .bool bS), (5, .bool bB), (6, .bool bL)]) (fun _ W => w1 = W) ?_ ?_
 ·by_cases h15 : f.op = 15
  ·by_cases h1 : f.val = 1
   ·obtain rfl : bL = true := by rw [← hL2]; simp [latB, h15, h1]
    (refine AA (AD rfl (AG rfl (Blk.cell (by assumption) (by rfl)) ?_)) <;> refine Av rfl rfl (by omega) (AB rfl (AE rfl (AD rfl (AE rfl (AG rfl (Blk.cell (by assumption) (by rfl)) ?_))))) <;> refine AE rfl (Av rfl rfl (by omega) (AK rfl (AB rfl (AC (AB rfl (AJ ?_)))))))
    exact An () ⟨rfl, rfl, rfl, rfl, rfl, trivial⟩ rfl
   ·obtain rfl : bL = false := by rw [← hL2]; simp [latB, h1]
    (refine AA (AD rfl (AG rfl (Blk.cell (by assumption) (by rfl)) ?_)) <;> refine Av rfl rfl (by omega) (AB rfl (AE rfl (AD rfl (AE rfl (AG rfl (Blk.cell (by assumption) (by rfl)) ?_))))) <;> refine AE rfl (AN rfl rfl (by omega) (AK rfl (AB rfl (AC (AB rfl (AJ ?_)))))))
    exact An () ⟨rfl, rfl, rfl, rfl, rfl, trivial⟩ rfl
  ·obtain rfl : bL = false := by rw [← hL2]; simp [latB, h15]
   (refine AA (AD rfl (AG rfl (Blk.cell (by assumption) (by rfl)) ?_)) <;> refine AN rfl rfl (by omega) (AB rfl (AI rfl (AI rfl (AI rfl (AP rfl (AB rfl (AC (AB rfl (AJ ?_))))))))))
   exact An () ⟨rfl, rfl, rfl, rfl, rfl, trivial⟩ rfl
 rintro _ _ f4 rfl
 repeat' first | refine AJ ?_ | refine DH ?_ | refine DP ?_
 refine CE (α := Unit) (fun _ => [(1, pt w.heap.size), (95, .bool (!nodeR f))]) (fun _ W => Ext w1 W) ?_ ?_
 ·have kk : Ext w1 w1 := Ext.refl _
  (refine AA (AD rfl (AG rfl (Blk.cell (by assumption) (by rfl)) ?_)) <;> refine AD rfl (AG rfl (Blk.cell (by assumption) (by rfl)) ?_) <;> refine As rfl ?_)
  refine AS (rargs_ok w1 f.op f.args.length hal) rfl ?_
  rintro _ w2 ⟨rfl, rfl⟩
  generalize hA : Cm f.op f.args.length = bA
  cases bA with
  | false =>
   refine A9 rfl ?_
   rw [Bool.not_false]
   refine AB rfl (AI rfl (AI rfl (AI rfl (AI rfl (AI rfl (AK rfl (AB rfl (AB rfl (AI rfl (AI rfl (AI rfl (AI rfl (AI rfl (AI rfl (AI rfl (AK rfl (AB rfl (AB rfl (AI rfl (AI rfl (AI rfl (AI rfl (AK rfl (AB rfl (AB rfl (AI rfl (AI rfl (AI rfl (AI rfl (AK rfl (AB rfl (AB rfl (AI rfl (AI rfl (AI rfl (AI rfl (AI rfl (AI rfl (AI rfl (AI rfl (AI rfl (AI rfl (AI rfl (AI rfl (AI rfl (AI rfl (AI rfl (AK rfl (AB rfl (AB rfl (AI rfl (AI rfl (AI rfl (AI rfl (AI rfl (AI rfl (AI rfl (AK rfl (AB rfl (AJ ?_))))))))))))))))))))))))))))))))))))))))))))))))))))))))))))
   all_goals
    repeat refine nx rfl ?_
    exact An () ⟨rfl, congrArg Value.bool (by clear ih hf hS hFA hS' n1 b1 k1 hsz hal; simp [nodeR, numB0, *]), trivial⟩ kk
  | true =>
   cases bI with
   | true =>
    (refine A9 rfl (AB rfl (AE rfl (AB rfl (AE rfl (AD rfl (AE rfl (AG rfl (Blk.cell (by assumption) (by rfl)) ?_))))))) <;> (refine AE rfl ?_; refine W_sneq rfl rfl (fun hc => ?_) (fun hc => ?_)) <;> refine AE rfl (W_bneq rfl rfl (AP rfl (AB rfl (AB rfl ?_)))) <;> (first | refine AI rfl ?_ | (refine AE rfl ?_; refine AB rfl ?_)) <;> (first | refine AI rfl ?_ | (refine AE rfl ?_; refine AB rfl ?_)) <;> (first | refine AI rfl ?_ | (refine AE rfl ?_; refine AD rfl ?_)) <;> (first | refine AI rfl ?_ | (refine AE rfl ?_; refine AG rfl (Blk.cell (by assumption) (by rfl)) ?_)))
    ·refine AE rfl ?_
     refine AS (refName_ok f.name w2) rfl ?_
     rintro _ w3 ⟨rfl, k3⟩
     have d2 := k3.cell c2 (by simp)
     have d3 := k3.cell c3 (by simp)
     clear c0 c1 c2 c3 c4
     have kk := k3
     generalize hN : BV f.name = bN
     cases bN with
     | false =>
      refine AE rfl (A9 rfl (AE rfl (AK rfl (AB rfl (AP rfl (AB rfl (AB rfl (AI rfl (AI rfl (AI rfl (AI rfl (AK rfl (AB rfl (AB rfl (AI rfl (AI rfl (AI rfl (AI rfl (AK rfl (AB rfl (AB rfl (AI rfl (AI rfl (AI rfl (AI rfl (AI rfl (AI rfl (AI rfl (AI rfl (AI rfl (AI rfl (AI rfl (AI rfl (AI rfl (AI rfl (AI rfl (AK rfl (AB rfl (AB rfl (AI rfl (AI rfl (AI rfl (AI rfl (AI rfl (AI rfl (AI rfl (AK rfl (AB rfl (AJ ?_)))))))))))))))))))))))))))))))))))))))))))))))))
      all_goals
       repeat refine nx rfl ?_
       exact An () ⟨rfl, congrArg Value.bool (by clear ih hf hS hFA hS' n1 b1 k1 hsz hal; simp [nodeR, numB0, *]), trivial⟩ kk
     | true =>
      refine AE rfl (A9 rfl (AE rfl (AK rfl (AB rfl (AP rfl (AB rfl (AB rfl (AE rfl (AD rfl (AE rfl (AG rfl (by assumption) ?_)))))))))))
      refine AE rfl ?_
      refine AS (rnumber_ok _ f.val) rfl ?_
      rintro _ w3 ⟨rfl, rfl⟩
      generalize hV : numB f.val = bV
      cases bV with
      | false =>
       refine AE rfl (A9 rfl (AP rfl (AB rfl (AB rfl (AI rfl (AI rfl (AI rfl (AI rfl (AK rfl (AB rfl (AB rfl (AI rfl (AI rfl (AI rfl (AI rfl (AI rfl (AI rfl (AI rfl (AI rfl (AI rfl (AI rfl (AI rfl (AI rfl (AI rfl (AI rfl (AI rfl (AK rfl (AB rfl (AB rfl (AI rfl (AI rfl (AI rfl (AI rfl (AI rfl (AI rfl (AI rfl (AK rfl (AB rfl (AJ ?_)))))))))))))))))))))))))))))))))))))))
       all_goals
        repeat refine nx rfl ?_
        exact An () ⟨rfl, congrArg Value.bool (by clear ih hf hS hFA hS' n1 b1 k1 hsz hal; simp [nodeR, numB0, *]), trivial⟩ kk
      | true =>
       refine AE rfl (A9 rfl (AP rfl (AB rfl (AB rfl (AE rfl (AD rfl (AE rfl (AG rfl (by assumption) ?_))))))))
       refine AE rfl ?_
       refine AS (rnumber_ok _ f.bound) rfl ?_
       rintro _ w4 ⟨rfl, rfl⟩
       generalize hBd : numB f.bound = bBd
       cases bBd with
       | false =>
        refine AE rfl (A9 rfl (AP rfl (AB rfl (AB rfl (AI rfl (AI rfl (AI rfl (AI rfl (AI rfl (AI rfl (AI rfl (AI rfl (AI rfl (AI rfl (AI rfl (AI rfl (AI rfl (AI rfl (AI rfl (AK rfl (AB rfl (AB rfl (AI rfl (AI rfl (AI rfl (AI rfl (AI rfl (AI rfl (AI rfl (AK rfl (AB rfl (AJ ?_))))))))))))))))))))))))))))))))
        all_goals
         repeat refine nx rfl ?_
         exact An () ⟨rfl, congrArg Value.bool (by clear ih hf hS hFA hS' n1 b1 k1 hsz hal; simp [nodeR, numB0, *]), trivial⟩ kk
       | true =>
        cases bS <;> cases bL <;> cases bB
        all_goals
         (refine AE rfl (A9 rfl (AP rfl (AB rfl (AB rfl (AE rfl (AD rfl (AE rfl (AG rfl (by assumption) ?_)))))))) <;> (refine AE rfl ?_; (refine W_neq rfl rfl (fun hc => ?_) (fun hc => ?_) <;> try omega)) <;> refine AE rfl (AB rfl ?_) <;> (first | refine AI rfl ?_ | (refine AE rfl ?_; refine AB rfl ?_)) <;> (first | refine AI rfl ?_ | (refine AE rfl ?_; refine A9 rfl ?_)) <;> (refine AE rfl ?_; ((first | refine AK rfl ?_ | refine AP rfl ?_); refine AB rfl ?_)) <;> refine AE rfl (AB rfl (AI rfl (AI rfl (AE rfl (AP rfl (AB rfl (AE rfl (AB rfl (AI rfl (AI rfl (AE rfl (AP rfl (AB rfl (AP rfl (AB rfl (AB rfl (AE rfl (AD rfl (AE rfl (AG rfl (by assumption) ?_)))))))))))))))))))) <;> (refine AE rfl ?_; (refine W_neq rfl rfl (fun hc => ?_) (fun hc => ?_) <;> try omega)) <;> refine AE rfl (AB rfl ?_) <;> (first | refine AI rfl ?_ | (refine AE rfl ?_; refine AB rfl ?_)) <;> (first | refine AI rfl ?_ | (refine AE rfl ?_; refine A9 rfl ?_)) <;> (refine AE rfl ?_; ((first | refine AK rfl ?_ | refine AP rfl ?_); refine AB rfl ?_)) <;> refine AP rfl (AB rfl (AJ ?_)))
        all_goals
         repeat refine nx rfl ?_
         exact An () ⟨rfl, congrArg Value.bool (by clear ih hf hS hFA hS' n1 b1 k1 hsz hal; simp [nodeR, numB0, *]), trivial⟩ kk
    ·refine AI rfl (AI rfl (AI rfl (AK rfl (AB rfl (AB rfl (AI rfl (AI rfl (AI rfl (AI rfl (AK rfl (AB rfl (AB rfl (AI rfl (AI rfl (AI rfl (AI rfl (AK rfl (AB rfl (AB rfl (AI rfl (AI rfl (AI rfl (AI rfl (AI rfl (AI rfl (AI rfl (AI rfl (AI rfl (AI rfl (AI rfl (AI rfl (AI rfl (AI rfl (AI rfl (AK rfl (AB rfl (AB rfl (AI rfl (AI rfl (AI rfl (AI rfl (AI rfl (AI rfl (AI rfl (AK rfl (AB rfl (AJ ?_)))))))))))))))))))))))))))))))))))))))))))))))
     all_goals
      repeat refine nx rfl ?_
      exact An () ⟨rfl, congrArg Value.bool (by clear ih hf hS hFA hS' n1 b1 k1 hsz hal; simp [nodeR, numB0, *]), trivial⟩ kk
   | false =>
    (refine A9 rfl (AB rfl (AE rfl (AB rfl (AE rfl (AD rfl (AE rfl (AG rfl (Blk.cell (by assumption) (by rfl)) ?_))))))) <;> (refine AE rfl ?_; refine W_sneq rfl rfl (fun hc => ?_) (fun hc => ?_)) <;> refine AE rfl (W_bneq rfl rfl (AP rfl (AB rfl (AB rfl ?_)))) <;> (first | refine AI rfl ?_ | (refine AE rfl ?_; refine AB rfl ?_)) <;> (first | refine AI rfl ?_ | (refine AE rfl ?_; refine AB rfl ?_)) <;> refine AI rfl (AI rfl ?_))
    ·refine AI rfl (AI rfl (AI rfl (AK rfl (AB rfl (AB rfl (AI rfl (AI rfl (AI rfl (AI rfl (AK rfl (AB rfl (AB rfl (AI rfl (AI rfl (AI rfl (AI rfl (AK rfl (AB rfl (AB rfl (AI rfl (AI rfl (AI rfl (AI rfl (AI rfl (AI rfl (AI rfl (AI rfl (AI rfl (AI rfl (AI rfl (AI rfl (AI rfl (AI rfl (AI rfl (AK rfl (AB rfl (AB rfl (AI rfl (AI rfl (AI rfl (AI rfl (AI rfl (AI rfl (AI rfl (AK rfl (AB rfl (AJ ?_)))))))))))))))))))))))))))))))))))))))))))))))
     all_goals
      repeat refine nx rfl ?_
      exact An () ⟨rfl, congrArg Value.bool (by clear ih hf hS hFA hS' n1 b1 k1 hsz hal; simp [nodeR, numB0, *]), trivial⟩ kk
    ·refine AI rfl ?_
     refine AI rfl (AE rfl (AP rfl (AB rfl (AP rfl (AB rfl (AB rfl (AE rfl (AD rfl (AE rfl (AG rfl (Blk.cell (by assumption) (by rfl)) ?_))))))))))
     refine AE rfl ?_
     refine AS (rnumber_ok _ f.val) rfl ?_
     rintro _ w3 ⟨rfl, rfl⟩
     generalize hV : numB f.val = bV
     cases bV with
     | false =>
      refine AE rfl (A9 rfl (AP rfl (AB rfl (AB rfl (AI rfl (AI rfl (AI rfl (AI rfl (AK rfl (AB rfl (AB rfl (AI rfl (AI rfl (AI rfl (AI rfl (AI rfl (AI rfl (AI rfl (AI rfl (AI rfl (AI rfl (AI rfl (AI rfl (AI rfl (AI rfl (AI rfl (AK rfl (AB rfl (AB rfl (AI rfl (AI rfl (AI rfl (AI rfl (AI rfl (AI rfl (AI rfl (AK rfl (AB rfl (AJ ?_)))))))))))))))))))))))))))))))))))))))
      all_goals
       repeat refine nx rfl ?_
       exact An () ⟨rfl, congrArg Value.bool (by clear ih hf hS hFA hS' n1 b1 k1 hsz hal; simp [nodeR, numB0, *]), trivial⟩ kk
     | true =>
      refine AE rfl (A9 rfl (AP rfl (AB rfl (AB rfl (AE rfl (AD rfl (AE rfl (AG rfl (Blk.cell (by assumption) (by rfl)) ?_))))))))
      refine AE rfl ?_
      refine AS (rnumber_ok _ f.bound) rfl ?_
      rintro _ w4 ⟨rfl, rfl⟩
      generalize hBd : numB f.bound = bBd
      cases bBd with
      | false =>
       refine AE rfl (A9 rfl (AP rfl (AB rfl (AB rfl (AI rfl (AI rfl (AI rfl (AI rfl (AI rfl (AI rfl (AI rfl (AI rfl (AI rfl (AI rfl (AI rfl (AI rfl (AI rfl (AI rfl (AI rfl (AK rfl (AB rfl (AB rfl (AI rfl (AI rfl (AI rfl (AI rfl (AI rfl (AI rfl (AI rfl (AK rfl (AB rfl (AJ ?_))))))))))))))))))))))))))))))))
       all_goals
        repeat refine nx rfl ?_
        exact An () ⟨rfl, congrArg Value.bool (by clear ih hf hS hFA hS' n1 b1 k1 hsz hal; simp [nodeR, numB0, *]), trivial⟩ kk
      | true =>
       cases bS <;> cases bL <;> cases bB
       all_goals
        (refine AE rfl (A9 rfl (AP rfl (AB rfl (AB rfl (AE rfl (AD rfl (AE rfl (AG rfl (Blk.cell (by assumption) (by rfl)) ?_)))))))) <;> (refine AE rfl ?_; (refine W_neq rfl rfl (fun hc => ?_) (fun hc => ?_) <;> try omega)) <;> refine AE rfl (AB rfl ?_) <;> (first | refine AI rfl ?_ | (refine AE rfl ?_; refine AB rfl ?_)) <;> (first | refine AI rfl ?_ | (refine AE rfl ?_; refine A9 rfl ?_)) <;> (refine AE rfl ?_; ((first | refine AK rfl ?_ | refine AP rfl ?_); refine AB rfl ?_)) <;> refine AE rfl (AB rfl ?_) <;> (first | refine AI rfl ?_ | (refine AE rfl ?_; refine AB rfl ?_)) <;> (first | refine AI rfl ?_ | (refine AE rfl ?_; refine A9 rfl ?_)) <;> (refine AE rfl ?_; ((first | refine AK rfl ?_ | refine AP rfl ?_); refine AB rfl ?_)) <;> refine AE rfl (AB rfl ?_) <;> (first | refine AI rfl ?_ | (refine AE rfl ?_; refine AB rfl ?_)) <;> (first | refine AI rfl ?_ | (refine AE rfl ?_; refine A9 rfl ?_)) <;> (refine AE rfl ?_; ((first | refine AK rfl ?_ | refine AP rfl ?_); refine AB rfl ?_)) <;> refine AP rfl (AB rfl (AB rfl ?_)) <;> (first | refine AI rfl ?_ | (refine AE rfl ?_; refine AD rfl ?_)) <;> (first | refine AI rfl ?_ | (refine AE rfl ?_; refine AG rfl (Blk.cell (by assumption) (by rfl)) ?_)) <;> (first | refine AI rfl ?_ | (refine AE rfl ?_; (refine W_neq rfl rfl (fun hc => ?_) (fun hc => ?_) <;> try omega))) <;> (first | refine AI rfl ?_ | (refine AE rfl ?_; refine AB rfl ?_)) <;> (first | refine AI rfl ?_ | (refine AE rfl ?_; refine AB rfl ?_)) <;> (first | refine AI rfl ?_ | (refine AE rfl ?_; refine A9 rfl ?_)) <;> (first | refine AI rfl ?_ | (refine AE rfl ?_; ((first | refine AK rfl ?_ | refine AP rfl ?_); refine AB rfl ?_))) <;> ((first | refine AK rfl ?_ | refine AP rfl ?_); refine AB rfl ?_) <;> refine AJ ?_)
       all_goals
        repeat refine nx rfl ?_
        exact An () ⟨rfl, congrArg Value.bool (by clear ih hf hS hFA hS' n1 b1 k1 hsz hal; simp [nodeR, numB0, *]), trivial⟩ kk
 rintro _ w5 f5 k5
 have b5 := b1.keep k5 (by simp)
 have d4 : w5.cell? ⟨w.heap.size, 0 + 4, none⟩ = some (.slice a f.args.length c) := b5.cell rfl
 generalize hnr : nodeR f = nr
 rw [nodeR_eq] at hnr
 cases nr with
 | false =>
  repeat refine nx rfl ?_
  refine AA (AC (AB rfl ?_))
  repeat refine nx rfl ?_
  exact AO rfl ⟨by rw [okF_eq, hnr]; rfl, k1.trans k5⟩
 | true =>
 repeat first | refine nx rfl ?_ | refine nf rfl ?_
 refine AA (AC (AF rfl ?_))
 repeat refine nx rfl ?_
 have k15 := k1.trans k5
 refine BJ (α := Nat) (fun k => [(1, pt w.heap.size), (7, .int .i64 (k : Int))]) (fun k W => k ≤ f.args.length ∧ okL (f.args.take k) = true ∧ Ext w5 W) (fun k => f.args.length - k) 0 ⟨rfl, rfl, trivial⟩ ⟨by simp, rfl, Ext.refl _⟩ ?_
 rintro k w6 f6 ⟨hk, hok, k6⟩
 have e4 := k6.cell d4 (by simp)
 repeat refine nx rfl ?_
 by_cases hlt : k < f.args.length
 ·(refine AA (AF rfl (AD rfl (AG rfl (by assumption) ?_))) <;> refine As rfl (BC rfl rfl (by omega) ?_))
  repeat refine nx rfl ?_
  obtain ⟨x, hx⟩ : ∃ x, f.args[k]? = some x := ⟨_, List.getElem?_eq_getElem hlt⟩
  obtain ⟨cx, hcx⟩ : ∃ cx, L[k]? = some cx := ⟨_, List.getElem?_eq_getElem (by rw [hFA.1]; exact hlt)⟩
  obtain ⟨ba, oa, rfl, hba, hcellx⟩ := hS.fml hFA.2.1 hcx hlt
  have hxm := szL_mem (List.mem_of_getElem? hx)
  have kw := k15.trans k6
  have hfx : FAt A0 w6 (.agg cx.toArray) x := (hFA.2.2 k cx x hcx hx).ext kw
  have hcx6 := hcellx.keep kw (by simp)
  (refine AA (AD rfl (AG rfl (by assumption) ?_)) <;> refine AF rfl ?_)
  refine CD (k := k) rfl rfl rfl (by omega) ?_
  refine Ac (L := cx) rfl (hFA.2.1 cx (List.mem_of_getElem? hcx)) hcx6 ?_
  refine AS (ih x (by omega) (by omega) w6 _ hfx) rfl ?_
  rintro _ w7 ⟨rfl, k7⟩
  generalize hox : okF x = ox
  refine A9 rfl ?_
  cases ox with
  | false =>
   rw [Bool.not_false]
   repeat refine nx rfl ?_
   refine AA (AC (AB rfl ?_))
   repeat refine nx rfl ?_
   refine AO rfl ⟨?_, (k15.trans k6).trans k7⟩
   have : okF f = false := by
    rw [okF_eq]
    cases hc2 : okL f.args with
    | false => simp
    | true => have := Bs hc2 x (List.mem_of_getElem? hx); rw [hox] at this; cases this
   rw [this]; rfl
  | true =>
   rw [Bool.not_true]
   repeat first | refine nx rfl ?_ | refine nf rfl ?_
   (refine AA (AF rfl (BK rfl rfl (by first | exact Am (by omega) (by omega) | exact At (by omega) (by omega) | exact Al (by omega) (by omega)) ?_)) <;> refine AC (AF rfl ?_))
   repeat refine nx rfl ?_
   refine ⟨k + 1, ⟨rfl, ⟨rfl, ?_, trivial⟩, ⟨hlt, ?_, k6.trans k7⟩⟩, by omega⟩
   ·show Value.int .i64 ((k : Int) + 1) = _
    rw [Int.natCast_add]; rfl
   ·have e : f.args.take (k + 1) = f.args.take k ++ [x] := by rw [List.take_add_one, hx]; rfl
    rw [e, okL_app, hok]
    simp [okL, hox]
 ·(refine AA (AF rfl (AD rfl (AG rfl (by assumption) ?_))) <;> refine As rfl (BA rfl rfl (by omega) ?_))
  repeat first | refine nx rfl ?_ | refine nf rfl ?_
  refine AA (AC (AB rfl ?_))
  repeat refine nx rfl ?_
  have e : k = f.args.length := by omega
  subst e
  rw [List.take_length] at hok
  exact AO rfl ⟨by rw [okF_eq, hnr, hok]; rfl, k15.trans k6⟩
end Go.Proofs.YtfcgdbmoncnibaaGreatDoor
namespace Go.Proofs.YtfcgdbmoncnibaaGreatDoor
open Go.RowKit
set_option linter.unusedVariables false
theorem prF_at (n : Nat) (f : Fml) : prF n f = if (Bh f.op).level < n then [40] ++ (prF 0 f ++ [41]) else prF 0 f := by
 cases f with
 | mk op nm v b args =>
  simp only [prF, Fml.op]
  rw [show decide ((Bh op).level < 0) = false by simp]
  by_cases h : (Bh op).level < n
  ·simp [wrapT, h]
  ·simp [wrapT, h]
end Go.Proofs.YtfcgdbmoncnibaaGreatDoor
namespace Go.Proofs.YtfcgdbmoncnibaaGreatDoor
open Go.RowKit
set_option linter.unusedVariables false
theorem req_parts {ok : Nat → Prop} {w : World} {d : List Value} {r : Rqm} (h : reqR.fits ok w d r) : ∃ d5 : List Value, d = [AL r.part, AL r.name, .int .i64 r.kind] ++ d5 ∧ d5.length = 5 ∧ FAt ok w (.agg d5.toArray) r.formula := h
theorem cells_drop {w : World} {b o : Nat} {l m : List Value} (h : Cells w b o (l ++ m)) {k : Nat} (hk : l.length = k) : Cells w b (o + k) m := by
 intro i u hu
 subst hk
 have := h (l.length + i) u (by rw [List.getElem?_append_right (by omega)]; simpa using hu)
 rw [← Nat.add_assoc] at this
 exact this
set_option maxHeartbeats 1600000 in
theorem rprintReq_ok (w : World) (d : List Value) (r : Rqm) (hr : reqR.fits A0 w d r) (hz : szF r.formula ≤ 1000000) : Fn Tryz.prog 55 [.agg d.toArray] w fun u w' => u = .bool (okRq r) ∧ Ext w w' := by
 obtain ⟨d5, rfl, hd5, hfa⟩ := req_parts hr
 refine Ab Tryz.func55 rfl Tryz.ntmps55 (Nat.le_of_ble_eq_true rfl) (by kernel_rfl) ?_
 repeat refine nx rfl ?_
 (refine AA ?_; refine Bq (L := [AL r.part, AL r.name, .int .i64 r.kind] ++ d5) rfl (fun w1 n1 => ?_))
 have b1 := n1.blk
 have k1 := n1.keep
 have c0 : w1.cell? ⟨w.heap.size, 0 + 0, none⟩ = some (AL r.part) := b1.cell rfl
 have c1 : w1.cell? ⟨w.heap.size, 0 + 1, none⟩ = some (AL r.name) := b1.cell rfl
 have c2 : w1.cell? ⟨w.heap.size, 0 + 2, none⟩ = some (.int .i64 r.kind) := b1.cell rfl
 have c3 : Cells w1 w.heap.size (0 + 3) d5 := cells_drop b1.cells rfl
 refine AC (AB rfl ?_)
 repeat refine nx rfl ?_
 repeat' first | refine AJ ?_ | refine DH ?_ | refine DP ?_
 by_cases hk : r.kind = 1 ∨ r.kind = 2
 ·have hkd : (decide (r.kind = 1) || decide (r.kind = 2)) = true := by simpa using hk
  have hnames : ∀ (fr : Fr) (ds : DS) (Q : Ce), True := fun _ _ _ => trivial
  clear hnames
  rcases hk with hk | hk
  all_goals
   (refine AA (AD rfl (AG rfl (Blk.cell (by assumption) (by rfl)) ?_)) <;> (refine B0 rfl rfl (fun hc => ?_) (fun hc => ?_) <;> try omega) <;> refine AB rfl ?_ <;> (first | refine AI rfl ?_ | (refine AE rfl ?_; refine AD rfl ?_)) <;> (first | refine AI rfl ?_ | (refine AE rfl ?_; refine AG rfl (Blk.cell (by assumption) (by rfl)) ?_)) <;> (first | refine AI rfl ?_ | (refine AE rfl ?_; refine Av rfl rfl (by omega) ?_)) <;> ((first | refine AK rfl ?_ | refine AP rfl ?_); refine AB rfl ?_) <;> refine AB rfl (AE rfl (AD rfl (AE rfl (AG rfl (Blk.cell (by assumption) (by rfl)) ?_)))))
   refine AE rfl ?_
   refine AS (refName_ok r.part w1) rfl ?_
   rintro _ w2 ⟨rfl, k2⟩
   have e1 := k2.cell c1 (by simp)
   have e3 := c3.keep k2 (by simp)
   clear c0 c1 c2
   generalize hp : BV r.part = bp
   cases bp with
   | false =>
    refine AK rfl (AB rfl (AB rfl (AI rfl (AI rfl (AI rfl (AP rfl (AB rfl (AB rfl (AI rfl (AI rfl (AI rfl (AP rfl (AB rfl (AC (AB rfl ?_)))))))))))))))
    repeat refine nx rfl ?_
    exact AO rfl ⟨congrArg Value.bool (by simp [okRq, okR, hp]), k1.trans k2⟩
   | true =>
    refine AK rfl (AB rfl (AB rfl (AE rfl (AD rfl (AE rfl (AG rfl (by assumption) ?_))))))
    refine AE rfl ?_
    refine AS (refName_ok r.name w2) rfl ?_
    rintro _ w3 ⟨rfl, k3⟩
    have e4 := e3.keep k3 (by simp)
    generalize hn : BV r.name = bn
    cases bn with
    | false =>
     refine AK rfl (AB rfl (AB rfl (AI rfl (AI rfl (AI rfl (AP rfl (AB rfl (AC (AB rfl ?_)))))))))
     repeat refine nx rfl ?_
     exact AO rfl ⟨congrArg Value.bool (by simp [okRq, okR, hn]), (k1.trans k2).trans k3⟩
    | true =>
     refine AK rfl (AB rfl (AB rfl (AE rfl (AD rfl ?_))))
     refine AE rfl (Ac (L := d5) rfl hd5 e4 ?_)
     refine AE rfl ?_
     refine AS (printable_ok _ r.formula (Nat.le_refl _) hz w3 _ (hfa.ext ((k1.trans k2).trans k3))) rfl ?_
     rintro _ w4 ⟨rfl, k4⟩
     refine AK rfl (AB rfl (AC (AB rfl ?_)))
     repeat refine nx rfl ?_
     exact AO rfl ⟨congrArg Value.bool (by simp only [okRq, okR, hkd, hp, hn, Bool.true_and]), ((k1.trans k2).trans k3).trans k4⟩
 ·have hk1 : ¬ r.kind = 1 := fun e => hk (.inl e)
  have hk2 : ¬ r.kind = 2 := fun e => hk (.inr e)
  (refine AA (AD rfl (AG rfl (Blk.cell (by assumption) (by rfl)) ?_)) <;> refine AN rfl rfl (by omega) (AB rfl (AE rfl (AD rfl (AE rfl (AG rfl (Blk.cell (by assumption) (by rfl)) ?_))))) <;> refine AE rfl (AN rfl rfl (by omega) (AP rfl (AB rfl (AB rfl (AI rfl (AI rfl ?_)))))))
  refine AI rfl (AP rfl (AB rfl (AB rfl (AI rfl (AI rfl (AI rfl (AP rfl (AB rfl (AB rfl (AI rfl (AI rfl (AI rfl (AP rfl (AB rfl (AC (AB rfl ?_))))))))))))))))
  repeat refine nx rfl ?_
  exact AO rfl ⟨congrArg Value.bool (by simp [okRq, okR, hk1, hk2]), k1⟩
end Go.Proofs.YtfcgdbmoncnibaaGreatDoor
namespace Go.Proofs.YtfcgdbmoncnibaaGreatDoor
open Go.RowKit
set_option linter.unusedVariables false
structure SpA (w : World) (b : Nat) (s : Spc) (sa ra : Option Addr) (sc rc : Nat) (LS LR : List (List Value)) : Prop where
 c0 : w.cell? ⟨b, 0 + 0, none⟩ = some (.slice sa s.sigs.length sc)
 c1 : w.cell? ⟨b, 0 + 1, none⟩ = some (.slice ra s.reqs.length rc)
 ss : Sl A0 w (.slice sa s.sigs.length sc) s.sigs.length LS.flatten
 sr : RsAt sgnR A0 w LS s.sigs
 rs : Sl A0 w (.slice ra s.reqs.length rc) s.reqs.length LR.flatten
 rr : RsAt reqR A0 w LR s.reqs
theorem SpA.ext {w w' : World} {b : Nat} {s : Spc} {sa ra : Option Addr} {sc rc : Nat} {LS LR : List (List Value)} (h : SpA w b s sa ra sc rc LS LR) (k : Ext w w') : SpA w' b s sa ra sc rc LS LR :=
 ⟨k.cell h.c0 (by simp), k.cell h.c1 (by simp), h.ss.ext k, h.sr.ext k, h.rs.ext k, h.rr.ext k⟩
theorem spc_cells {w : World} {c : List Value} {s : Spc} (h : spcR.fits A0 w c s) : ∃ sa sc ra rc LS LR, c = [.slice sa s.sigs.length sc, .slice ra s.reqs.length rc] ∧ ∀ w1, New w w1 28 c → SpA w1 w.heap.size s sa ra sc rc LS LR := by
 obtain ⟨sv, rv, rfl, ⟨sa, sc, LS, rfl, h1, h2⟩, ⟨ra, rc, LR, rfl, h3, h4⟩⟩ := h
 exact ⟨sa, sc, ra, rc, LS, LR, rfl, fun w1 n => ⟨n.blk.cell rfl, n.blk.cell rfl, h1.ext n.keep, h2.ext n.keep, h3.ext n.keep, h4.ext n.keep⟩⟩
theorem SpA.sig {w : World} {b k : Nat} {s : Spc} {sa ra : Option Addr} {sc rc : Nat} {LS LR : List (List Value)} {x : Sgn} (h : SpA w b s sa ra sc rc LS LR) (hx : s.sigs[k]? = some x) : ∃ bs os, sa = some ⟨bs, os, none⟩ ∧ Cells w bs (os + k * 3) (Cb x) := by
 have hlt := (List.getElem?_eq_some_iff.1 hx).1
 obtain ⟨d, hd⟩ : ∃ d, LS[k]? = some d := ⟨_, List.getElem?_eq_getElem (by rw [h.sr.1]; exact hlt)⟩
 obtain ⟨bs, os, e, _, hc⟩ := h.ss.row h.sr hd hlt
 have hdx : d = Cb x := h.sr.2 k d x hd hx
 subst hdx
 exact ⟨bs, os, e, hc⟩
theorem SpA.req {w : World} {b k : Nat} {s : Spc} {sa ra : Option Addr} {sc rc : Nat} {LS LR : List (List Value)} {r : Rqm} (h : SpA w b s sa ra sc rc LS LR) (hx : s.reqs[k]? = some r) : ∃ bs os d, sa = sa ∧ ra = some ⟨bs, os, none⟩ ∧ d.length = 8 ∧ Cells w bs (os + k * 8) d ∧ reqR.fits A0 w d r := by
 have hlt := (List.getElem?_eq_some_iff.1 hx).1
 obtain ⟨d, hd⟩ : ∃ d, LR[k]? = some d := ⟨_, List.getElem?_eq_getElem (by rw [h.rr.1]; exact hlt)⟩
 obtain ⟨bs, os, e, _, hc⟩ := h.rs.row h.rr hd hlt
 have hf := h.rr.2 k d r hd hx
 exact ⟨bs, os, d, rfl, e, reqR.len hf, hc, hf⟩
theorem szR_mem {l : List Rqm} {k : Nat} {r : Rqm} (h : l[k]? = some r) : szF r.formula + 4 ≤ szR l := by
 have := szR_take h
 have := szR_le l (k + 1)
 omega
theorem all_false {α : Type} {p : α → Bool} {l : List α} {k : Nat} {x : α} (hx : l[k]? = some x) (h : p x = false) : l.all p = false := by
 rw [← Bool.not_eq_true, List.all_eq_true]
 intro h2
 have := h2 x (List.mem_of_getElem? hx)
 rw [h] at this; cases this
theorem all_take_succ {α : Type} {p : α → Bool} {l : List α} {k : Nat} {x : α} (hx : l[k]? = some x) (h : (l.take k).all p = true) (hp : p x = true) : (l.take (k + 1)).all p = true := by
 rw [List.take_add_one, hx, List.all_append, h]; simp [hp]
set_option maxHeartbeats 1600000 in
theorem rprintSpec_ok (w : World) (c : List Value) (s : Spc) (hs : spcR.fits A0 w c s) (hz : szS s ≤ 1000000) : Fn Tryz.prog 22 [.agg c.toArray] w fun u w' => u = .bool (CL s) ∧ Ext w w' := by
 obtain ⟨sa, sc, ra, rc, LS, LR, rfl, hN⟩ := spc_cells hs
 have hsl : s.sigs.length ≤ 1000000 := by unfold szS at hz; omega
 have hrz : szR s.reqs ≤ 1000000 := by unfold szS at hz; omega
 have hrl := szR_len s.reqs
 refine Ab Tryz.func22 rfl Tryz.ntmps22 (Nat.le_of_ble_eq_true rfl) (by kernel_rfl) ?_
 repeat refine nx rfl ?_
 (refine AA ?_; refine Bq (L := [.slice sa s.sigs.length sc, .slice ra s.reqs.length rc]) rfl (fun w1 n1 => ?_))
 have hV := hN w1 n1
 have k1 := n1.keep
 refine AC (AB rfl ?_)
 repeat refine nx rfl ?_
 refine AA (AC (AF rfl (AJ ?_)))
 repeat' first | refine AJ ?_ | refine DH ?_ | refine DP ?_
 refine CE (α := Unit) (fun _ => [(1, pt w.heap.size)]) (fun _ W => s.sigs.all okS = true ∧ Ext w1 W) ?_ ?_
 ·repeat refine nx rfl ?_
  refine BJ (α := Nat) (fun k => [(1, pt w.heap.size), (3, .int .i64 (k : Int))]) (fun k W => k ≤ s.sigs.length ∧ (s.sigs.take k).all okS = true ∧ Ext w1 W) (fun k => s.sigs.length - k) 0 ⟨rfl, rfl, trivial⟩ ⟨by simp, by simp, Ext.refl _⟩ ?_
  rintro k w2 f2 ⟨hk, hok, k2⟩
  repeat refine nx rfl ?_
  have hV2 := hV.ext k2
  have c0 := hV2.c0
  by_cases hlt : k < s.sigs.length
  ·(refine AA (AF rfl (AD rfl (AG rfl (by assumption) ?_))) <;> refine As rfl (BC rfl rfl (by omega) ?_))
   repeat refine nx rfl ?_
   obtain ⟨x, hx⟩ : ∃ x, s.sigs[k]? = some x := ⟨_, List.getElem?_eq_getElem hlt⟩
   obtain ⟨bs, os, rfl, hcx⟩ := hV2.sig hx
   have x0 : w2.cell? ⟨bs, os + k * 3 + 0, none⟩ = some (AL x.name) := hcx 0 _ rfl
   have x2 : w2.cell? ⟨bs, os + k * 3 + 2, none⟩ = some (.int .i64 x.size) := hcx 2 _ rfl
   (refine AA (AD rfl (AG rfl (by assumption) ?_)) <;> refine AF rfl (CD rfl rfl rfl (by omega) (AD rfl (AG rfl (by assumption) ?_))))
   refine AS (refName_ok x.name w2) rfl ?_
   rintro _ w3 ⟨rfl, k3⟩
   have y0 := k3.cell c0 (by simp)
   have y2 := k3.cell x2 (by simp)
   clear c0 x0 x2
   generalize hn : BV x.name = bn
   refine A9 rfl ?_
   cases bn with
   | false =>
    rw [Bool.not_false]
    refine AB rfl (AI rfl (AI rfl (AI rfl (AI rfl (AI rfl (AI rfl (AI rfl (AI rfl (AK rfl (AB rfl ?_))))))))))
    repeat refine nx rfl ?_
    refine AA (AC (AB rfl ?_))
    repeat refine nx rfl ?_
    exact AO rfl ⟨by simp only [CL]; rw [all_false hx (p := okS) (by simp [okS, hn])]; rfl, (k1.trans k2).trans k3⟩
   | true =>
    rw [Bool.not_true]
    (refine AB rfl (AE rfl (AD rfl (AE rfl (AG rfl (by assumption) ?_)))) <;> refine AE rfl (AF rfl (AE rfl (CD rfl rfl rfl (by omega) (AE rfl (AD rfl (AE rfl (AG rfl (by assumption) ?_))))))))
    refine AE rfl ?_
    refine AS (rnumber_ok w3 x.size) rfl ?_
    rintro _ w4 ⟨rfl, rfl⟩
    generalize hb : numB x.size = bb
    refine AE rfl (A9 rfl ?_)
    cases bb with
    | false =>
     rw [Bool.not_false]
     refine AP rfl (AB rfl ?_)
     repeat refine nx rfl ?_
     refine AA (AC (AB rfl ?_))
     repeat refine nx rfl ?_
     exact AO rfl ⟨by simp only [CL]; rw [all_false hx (p := okS) (by simp [okS, hb])]; rfl, (k1.trans k2).trans k3⟩
    | true =>
     rw [Bool.not_true]
     refine AP rfl (AB rfl ?_)
     repeat first | refine nx rfl ?_ | refine nf rfl ?_
     (refine AA (AF rfl (BK rfl rfl (by first | exact Am (by omega) (by omega) | exact At (by omega) (by omega) | exact Al (by omega) (by omega)) ?_)) <;> refine AC (AF rfl ?_))
     repeat refine nx rfl ?_
     refine ⟨k + 1, ⟨rfl, ⟨rfl, ?_, trivial⟩, ⟨hlt, all_take_succ hx hok (by simp [okS, hn, hb]), k2.trans k3⟩⟩, by omega⟩
     show Value.int .i64 ((k : Int) + 1) = _
     rw [Int.natCast_add]; rfl
  ·(refine AA (AF rfl (AD rfl (AG rfl (by assumption) ?_))) <;> refine As rfl (BA rfl rfl (by omega) ?_))
   repeat first | refine nx rfl ?_ | refine nf rfl ?_
   rw [List.take_of_length_le (by omega)] at hok
   exact An () ⟨rfl, trivial⟩ ⟨hok, k2⟩
 rintro _ w2 f2 ⟨hsok, k2⟩
 repeat refine nx rfl ?_
 refine AA (AC (AF rfl ?_))
 repeat refine nx rfl ?_
 refine BJ (α := Nat) (fun k => [(1, pt w.heap.size), (4, .int .i64 (k : Int))]) (fun k W => k ≤ s.reqs.length ∧ (s.reqs.take k).all okRq = true ∧ Ext w1 W) (fun k => s.reqs.length - k) 0 ⟨rfl, rfl, trivial⟩ ⟨by simp, by simp, k2⟩ ?_
 clear k2
 rintro k w2 f2 ⟨hk, hok, k2⟩
 repeat refine nx rfl ?_
 have hV2 := hV.ext k2
 have c1 := hV2.c1
 by_cases hlt : k < s.reqs.length
 ·(refine AA (AF rfl (AD rfl (AG rfl (by assumption) ?_))) <;> refine As rfl (BC rfl rfl (by omega) ?_))
  repeat refine nx rfl ?_
  obtain ⟨r, hr⟩ : ∃ r, s.reqs[k]? = some r := ⟨_, List.getElem?_eq_getElem hlt⟩
  obtain ⟨bs, os, d, _, rfl, hd8, hcd, hfr⟩ := hV2.req hr
  have hzr := szR_mem hr
  (refine AA (AD rfl (AG rfl (by assumption) ?_)) <;> refine AF rfl ?_)
  refine CD (k := k) rfl rfl rfl (by omega) ?_
  refine Ac (L := d) rfl hd8 hcd ?_
  refine AS (rprintReq_ok w2 d r hfr (by omega)) rfl ?_
  rintro _ w3 ⟨rfl, k3⟩
  generalize hb : okRq r = bb
  refine A9 rfl ?_
  cases bb with
  | false =>
   rw [Bool.not_false]
   repeat refine nx rfl ?_
   refine AA (AC (AB rfl ?_))
   repeat refine nx rfl ?_
   exact AO rfl ⟨by simp only [CL]; rw [all_false hr (p := okRq) hb, Bool.and_false]; rfl, (k1.trans k2).trans k3⟩
  | true =>
   rw [Bool.not_true]
   repeat first | refine nx rfl ?_ | refine nf rfl ?_
   (refine AA (AF rfl (BK rfl rfl (by first | exact Am (by omega) (by omega) | exact At (by omega) (by omega) | exact Al (by omega) (by omega)) ?_)) <;> refine AC (AF rfl ?_))
   repeat refine nx rfl ?_
   refine ⟨k + 1, ⟨rfl, ⟨rfl, ?_, trivial⟩, ⟨hlt, all_take_succ hr hok hb, k2.trans k3⟩⟩, by omega⟩
   show Value.int .i64 ((k : Int) + 1) = _
   rw [Int.natCast_add]; rfl
 ·(refine AA (AF rfl (AD rfl (AG rfl (by assumption) ?_))) <;> refine As rfl (BA rfl rfl (by omega) ?_))
  repeat first | refine nx rfl ?_ | refine nf rfl ?_
  refine AA (AC (AB rfl ?_))
  repeat refine nx rfl ?_
  rw [List.take_of_length_le (by omega)] at hok
  exact AO rfl ⟨by simp only [CL, hsok, hok]; rfl, k1.trans k2⟩
end Go.Proofs.YtfcgdbmoncnibaaGreatDoor
namespace Go.Proofs.YtfcgdbmoncnibaaGreatDoor
open Go.RowKit
set_option linter.unusedVariables false
end Go.Proofs.YtfcgdbmoncnibaaGreatDoor
namespace Go.Proofs.YtfcgdbmoncnibaaGreatDoor
open Go.RowKit
set_option linter.unusedVariables false
theorem capped_ok : ∀ (N : Nat) (f : Fml), szF f ≤ N → ∀ (w : World) (v : Value) (l : Nat), l ≤ 1000000 → FAt A0 w v f → Fn Tryz.prog 41 [v, .int .i64 (l : Int)] w fun u w' => u = .int .i64 ((min (szF f) (l + 1) : Nat) : Int) ∧ Ext w w' := by
 intro N
 induction N with
 | zero => intro f hN; have := szF_pos f; omega
 | succ N ih =>
 intro f hN w v l hl hf
 obtain ⟨av, rfl, L, hS, hFA⟩ := hf.form
 obtain ⟨a, c, rfl, hS'⟩ := id hS
 have hcap : f.args.length ≤ 9223372036854775807 := by obtain ⟨h1, h2, _⟩ := hS'; omega
 have hsz := szF_eq f
 refine Ab Tryz.func41 rfl Tryz.ntmps41 (Nat.le_of_ble_eq_true rfl) (by kernel_rfl) ?_
 repeat refine nx rfl ?_
 (refine AA ?_; refine Bq (L := fcC f (.slice a f.args.length c)) rfl (fun w1 n1 => ?_))
 have b1 := n1.blk
 have k1 := n1.keep
 have c4 : w1.cell? ⟨w.heap.size, 0 + 4, none⟩ = some (.slice a f.args.length c) := b1.cell rfl
 refine AC (AF rfl ?_)
 repeat refine nx rfl ?_
 refine AA (AC (AF rfl ?_))
 repeat refine nx rfl ?_
 refine AA (AC (AF rfl ?_))
 repeat refine nx rfl ?_
 refine BJ (α := Nat) (fun k => [(1, .int .i64 (l : Int)), (2, pt w.heap.size), (5, .int .i64 ((min (1 + szL (f.args.take k)) (l + 1) : Nat) : Int)), (6, .int .i64 (k : Int))]) (fun k W => k ≤ f.args.length ∧ Ext w1 W) (fun k => f.args.length - k) 0 ⟨rfl, rfl, congrArg (Value.int .i64) (by simp [szL]; try omega), rfl, trivial⟩ ⟨by simp, Ext.refl _⟩ ?_
 rintro k w2 f2 ⟨hk, k2⟩
 have e4 := k2.cell c4 (by simp)
 have kw := k1.trans k2
 have htl : szL (f.args.take k) ≤ szL f.args := by
  have : ∀ l m : List Fml, szL (l ++ m) = szL l + szL m := by
   intro l
   induction l with
   | nil => intro m; simp [szL]
   | cons a l ih2 => intro m; simp only [List.cons_append, szL, ih2 m]; omega
  have h2 := this (f.args.take k) (f.args.drop k)
  rw [List.take_append_drop] at h2
  omega
 repeat refine nx rfl ?_
 generalize hn : min (1 + szL (f.args.take k)) (l + 1) = n
 by_cases hlt : k < f.args.length
 ·by_cases hnl : n ≤ l
  ·(refine AA (AF rfl (AD rfl (AG rfl (by assumption) ?_))) <;> refine As rfl (BC rfl rfl (by omega) (AB rfl (AE rfl (AF rfl (AE rfl (AF rfl (AE rfl (C2 rfl rfl (by omega) (AK rfl (AB rfl ?_)))))))))))
   repeat refine nx rfl ?_
   obtain ⟨x, hx⟩ : ∃ x, f.args[k]? = some x := ⟨_, List.getElem?_eq_getElem hlt⟩
   obtain ⟨cx, hcx⟩ : ∃ cx, L[k]? = some cx := ⟨_, List.getElem?_eq_getElem (by rw [hFA.1]; exact hlt)⟩
   obtain ⟨ba, oa, rfl, hba, hcellx⟩ := hS.fml hFA.2.1 hcx hlt
   have hxm := szL_mem (List.mem_of_getElem? hx)
   have hfx : FAt A0 w2 (.agg cx.toArray) x := (hFA.2.2 k cx x hcx hx).ext kw
   have hcx2 := hcellx.keep kw (by simp)
   have htk : szL (f.args.take (k + 1)) = szL (f.args.take k) + szF x := by
    rw [List.take_add_one, hx]
    have : ∀ l : List Fml, szL (l ++ [x]) = szL l + szF x := by
     intro l
     induction l with
     | nil => simp [szL]
     | cons a l ih2 => simp only [List.cons_append, szL, ih2]; omega
    exact this _
   (refine AA (AF rfl (AD rfl (AG rfl (by assumption) ?_))) <;> refine AF rfl ?_)
   refine CD (k := k) rfl rfl rfl (by omega) ?_
   refine Ac (L := cx) rfl (hFA.2.1 cx (List.mem_of_getElem? hcx)) hcx2 ?_
   refine AF rfl (AF rfl (W_sub rfl rfl (by first | exact Am (by omega) (by omega) | exact At (by omega) (by omega) | exact Al (by omega) (by omega)) ?_))
   have esub : (l : Int) - (n : Int) = ((l - n : Nat) : Int) := by omega
   rw [esub]
   refine AS (ih x (by omega) w2 _ (l - n) (by omega) hfx) rfl ?_
   rintro _ w3 ⟨rfl, k3⟩
   have hmin : min (szF x) (l - n + 1) ≤ l + 1 := by omega
   (refine BK rfl rfl (by first | exact Am (by omega) (by omega) | exact At (by omega) (by omega) | exact Al (by omega) (by omega)) ?_ <;> refine AC (AF rfl ?_))
   repeat refine nx rfl ?_
   (refine AA (AF rfl (BK rfl rfl (by first | exact Am (by omega) (by omega) | exact At (by omega) (by omega) | exact Al (by omega) (by omega)) ?_)) <;> refine AC (AF rfl ?_))
   repeat refine nx rfl ?_
   refine ⟨k + 1, ⟨rfl, ⟨rfl, rfl, ?_, ?_, trivial⟩, ⟨hlt, k2.trans k3⟩⟩, by omega⟩
   ·refine congrArg (Value.int .i64) ?_
    rw [htk]
    show (n : Int) + ((min (szF x) (l - n + 1) : Nat) : Int) = _
    omega
   ·show Value.int .i64 ((k : Int) + 1) = _
    rw [Int.natCast_add]; rfl
  ·(refine AA (AF rfl (AD rfl (AG rfl (by assumption) ?_))) <;> refine As rfl (BC rfl rfl (by omega) (AB rfl (AE rfl (AF rfl (AE rfl (AF rfl (AE rfl (DM rfl rfl (by omega) (AK rfl (AB rfl ?_)))))))))))
   repeat first | refine nx rfl ?_ | refine nf rfl ?_
   refine AA (AF rfl (AC (AF rfl ?_)))
   repeat refine nx rfl ?_
   refine AO rfl ⟨congrArg (Value.int .i64) ?_, kw⟩
   omega
 ·have e : k = f.args.length := by omega
  subst e
  rw [List.take_length] at hn
  (refine AA (AF rfl (AD rfl (AG rfl (by assumption) ?_))) <;> refine As rfl (BA rfl rfl (by omega) (AB rfl (AI rfl (AI rfl (AI rfl (AP rfl (AB rfl ?_))))))))
  repeat first | refine nx rfl ?_ | refine nf rfl ?_
  refine AA (AF rfl (AC (AF rfl ?_)))
  repeat refine nx rfl ?_
  refine AO rfl ⟨congrArg (Value.int .i64) ?_, kw⟩
  omega
theorem rsmall_ok (w : World) (v : Value) (f : Fml) (l : Nat) (hl : l ≤ 1000000) (hf : FAt A0 w v f) : Fn Tryz.prog 11 [v, .int .i64 (l : Int)] w fun u w' => u = .bool (decide (szF f ≤ l)) ∧ Ext w w' := by
 obtain ⟨av, rfl, L, hS, hFA⟩ := hf.form
 refine Ab Tryz.func11 rfl Tryz.ntmps11 (Nat.le_of_ble_eq_true rfl) (by kernel_rfl) ?_
 repeat refine nx rfl ?_
 (refine AA ?_; refine Bq (L := fcC f av) rfl (fun w1 n1 => ?_))
 have b1 := n1.blk
 have k1 := n1.keep
 refine AC (AB rfl ?_)
 repeat refine nx rfl ?_
 refine AA (AX (L := fcC f av) rfl b1 rfl ?_)
 refine AF rfl ?_
 refine AS (capped_ok _ f (Nat.le_refl _) w1 _ l hl (hf.ext k1)) rfl ?_
 rintro _ w2 ⟨rfl, k2⟩
 by_cases h : szF f ≤ l
 ·refine AF rfl (C2 rfl rfl (by omega) (AC (AB rfl ?_)))
  repeat refine nx rfl ?_
  exact AO rfl ⟨congrArg Value.bool (by simp [h]), k1.trans k2⟩
 ·refine AF rfl (DM rfl rfl (by omega) (AC (AB rfl ?_)))
  repeat refine nx rfl ?_
  exact AO rfl ⟨congrArg Value.bool (by simp [h]), k1.trans k2⟩
def smR (r : Rqm) (l : Nat) : Bool := decide (r.name.length ≤ 100) && decide (r.part.length ≤ 100) && decide (szF r.formula ≤ l)
theorem rsmallReq_ok (w : World) (d : List Value) (r : Rqm) (l : Nat) (hl : l ≤ 1000000) (hr : reqR.fits A0 w d r) : Fn Tryz.prog 13 [.agg d.toArray, .int .i64 (l : Int)] w fun u w' => u = .bool (smR r l) ∧ Ext w w' := by
 obtain ⟨d5, rfl, hd5, hfa⟩ := req_parts hr
 refine Ab Tryz.func13 rfl Tryz.ntmps13 (Nat.le_of_ble_eq_true rfl) (by kernel_rfl) ?_
 repeat refine nx rfl ?_
 (refine AA ?_; refine Bq (L := [AL r.part, AL r.name, .int .i64 r.kind] ++ d5) rfl (fun w1 n1 => ?_))
 have b1 := n1.blk
 have k1 := n1.keep
 have c0 : w1.cell? ⟨w.heap.size, 0 + 0, none⟩ = some (AL r.part) := b1.cell rfl
 have c1 : w1.cell? ⟨w.heap.size, 0 + 1, none⟩ = some (AL r.name) := b1.cell rfl
 have c3 : Cells w1 w.heap.size (0 + 3) d5 := cells_drop b1.cells rfl
 refine AC (AB rfl ?_)
 repeat refine nx rfl ?_
 by_cases h1 : r.name.length ≤ 100
 ·by_cases h2 : r.part.length ≤ 100
  ·(refine AA (AD rfl (AG rfl (Blk.cell (by assumption) (by rfl)) ?_)) <;> refine Au rfl (C2 rfl rfl (by omega) (AB rfl (AE rfl (AD rfl (AE rfl (AG rfl (Blk.cell (by assumption) (by rfl)) ?_)))))) <;> refine AE rfl (Au rfl (AE rfl (C2 rfl rfl (by omega) (AK rfl (AB rfl (AB rfl (AE rfl (AD rfl ?_)))))))))
   refine AE rfl (Ac (L := d5) rfl hd5 c3 ?_)
   refine AE rfl (AF rfl ?_)
   refine AE rfl ?_
   refine AS (rsmall_ok w1 _ r.formula l hl (hfa.ext k1)) rfl ?_
   rintro _ w2 ⟨rfl, k2⟩
   refine AK rfl (AB rfl (AC (AB rfl ?_)))
   repeat refine nx rfl ?_
   exact AO rfl ⟨congrArg Value.bool (by simp [smR, h1, h2]), k1.trans k2⟩
  ·(refine AA (AD rfl (AG rfl (Blk.cell (by assumption) (by rfl)) ?_)) <;> refine Au rfl (C2 rfl rfl (by omega) (AB rfl (AE rfl (AD rfl (AE rfl (AG rfl (Blk.cell (by assumption) (by rfl)) ?_)))))) <;> refine AE rfl (Au rfl (AE rfl (DM rfl rfl (by omega) (AK rfl (AB rfl (AB rfl (AI rfl ?_))))))))
   refine AI rfl (AI rfl (AI rfl (AP rfl (AB rfl (AC (AB rfl ?_))))))
   repeat refine nx rfl ?_
   exact AO rfl ⟨congrArg Value.bool (by simp [smR, h2]), k1⟩
 ·(refine AA (AD rfl (AG rfl (Blk.cell (by assumption) (by rfl)) ?_)) <;> refine Au rfl (DM rfl rfl (by omega) (AB rfl (AI rfl (AI rfl (AI rfl (AI rfl (AP rfl (AB rfl (AB rfl (AI rfl ?_)))))))))))
  refine AI rfl (AI rfl (AI rfl (AP rfl (AB rfl (AC (AB rfl ?_))))))
  repeat refine nx rfl ?_
  exact AO rfl ⟨congrArg Value.bool (by simp [smR, h1]), k1⟩
def smS (s : Spc) (l : Nat) : Bool := decide (s.sigs.length ≤ 10) && decide (s.reqs.length ≤ 20) && s.sigs.all (fun x => decide (x.name.length ≤ 100)) && s.reqs.all fun r => smR r l
set_option maxHeartbeats 1600000 in
theorem rsmallSpec_ok (w : World) (c : List Value) (s : Spc) (l : Nat) (hl : l ≤ 1000000) (hs : spcR.fits A0 w c s) : Fn Tryz.prog 12 [.agg c.toArray, .int .i64 (l : Int)] w fun u w' => u = .bool (smS s l) ∧ Ext w w' := by
 obtain ⟨sa, sc, ra, rc, LS, LR, rfl, hN⟩ := spc_cells hs
 refine Ab Tryz.func12 rfl Tryz.ntmps12 (Nat.le_of_ble_eq_true rfl) (by kernel_rfl) ?_
 repeat refine nx rfl ?_
 (refine AA ?_; refine Bq (L := [.slice sa s.sigs.length sc, .slice ra s.reqs.length rc]) rfl (fun w1 n1 => ?_))
 have hV := hN w1 n1
 have k1 := n1.keep
 have c0 := hV.c0
 have c1 := hV.c1
 refine AC (AB rfl ?_)
 repeat refine nx rfl ?_
 by_cases h1 : s.sigs.length ≤ 10
 rotate_left
 ·(refine AA (AD rfl (AG rfl (by assumption) ?_)) <;> refine As rfl (DI rfl rfl (by omega) (AB rfl (AI rfl (AI rfl (AI rfl (AI rfl (AK rfl (AB rfl ?_)))))))))
  repeat refine nx rfl ?_
  refine AA (AC (AB rfl ?_))
  repeat refine nx rfl ?_
  exact AO rfl ⟨congrArg Value.bool (by simp [smS, h1]), k1⟩
 by_cases h2 : s.reqs.length ≤ 20
 rotate_left
 ·(refine AA (AD rfl (AG rfl (by assumption) ?_)) <;> refine As rfl (DF rfl rfl (by omega) (AB rfl (AE rfl (AD rfl (AE rfl (AG rfl (by assumption) ?_)))))) <;> refine AE rfl (As rfl (AE rfl (DI rfl rfl (by omega) (AP rfl (AB rfl ?_))))))
  repeat refine nx rfl ?_
  refine AA (AC (AB rfl ?_))
  repeat refine nx rfl ?_
  exact AO rfl ⟨congrArg Value.bool (by simp [smS, h2]), k1⟩
 (refine AA (AD rfl (AG rfl (by assumption) ?_)) <;> refine As rfl (DF rfl rfl (by omega) (AB rfl (AE rfl (AD rfl (AE rfl (AG rfl (by assumption) ?_)))))) <;> refine AE rfl (As rfl (AE rfl (DF rfl rfl (by omega) (AP rfl (AB rfl ?_))))))
 repeat first | refine nx rfl ?_ | refine nf rfl ?_
 refine AA (AC (AF rfl (AJ ?_)))
 repeat' first | refine AJ ?_ | refine DH ?_ | refine DP ?_
 refine CE (α := Unit) (fun _ => [(1, .int .i64 (l : Int)), (2, pt w.heap.size)]) (fun _ W => s.sigs.all (fun x => decide (x.name.length ≤ 100)) = true ∧ Ext w1 W) ?_ ?_
 ·repeat refine nx rfl ?_
  refine BJ (α := Nat) (fun k => [(1, .int .i64 (l : Int)), (2, pt w.heap.size), (5, .int .i64 (k : Int))]) (fun k W => k ≤ s.sigs.length ∧ (s.sigs.take k).all (fun x => decide (x.name.length ≤ 100)) = true ∧ Ext w1 W) (fun k => s.sigs.length - k) 0 ⟨rfl, rfl, rfl, trivial⟩ ⟨by simp, by simp, Ext.refl _⟩ ?_
  rintro k w2 f2 ⟨hk, hok, k2⟩
  repeat refine nx rfl ?_
  have hV2 := hV.ext k2
  have e0 := hV2.c0
  by_cases hlt : k < s.sigs.length
  ·(refine AA (AF rfl (AD rfl (AG rfl (by assumption) ?_))) <;> refine As rfl (BC rfl rfl (by omega) ?_))
   repeat refine nx rfl ?_
   obtain ⟨x, hx⟩ : ∃ x, s.sigs[k]? = some x := ⟨_, List.getElem?_eq_getElem hlt⟩
   obtain ⟨bs, os, rfl, hcx⟩ := hV2.sig hx
   have x0 : w2.cell? ⟨bs, os + k * 3 + 0, none⟩ = some (AL x.name) := hcx 0 _ rfl
   by_cases hn : x.name.length ≤ 100
   ·(refine AA (AD rfl (AG rfl (by assumption) ?_)) <;> refine AF rfl (CD rfl rfl rfl (by omega) (AD rfl (AG rfl (by assumption) ?_))) <;> refine Au rfl (DF rfl rfl (by omega) ?_))
    repeat first | refine nx rfl ?_ | refine nf rfl ?_
    (refine AA (AF rfl (BK rfl rfl (by first | exact Am (by omega) (by omega) | exact At (by omega) (by omega) | exact Al (by omega) (by omega)) ?_)) <;> refine AC (AF rfl ?_))
    repeat refine nx rfl ?_
    refine ⟨k + 1, ⟨rfl, ⟨rfl, rfl, ?_, trivial⟩, ⟨hlt, all_take_succ hx hok (by simp [hn]), k2⟩⟩, by omega⟩
    show Value.int .i64 ((k : Int) + 1) = _
    rw [Int.natCast_add]; rfl
   ·(refine AA (AD rfl (AG rfl (by assumption) ?_)) <;> refine AF rfl (CD rfl rfl rfl (by omega) (AD rfl (AG rfl (by assumption) ?_))) <;> refine Au rfl (DI rfl rfl (by omega) ?_))
    repeat refine nx rfl ?_
    refine AA (AC (AB rfl ?_))
    repeat refine nx rfl ?_
    exact AO rfl ⟨congrArg Value.bool (by simp only [smS]; rw [all_false hx (p := fun x => decide (x.name.length ≤ 100)) (by simp [hn])]; simp), k1.trans k2⟩
  ·(refine AA (AF rfl (AD rfl (AG rfl (by assumption) ?_))) <;> refine As rfl (BA rfl rfl (by omega) ?_))
   repeat first | refine nx rfl ?_ | refine nf rfl ?_
   rw [List.take_of_length_le (by omega)] at hok
   exact An () ⟨rfl, rfl, trivial⟩ ⟨hok, k2⟩
 rintro _ w2 f2 ⟨hsok, k2⟩
 repeat refine nx rfl ?_
 refine AA (AC (AF rfl ?_))
 repeat refine nx rfl ?_
 refine BJ (α := Nat) (fun k => [(1, .int .i64 (l : Int)), (2, pt w.heap.size), (6, .int .i64 (k : Int))]) (fun k W => k ≤ s.reqs.length ∧ (s.reqs.take k).all (fun r => smR r l) = true ∧ Ext w1 W) (fun k => s.reqs.length - k) 0 ⟨rfl, rfl, rfl, trivial⟩ ⟨by simp, by simp, k2⟩ ?_
 clear k2
 rintro k w2 f2 ⟨hk, hok, k2⟩
 repeat refine nx rfl ?_
 have hV2 := hV.ext k2
 have e1 := hV2.c1
 by_cases hlt : k < s.reqs.length
 ·(refine AA (AF rfl (AD rfl (AG rfl (by assumption) ?_))) <;> refine As rfl (BC rfl rfl (by omega) ?_))
  repeat refine nx rfl ?_
  obtain ⟨r, hr⟩ : ∃ r, s.reqs[k]? = some r := ⟨_, List.getElem?_eq_getElem hlt⟩
  obtain ⟨bs, os, d, _, rfl, hd8, hcd, hfr⟩ := hV2.req hr
  (refine AA (AD rfl (AG rfl (by assumption) ?_)) <;> refine AF rfl ?_)
  refine CD (k := k) rfl rfl rfl (by omega) ?_
  refine Ac (L := d) rfl hd8 hcd ?_
  refine AF rfl ?_
  refine AS (rsmallReq_ok w2 d r l hl hfr) rfl ?_
  rintro _ w3 ⟨rfl, k3⟩
  generalize hb : smR r l = bb
  refine A9 rfl ?_
  cases bb with
  | false =>
   rw [Bool.not_false]
   repeat refine nx rfl ?_
   refine AA (AC (AB rfl ?_))
   repeat refine nx rfl ?_
   exact AO rfl ⟨congrArg Value.bool (by simp only [smS]; rw [all_false hr (p := fun r => smR r l) hb]; simp), (k1.trans k2).trans k3⟩
  | true =>
   rw [Bool.not_true]
   repeat first | refine nx rfl ?_ | refine nf rfl ?_
   (refine AA (AF rfl (BK rfl rfl (by first | exact Am (by omega) (by omega) | exact At (by omega) (by omega) | exact Al (by omega) (by omega)) ?_)) <;> refine AC (AF rfl ?_))
   repeat refine nx rfl ?_
   refine ⟨k + 1, ⟨rfl, ⟨rfl, rfl, ?_, trivial⟩, ⟨hlt, all_take_succ hr hok hb, k2.trans k3⟩⟩, by omega⟩
   show Value.int .i64 ((k : Int) + 1) = _
   rw [Int.natCast_add]; rfl
 ·(refine AA (AF rfl (AD rfl (AG rfl (by assumption) ?_))) <;> refine As rfl (BA rfl rfl (by omega) ?_))
  repeat first | refine nx rfl ?_ | refine nf rfl ?_
  refine AA (AC (AB rfl ?_))
  repeat refine nx rfl ?_
  rw [List.take_of_length_le (by omega)] at hok
  exact AO rfl ⟨congrArg Value.bool (by simp only [smS, hsok, hok, decide_eq_true h1, decide_eq_true h2]; rfl), k1.trans k2⟩
theorem smS_sz {s : Spc} {l : Nat} (h : smS s l = true) : szS s ≤ 10 + 20 * (l + 4) := by
 simp only [smS, Bool.and_eq_true, decide_eq_true_eq] at h
 obtain ⟨⟨⟨h1, h2⟩, _⟩, h4⟩ := h
 have : ∀ rs : List Rqm, rs.all (fun r => smR r l) = true → szR rs ≤ rs.length * (l + 4) := by
  intro rs
  induction rs with
  | nil => intro _; simp [szR]
  | cons r rs ih =>
   intro h
   rw [List.all_cons, Bool.and_eq_true] at h
   have h5 := h.1
   simp only [smR, Bool.and_eq_true, decide_eq_true_eq] at h5
   have := ih h.2
   simp only [szR, List.map_cons, List.sum_cons, List.length_cons, Nat.add_mul, Nat.one_mul] at this ⊢
   omega
 have h5 := this _ h4
 have : s.reqs.length * (l + 4) ≤ 20 * (l + 4) := Nat.mul_le_mul_right _ h2
 unfold szS
 omega
end Go.Proofs.YtfcgdbmoncnibaaGreatDoor
namespace Go.Proofs.YtfcgdbmoncnibaaGreatDoor
open Go.RowKit
set_option linter.unusedVariables false
end Go.Proofs.YtfcgdbmoncnibaaGreatDoor
namespace Go.Proofs.YtfcgdbmoncnibaaGreatDoor
set_option linter.unusedVariables false
theorem whole_run {nt : NT} {l : List Tok} {v : nt.T} (h : RunN nt l (.ok (v, []))) : Run (whole nt) l (.ok (v, [])) := Run.call h (Run.look (Run.ret _ _))
theorem bare_run {nt : NT} {A B : List Tok} {v : nt.T} (h : RunN nt A (.ok (v, []))) (hb : B.map bare = A.map bare) : RunN nt B (.ok (v, [])) := by
 obtain ⟨r, h1, h2⟩ := Run.bare hb.symm h
 cases r with
 | error e => exact h2.elim
 | ok z =>
  obtain ⟨u, l⟩ := z
  obtain ⟨e1, e2⟩ := h2
  have hl : l = [] := List.map_eq_nil_iff.1 e2.symm
  have hv : v = u := e1
  subst hl; subst hv
  exact h1
theorem read_res {nt : NT} {s : List UInt8} {bs : List BT} {v : nt.T} (h : ReadL s bs) (hr : RunN nt (BF bs) (.ok (v, []))) : (∃ p, DK s = .error (2, p)) ∨ PRes nt s (.ok v) := by
 rcases h.lex with ⟨us, e, h1⟩ | h1
 ·refine .inr ?_
  unfold PRes; rw [h1]
  exact ⟨.ok (v, []), whole_run (bare_run hr (by rw [e, toks_bare])), rfl⟩
 ·exact .inl h1
theorem fml_read {f : Fml} (hok : okF f = true) : ReadL (prF 0 f) (tkF 0 f) := by
 have := (readsF _ f (Nat.le_refl _) hok 0 [] [] .nil ⟨rfl, by simp⟩).1
 rwa [List.append_nil, List.append_nil] at this
theorem fml_ne {f : Fml} (hok : okF f = true) : prF 0 f ≠ [] := by
 intro e
 have h := fml_read hok
 rw [e] at h
 obtain ⟨x, t, ht, _⟩ := tk_head _ f 0 (Nat.le_refl _) hok
 rw [ht] at h
 have := h.det ReadL.nil rfl
 cases this
theorem spc_read {s : Spc} (hok : CL s = true) : ReadL (spcT s) (spcK s) := by
 have := spc_reads hok .nil
 rwa [List.append_nil, List.append_nil] at this
theorem spc_both {s : Spc} {l : List Rqm} (hs : CL s = true) (hl : CL ⟨[], l⟩ = true) : (∃ p, DK (spcT s ++ spcT ⟨[], l⟩) = .error (2, p)) ∨ PRes .spec (spcT s ++ spcT ⟨[], l⟩) (.ok ⟨s.sigs, s.reqs ++ l⟩) := by
 have h1 := spc_reads hs (spc_read hl)
 have h2 : l.all okRq = true := by simpa [CL] using hl
 refine read_res (nt := .spec) h1 ?_
 have h3 := spc_run2 hs h2
 have e : BF (spcK s ++ spcK ⟨[], l⟩) = BF (spcK s) ++ BF (itR oK mK cK none l) := by simp [BF, spcK]
 rw [e]; exact h3
end Go.Proofs.YtfcgdbmoncnibaaGreatDoor
