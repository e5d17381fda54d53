/- The reference: names. The reference printer: numbers, operators, signs. The reference printer: what can be printed. The printer's plain law: the tokens of a formula are parsed to it. The printer's plain law: a formula's tokens are parsed to it, whatever it is. The reference printer: the text of a formula. The reference printer: requirements, edits. Conditions: none. -/
import Derived.Test.YtfcgdbmoncnibaaGreatDoorZB11

namespace Go.Proofs.YtfcgdbmoncnibaaGreatDoor
open Go.RowKit
set_option linter.unusedVariables false
variable {mk : Prop} [MK mk]
theorem in_ok (w : World) (v : Value) (l : List (List UInt8)) (s : List UInt8) (hT : Sl A2 w v l.length (l.map AM)) : Fn Tryz.prog 86 [v, AM s] w fun v w' => v = .bool (decide (s ∈ l)) ∧ w' = w := by
 obtain ⟨a, c, rfl, hc1, hc2, _, hcc⟩ := hT
 refine Ac Tryz.func86 rfl Tryz.ntmps86 (Nat.le_of_ble_eq_true rfl) (by kernel_rfl) ?_
 repeat' first | refine nx rfl ?_ | fail
 refine AA (AC (AB rfl ?_))
 repeat' first | refine nx rfl ?_ | fail
 refine AA (AC (AI rfl ?_))
 repeat' first | refine nx rfl ?_ | fail
 refine BC (α := Nat) (fun k => [(0, .slice a l.length c), (1, AM s), (5, .int .i64 (k : Int))]) (fun k W => k ≤ l.length ∧ s ∉ l.take k ∧ W = w) (fun k => l.length - k) 0 ⟨rfl, rfl, rfl, trivial⟩ ⟨by omega, by simp, rfl⟩ ?_
 rintro k w2 f2 ⟨hk, hn, rfl⟩
 repeat' first | refine nx rfl ?_ | fail
 by_cases hlt : k < l.length
 ·obtain ⟨b, o, rfl, _, hcell⟩ := hcc.resolve_left (by omega)
  obtain ⟨y, hy⟩ : ∃ y, l[k]? = some y := ⟨_, List.getElem?_eq_getElem hlt⟩
  have hyc : w2.cell? ⟨b, o + k, none⟩ = some (AM y) := hcell k _ (by simp [hy])
  have ht1 : l.take (k + 1) = l.take k ++ [y] := by rw [List.take_add_one, hy]; rfl
  (refine AA (AI rfl (Al rfl (Aq rfl ?_))) <;> (refine As rfl rfl (fun hc => ?_) (fun hc => ?_) <;> try omega))
  repeat' first | refine nx rfl ?_ | fail
  by_cases hys : y = s
  ·(refine AA (Al rfl (AI rfl ?_)) <;> refine W_idx1 rfl rfl rfl (by omega) ?_ <;> refine AG rfl (by assumption) ?_ <;> refine Ab rfl ?_ <;> refine Bu rfl rfl (fun hc => ?_) (fun hc => ?_) <;> refine AE ?_)
   case refine_2 => exact absurd hys (by assumption)
   repeat' first | refine nx rfl ?_ | fail
   refine AA (AC (AB rfl ?_))
   repeat' first | refine nx rfl ?_ | fail
   exact AP rfl ⟨by rw [decide_eq_true (List.mem_of_getElem? (hys ▸ hy) : s ∈ l)]; rfl, rfl⟩
  ·(refine AA (Al rfl (AI rfl ?_)) <;> refine W_idx1 rfl rfl rfl (by omega) ?_ <;> refine AG rfl (by assumption) ?_ <;> refine Ab rfl ?_ <;> refine Bu rfl rfl (fun hc => ?_) (fun hc => ?_) <;> refine AE ?_)
   case refine_1 => exact absurd (by assumption) hys
   repeat' first | refine nx rfl ?_ | refine nf rfl ?_
   (refine AA (AI rfl ?_) <;> refine BB rfl rfl (by first | exact Ak (by omega) (by omega) | exact Ar (by omega) (by omega) | exact Aj (by omega) (by omega)) ?_ <;> refine AC (AI rfl ?_))
   repeat' first | refine nx rfl ?_ | fail
   refine ⟨k + 1, ⟨rfl, ⟨rfl, rfl, ?_, trivial⟩, ⟨by omega, by rw [ht1]; simp [hn]; exact fun e => hys e.symm, rfl⟩⟩, by omega⟩
   show Value.int .i64 ((k : Int) + 1) = _
   rw [Int.natCast_add]; rfl
 ·obtain rfl : k = l.length := by omega
  (refine AA (AI rfl (Al rfl (Aq rfl ?_))) <;> (refine As rfl rfl (fun hc => ?_) (fun hc => ?_) <;> try omega))
  repeat' first | refine nx rfl ?_ | refine nf rfl ?_
  refine AA (AC (AB rfl ?_))
  repeat' first | refine nx rfl ?_ | fail
  rw [List.take_length] at hn
  exact AP rfl ⟨by rw [decide_eq_false hn]; rfl, rfl⟩
theorem keywords_ok (w : World) : Fn Tryz.prog 87 [] w fun v w' => Sl A2 w' v keysL.length (keysL.map AM) ∧ Ext w w' := by
 refine Ac Tryz.func87 rfl Tryz.ntmps87 (Nat.le_of_ble_eq_true rfl) (by kernel_rfl) ?_
 repeat' first | refine nx rfl ?_ | fail
 refine AA (AC (Al rfl ?_))
 repeat' first | refine nx rfl ?_ | fail
 refine AA ?_
 refine W_buildSlice1 (out := keysL.map AM) rfl (by omega) rfl (by kernel_rfl) (fun w1 n1 => ?_)
 ((refine AC ?_; refine Al rfl ?_))
 repeat' first | refine nx rfl ?_ | fail
 exact AP rfl ⟨⟨_, _, rfl, by decide, by decide, (fun h => by cases h), .inr ⟨_, _, rfl, trivial, n1.blk.cells⟩⟩, n1.keep⟩
theorem refName_ok (s : List UInt8) (w : World) : Fn Tryz.prog 53 [AM s] w fun v w' => v = .bool (BN s) ∧ Ext w w' := by
 refine Ac Tryz.func53 rfl Tryz.ntmps53 (Nat.le_of_ble_eq_true rfl) (by kernel_rfl) ?_
 repeat' first | refine nx rfl ?_ | fail
 refine AA (AC (AB rfl ?_))
 repeat' first | refine nx rfl ?_ | fail
 by_cases h1 : s.length < 1
 ·(refine AA (Ab rfl (A9 rfl ?_)) <;> (refine As rfl rfl (fun hc => ?_) (fun hc => ?_) <;> try omega) <;> refine AB rfl (AJ rfl (AJ rfl (AJ rfl (AL rfl (AB rfl (AB rfl (AJ rfl (AJ rfl (AJ rfl (AL rfl (AB rfl ?_))))))))))))
  repeat' first | refine nx rfl ?_ | fail
  refine AA (AC (AB rfl ?_))
  repeat' first | refine nx rfl ?_ | fail
  exact AP rfl ⟨by rw [CZ, decide_eq_false (show ¬ 1 ≤ s.length by omega)]; rfl, Ext.refl _⟩
 by_cases h12 : 12 < s.length
 ·(refine AA (Ab rfl (A9 rfl ?_)) <;> (refine As rfl rfl (fun hc => ?_) (fun hc => ?_) <;> try omega) <;> refine AB rfl (AF rfl (Ab rfl (AF rfl (A9 rfl ?_)))) <;> (refine AF rfl ?_; (refine Bs rfl rfl (fun hc => ?_) (fun hc => ?_) <;> try omega)) <;> refine AQ rfl (AB rfl (AB rfl (AJ rfl (AJ rfl (AJ rfl (AL rfl (AB rfl ?_))))))))
  repeat' first | refine nx rfl ?_ | fail
  refine AA (AC (AB rfl ?_))
  repeat' first | refine nx rfl ?_ | fail
  exact AP rfl ⟨by rw [CZ, decide_eq_false (show ¬ s.length ≤ 12 by omega)]; simp [upd, Nat.beq], Ext.refl _⟩
 (refine AA (Ab rfl (A9 rfl ?_)) <;> (refine As rfl rfl (fun hc => ?_) (fun hc => ?_) <;> try omega) <;> refine AB rfl (AF rfl (Ab rfl (AF rfl (A9 rfl ?_)))) <;> (refine AF rfl ?_; (refine Bs rfl rfl (fun hc => ?_) (fun hc => ?_) <;> try omega)) <;> refine AQ rfl (AB rfl (AB rfl ?_)))
 (refine AF rfl ?_; refine AS (keywords_ok w) rfl ?_)
 rintro v w1 ⟨hS, k1⟩
 obtain ⟨va, vc, rfl, _⟩ := id hS
 ((refine AF rfl ?_; refine Ab rfl ?_))
 (refine AF rfl ?_; refine AS (in_ok w1 _ keysL s hS) rfl ?_)
 rintro _ wx ⟨rfl, hw⟩
 obtain rfl := hw.symm
 refine AQ rfl (AB rfl (AE ?_))
 by_cases hkey : s ∈ keysL
 ·rw [decide_eq_true hkey]
  repeat' first | refine nx rfl ?_ | fail
  refine AA (AC (AB rfl ?_))
  repeat' first | refine nx rfl ?_ | fail
  exact AP rfl ⟨by rw [CZ, decide_eq_true hkey]; simp [upd, Nat.beq], k1⟩
 rw [decide_eq_false hkey]
 repeat' first | refine nx rfl ?_ | refine nf rfl ?_
 refine AA (AC (AI rfl ?_))
 repeat' first | refine nx rfl ?_ | fail
 refine BC (α := Nat) (fun k => [(0, AM s), (3, .int .i64 (k : Int))]) (fun k W => k ≤ s.length ∧ (∀ (i : Nat) (c : UInt8), i < k → s[i]? = some c → okAt i c = true) ∧ W = w1) (fun k => s.length - k) 0 ⟨rfl, rfl, trivial⟩ ⟨by omega, fun i c hi => by omega, rfl⟩ ?_
 rintro k w2 f2 ⟨hk, hok, rfl⟩
 repeat' first | refine nx rfl ?_ | fail
 by_cases hlt : k < s.length
 ·have hc0 : s[k]? = some s[k] := List.getElem?_eq_getElem hlt
  generalize s[k] = c at hc0
  have cb := c.toNat_lt
  have step : okAt k c = true → ∀ (i : Nat) (d : UInt8), i < k + 1 → s[i]? = some d → okAt i d = true := fun hkc i d hi hd => by
   by_cases hik : i = k
   ·subst hik; rw [hc0] at hd; cases hd; exact hkc
   ·exact hok i d (by omega) hd
  (refine AA (AI rfl (Ab rfl (A9 rfl ?_))) <;> (refine As rfl rfl (fun hc => ?_) (fun hc => ?_) <;> try omega))
  repeat' first | refine nx rfl ?_ | fail
  refine B4 (α := Unit) (fun _ => [(0, AM s), (3, .int .i64 (k : Int)), (4, .bool (BP c))]) (fun _ W => w2 = W) ?_ ?_
  ·by_cases ha : 97 ≤ c.toNat
   ·by_cases hb : c.toNat ≤ 122
    ·rw [show BP c = true by simp [BP, ha, hb]]
     (refine AA (Ab rfl (AI rfl ?_)) <;> refine BK rfl rfl (by assumption) ?_ <;> (refine W_geq rfl rfl (fun hc => ?_) (fun hc => ?_) <;> try omega) <;> refine AB rfl (AF rfl (Ab rfl (AF rfl (AI rfl (AF rfl ?_))))) <;> refine BK rfl rfl (by assumption) ?_ <;> (refine AF rfl ?_; (refine Ba rfl rfl (fun hc => ?_) (fun hc => ?_) <;> try omega)) <;> refine AL rfl (AB rfl (AC (AB rfl (AE ?_)))))
     exact Ap () ⟨rfl, rfl, rfl, trivial⟩ rfl
    ·rw [show BP c = false by simp [BP, ha, hb]]
     (refine AA (Ab rfl (AI rfl ?_)) <;> refine BK rfl rfl (by assumption) ?_ <;> (refine W_geq rfl rfl (fun hc => ?_) (fun hc => ?_) <;> try omega) <;> refine AB rfl (AF rfl (Ab rfl (AF rfl (AI rfl (AF rfl ?_))))) <;> refine BK rfl rfl (by assumption) ?_ <;> (refine AF rfl ?_; (refine Ba rfl rfl (fun hc => ?_) (fun hc => ?_) <;> try omega)) <;> refine AL rfl (AB rfl (AC (AB rfl (AE ?_)))))
     exact Ap () ⟨rfl, rfl, rfl, trivial⟩ rfl
   ·rw [show BP c = false by simp [BP, ha]]
    (refine AA (Ab rfl (AI rfl ?_)) <;> refine BK rfl rfl (by assumption) ?_ <;> (refine W_geq rfl rfl (fun hc => ?_) (fun hc => ?_) <;> try omega) <;> refine AB rfl (AJ rfl (AJ rfl (AJ rfl (AJ rfl (AQ rfl (AB rfl (AC (AB rfl (AE ?_))))))))))
    exact Ap () ⟨rfl, rfl, rfl, trivial⟩ rfl
  rintro _ _ f3 rfl
  repeat' first | refine nx rfl ?_ | fail
  refine B4 (α := Unit) (fun _ => [(0, AM s), (3, .int .i64 (k : Int)), (4, .bool (BP c)), (5, .bool (A0 c || decide (c.toNat = 95)))]) (fun _ W => w2 = W) ?_ ?_
  ·by_cases ha : 48 ≤ c.toNat
   ·by_cases hb : c.toNat ≤ 57
    ·rw [show (A0 c || decide (c.toNat = 95)) = true by simp [A0, ha, hb]]
     (refine AA (Ab rfl (AI rfl ?_)) <;> refine BK rfl rfl (by assumption) ?_ <;> (refine W_geq rfl rfl (fun hc => ?_) (fun hc => ?_) <;> try omega) <;> refine AB rfl (AF rfl (Ab rfl (AF rfl (AI rfl (AF rfl ?_))))) <;> refine BK rfl rfl (by assumption) ?_ <;> (refine AF rfl ?_; (refine Ba rfl rfl (fun hc => ?_) (fun hc => ?_) <;> try omega)) <;> refine AL rfl (AB rfl (AB rfl (AJ rfl (AJ rfl (AJ rfl (AJ rfl (AL rfl (AB rfl (AC (AB rfl (AE ?_))))))))))))
     exact Ap () ⟨rfl, rfl, rfl, rfl, trivial⟩ rfl
    ·by_cases hu : c.toNat = 95
     ·rw [show (A0 c || decide (c.toNat = 95)) = true by simp [hu]]
      (refine AA (Ab rfl (AI rfl ?_)) <;> refine BK rfl rfl (by assumption) ?_ <;> (refine W_geq rfl rfl (fun hc => ?_) (fun hc => ?_) <;> try omega) <;> refine AB rfl (AF rfl (Ab rfl (AF rfl (AI rfl (AF rfl ?_))))) <;> refine BK rfl rfl (by assumption) ?_ <;> (refine AF rfl ?_; (refine Ba rfl rfl (fun hc => ?_) (fun hc => ?_) <;> try omega)) <;> refine AL rfl (AB rfl (AB rfl (AF rfl (Ab rfl (AF rfl (AI rfl (AF rfl ?_))))))) <;> refine BK rfl rfl (by assumption) ?_ <;> (refine AF rfl ?_; (refine AK rfl rfl (fun hc => ?_) (fun hc => ?_) <;> try omega)) <;> refine AQ rfl (AB rfl (AC (AB rfl (AE ?_)))))
      exact Ap () ⟨rfl, rfl, rfl, rfl, trivial⟩ rfl
     ·rw [show (A0 c || decide (c.toNat = 95)) = false by simp [A0, hu, ha, hb]]
      (refine AA (Ab rfl (AI rfl ?_)) <;> refine BK rfl rfl (by assumption) ?_ <;> (refine W_geq rfl rfl (fun hc => ?_) (fun hc => ?_) <;> try omega) <;> refine AB rfl (AF rfl (Ab rfl (AF rfl (AI rfl (AF rfl ?_))))) <;> refine BK rfl rfl (by assumption) ?_ <;> (refine AF rfl ?_; (refine Ba rfl rfl (fun hc => ?_) (fun hc => ?_) <;> try omega)) <;> refine AL rfl (AB rfl (AB rfl (AF rfl (Ab rfl (AF rfl (AI rfl (AF rfl ?_))))))) <;> refine BK rfl rfl (by assumption) ?_ <;> (refine AF rfl ?_; (refine AK rfl rfl (fun hc => ?_) (fun hc => ?_) <;> try omega)) <;> refine AQ rfl (AB rfl (AC (AB rfl (AE ?_)))))
      exact Ap () ⟨rfl, rfl, rfl, rfl, trivial⟩ rfl
   ·rw [show (A0 c || decide (c.toNat = 95)) = false by simp [A0, ha]; omega]
    (refine AA (Ab rfl (AI rfl ?_)) <;> refine BK rfl rfl (by assumption) ?_ <;> (refine W_geq rfl rfl (fun hc => ?_) (fun hc => ?_) <;> try omega) <;> refine AB rfl (AJ rfl (AJ rfl (AJ rfl (AJ rfl (AQ rfl (AB rfl (AB rfl (AF rfl (Ab rfl (AF rfl (AI rfl (AF rfl ?_)))))))))))) <;> refine BK rfl rfl (by assumption) ?_ <;> (refine AF rfl ?_; (refine AK rfl rfl (fun hc => ?_) (fun hc => ?_) <;> try omega)) <;> refine AQ rfl (AB rfl (AC (AB rfl (AE ?_)))))
    exact Ap () ⟨rfl, rfl, rfl, rfl, trivial⟩ rfl
  rintro _ _ f4 rfl
  repeat' first | refine nx rfl ?_ | fail
  have hbad : okAt k c = false → BN s = false := fun h => by
   have hsh : shapeB s = false := by
    cases hsb : shapeB s with
    | false => rfl
    | true => rw [(shapeB_iff s (by omega)).1 hsb k c hc0] at h; cases h
   rw [CZ, hsh]; simp
  have hoke : okAt k c = (BP c || (decide (0 < k) && (A0 c || decide (c.toNat = 95)))) := rfl
  cases hsm : BP c with
  | true =>
   refine AA (AB rfl (A7 rfl (AB rfl (AJ rfl (AJ rfl (AJ rfl (AJ rfl (AJ rfl (AJ rfl (AQ rfl (AB rfl ?_)))))))))))
   repeat' first | refine nx rfl ?_ | refine nf rfl ?_
   (refine AA (AI rfl ?_) <;> refine BB rfl rfl (by first | exact Ak (by omega) (by omega) | exact Ar (by omega) (by omega) | exact Aj (by omega) (by omega)) ?_ <;> refine AC (AI rfl ?_))
   repeat' first | refine nx rfl ?_ | fail
   refine ⟨k + 1, ⟨rfl, ⟨rfl, ?_, trivial⟩, ⟨by omega, step (by rw [hoke, hsm]; rfl), rfl⟩⟩, by omega⟩
   show Value.int .i64 ((k : Int) + 1) = _
   rw [Int.natCast_add]; rfl
  | false =>
   by_cases hk0 : k = 0
   ·have hb := hbad (by rw [hoke, hsm, decide_eq_false (show ¬ 0 < k by omega)]; rfl)
    (refine AA (AB rfl (A7 rfl (AB rfl (AF rfl (AI rfl ?_))))) <;> (refine AF rfl ?_; (refine AK rfl rfl (fun hc => ?_) (fun hc => ?_) <;> try omega)) <;> refine AF rfl (AB rfl (AJ rfl (AJ rfl ?_))) <;> (refine AF rfl ?_; (refine AL rfl ?_; refine AB rfl ?_)) <;> refine AL rfl (AB rfl ?_))
    repeat' first | refine nx rfl ?_ | fail
    refine AA (AC (AB rfl ?_))
    repeat' first | refine nx rfl ?_ | fail
    exact AP rfl ⟨by rw [hb]; rfl, k1⟩
   ·cases hrs : (A0 c || decide (c.toNat = 95)) with
    | true =>
     (refine AA (AB rfl (A7 rfl (AB rfl (AF rfl (AI rfl ?_))))) <;> (refine AF rfl ?_; (refine AK rfl rfl (fun hc => ?_) (fun hc => ?_) <;> try omega)) <;> refine AF rfl (AB rfl (AF rfl (AB rfl (AF rfl (A7 rfl ?_))))) <;> (refine AF rfl ?_; (refine AQ rfl ?_; refine AB rfl ?_)) <;> refine AL rfl (AB rfl ?_))
     repeat' first | refine nx rfl ?_ | refine nf rfl ?_
     (refine AA (AI rfl ?_) <;> refine BB rfl rfl (by first | exact Ak (by omega) (by omega) | exact Ar (by omega) (by omega) | exact Aj (by omega) (by omega)) ?_ <;> refine AC (AI rfl ?_))
     repeat' first | refine nx rfl ?_ | fail
     refine ⟨k + 1, ⟨rfl, ⟨rfl, ?_, trivial⟩, ⟨by omega, step (by rw [hoke, hsm, hrs, decide_eq_true (show 0 < k by omega)]; rfl), rfl⟩⟩, by omega⟩
     show Value.int .i64 ((k : Int) + 1) = _
     rw [Int.natCast_add]; rfl
    | false =>
     have hb := hbad (by rw [hoke, hsm, hrs]; simp)
     (refine AA (AB rfl (A7 rfl (AB rfl (AF rfl (AI rfl ?_))))) <;> (refine AF rfl ?_; (refine AK rfl rfl (fun hc => ?_) (fun hc => ?_) <;> try omega)) <;> refine AF rfl (AB rfl (AF rfl (AB rfl (AF rfl (A7 rfl ?_))))) <;> (refine AF rfl ?_; (refine AQ rfl ?_; refine AB rfl ?_)) <;> refine AL rfl (AB rfl ?_))
     repeat' first | refine nx rfl ?_ | fail
     refine AA (AC (AB rfl ?_))
     repeat' first | refine nx rfl ?_ | fail
     exact AP rfl ⟨by rw [hb]; rfl, k1⟩
 ·obtain rfl : k = s.length := by omega
  have hsh : shapeB s = true := (shapeB_iff s (by omega)).2 fun i c hc => hok i c (List.getElem?_eq_some_iff.1 hc).1 hc
  (refine AA (AI rfl (Ab rfl (A9 rfl ?_))) <;> (refine As rfl rfl (fun hc => ?_) (fun hc => ?_) <;> try omega))
  repeat' first | refine nx rfl ?_ | refine nf rfl ?_
  refine AA (AC (AB rfl ?_))
  repeat' first | refine nx rfl ?_ | fail
  exact AP rfl ⟨by rw [CZ, hsh, decide_eq_false hkey, decide_eq_true (show 1 ≤ s.length by omega), decide_eq_true (show s.length ≤ 12 by omega)]; rfl, k1⟩
end Go.Proofs.YtfcgdbmoncnibaaGreatDoor
namespace Go.Proofs.YtfcgdbmoncnibaaGreatDoor
open Go.RowKit
set_option linter.unusedVariables false
theorem rnumber_ok (w : World) (n : Int) : Fn Tryz.prog 54 [.int .i64 n] w fun v w' => v = .bool (numB n) ∧ w' = w := by
 refine Ac Tryz.func54 rfl Tryz.ntmps54 (Nat.le_of_ble_eq_true rfl) (by kernel_rfl) ?_
 repeat' first | refine nx rfl ?_ | fail
 refine AA (AC (AB rfl ?_))
 repeat' first | refine nx rfl ?_ | fail
 (refine AA (AI rfl ?_) <;> (refine W_geq rfl rfl (fun hc => ?_) (fun hc => ?_) <;> try omega) <;> refine AB rfl ?_ <;> (first | refine AJ rfl ?_ | (refine AF rfl ?_; refine AI rfl ?_)) <;> (first | refine AJ rfl ?_ | (refine AF rfl ?_; (refine Ba rfl rfl (fun hc => ?_) (fun hc => ?_) <;> try omega))) <;> ((first | refine AL rfl ?_ | refine AQ rfl ?_); refine AB rfl ?_) <;> refine AC (AB rfl (AE ?_)))
 all_goals
  repeat' first | refine nx rfl ?_ | fail
  exact AP rfl ⟨congrArg Value.bool (by simp [numB]; omega), rfl⟩
theorem styD_of {op : Int} {s : Sty} (h : Bt op = some s) : styD op = s := by unfold styD; rw [h]; rfl
def CJ (op : Int) (n : Nat) : Bool := match Bt op with
 | none => false
 | some s => decide (s.least ≤ n) && decide (n ≤ s.most)
theorem args_else {op : Int} {n : Nat} (h : ∀ k : Int, 1 ≤ k → k ≤ 19 → op ≠ k) : CJ op n = false := by
 unfold CJ
 cases hs : Bt op with
 | none => rfl
 | some s => rcases op_cases hs with h' | h' | h' | h' | h' | h' | h' | h' | h' | h' | h' | h' | h' | h' | h' | h' | h' | h' | h' <;> exact absurd h' (h _ (by decide) (by decide))
theorem rargs_ok (w : World) (op : Int) (n : Nat) (hn : n ≤ 1000000) : Fn Tryz.prog 52 [.int .i64 op, .int .i64 (n : Int)] w fun v w1 => v = .bool (CJ op n) ∧ w1 = w := by
 refine Ac Tryz.func52 rfl Tryz.ntmps52 (Nat.le_of_ble_eq_true rfl) (by kernel_rfl) ?_
 repeat' first | refine nx rfl ?_ | fail
 by_cases h1 : op = 1
 ·subst h1
  refine AA (AC (AB rfl ?_))
  repeat' first | refine nx rfl ?_ | fail
  refine AA (AI rfl ?_)
  repeat' first | refine nx rfl ?_ | fail
  (refine AA ?_ <;> (refine AK rfl rfl (fun hc => ?_) (fun hc => ?_) <;> try omega) <;> refine AC (AB rfl ?_))
  repeat' first | refine nx rfl ?_ | fail
  (refine AA (AI rfl ?_) <;> (refine AK rfl rfl (fun hc => ?_) (fun hc => ?_) <;> try omega) <;> refine AC (AB rfl (AE ?_)))
  all_goals
   repeat' first | refine nx rfl ?_ | fail
   exact AP rfl ⟨congrArg Value.bool (by simp [CJ, Bt, styL, List.lookup, many]; try omega), rfl⟩
 by_cases h2 : op = 2
 ·subst h2
  refine AA (AC (AB rfl ?_))
  repeat' first | refine nx rfl ?_ | fail
  refine AA (AI rfl ?_)
  repeat' first | refine nx rfl ?_ | fail
  (refine AA ?_ <;> (refine AK rfl rfl (fun hc => ?_) (fun hc => ?_) <;> try omega) <;> refine AC (AB rfl ?_))
  repeat' first | refine nx rfl ?_ | refine nf rfl ?_
  (refine AA ?_ <;> (refine AK rfl rfl (fun hc => ?_) (fun hc => ?_) <;> try omega) <;> refine AC (AB rfl ?_))
  repeat' first | refine nx rfl ?_ | fail
  (refine AA (AI rfl ?_) <;> (refine AK rfl rfl (fun hc => ?_) (fun hc => ?_) <;> try omega) <;> refine AC (AB rfl (AE ?_)))
  all_goals
   repeat' first | refine nx rfl ?_ | fail
   exact AP rfl ⟨congrArg Value.bool (by simp [CJ, Bt, styL, List.lookup, many]; try omega), rfl⟩
 by_cases h3 : op = 3
 ·subst h3
  refine AA (AC (AB rfl ?_))
  repeat' first | refine nx rfl ?_ | fail
  refine AA (AI rfl ?_)
  repeat' first | refine nx rfl ?_ | fail
  (refine AA ?_ <;> (refine AK rfl rfl (fun hc => ?_) (fun hc => ?_) <;> try omega) <;> refine AC (AB rfl ?_))
  repeat' first | refine nx rfl ?_ | refine nf rfl ?_
  (refine AA ?_ <;> (refine AK rfl rfl (fun hc => ?_) (fun hc => ?_) <;> try omega) <;> refine AC (AB rfl ?_))
  repeat' first | refine nx rfl ?_ | refine nf rfl ?_
  (refine AA ?_ <;> (refine AK rfl rfl (fun hc => ?_) (fun hc => ?_) <;> try omega) <;> refine AC (AB rfl ?_))
  repeat' first | refine nx rfl ?_ | fail
  (refine AA (AI rfl ?_) <;> (refine AK rfl rfl (fun hc => ?_) (fun hc => ?_) <;> try omega) <;> refine AC (AB rfl (AE ?_)))
  all_goals
   repeat' first | refine nx rfl ?_ | fail
   exact AP rfl ⟨congrArg Value.bool (by simp [CJ, Bt, styL, List.lookup, many]; try omega), rfl⟩
 by_cases h4 : op = 4
 ·subst h4
  refine AA (AC (AB rfl ?_))
  repeat' first | refine nx rfl ?_ | fail
  refine AA (AI rfl ?_)
  repeat' first | refine nx rfl ?_ | fail
  (refine AA ?_ <;> (refine AK rfl rfl (fun hc => ?_) (fun hc => ?_) <;> try omega) <;> refine AC (AB rfl ?_))
  repeat' first | refine nx rfl ?_ | refine nf rfl ?_
  (refine AA ?_ <;> (refine AK rfl rfl (fun hc => ?_) (fun hc => ?_) <;> try omega) <;> refine AC (AB rfl ?_))
  repeat' first | refine nx rfl ?_ | refine nf rfl ?_
  (refine AA ?_ <;> (refine AK rfl rfl (fun hc => ?_) (fun hc => ?_) <;> try omega) <;> refine AC (AB rfl ?_))
  repeat' first | refine nx rfl ?_ | refine nf rfl ?_
  (refine AA ?_ <;> (refine AK rfl rfl (fun hc => ?_) (fun hc => ?_) <;> try omega) <;> refine AC (AB rfl ?_))
  repeat' first | refine nx rfl ?_ | fail
  (refine AA (AI rfl ?_) <;> (refine AK rfl rfl (fun hc => ?_) (fun hc => ?_) <;> try omega) <;> refine AC (AB rfl (AE ?_)))
  all_goals
   repeat' first | refine nx rfl ?_ | fail
   exact AP rfl ⟨congrArg Value.bool (by simp [CJ, Bt, styL, List.lookup, many]; try omega), rfl⟩
 by_cases h8 : op = 8
 ·subst h8
  refine AA (AC (AB rfl ?_))
  repeat' first | refine nx rfl ?_ | fail
  refine AA (AI rfl ?_)
  repeat' first | refine nx rfl ?_ | fail
  (refine AA ?_ <;> (refine AK rfl rfl (fun hc => ?_) (fun hc => ?_) <;> try omega) <;> refine AC (AB rfl ?_))
  repeat' first | refine nx rfl ?_ | refine nf rfl ?_
  (refine AA ?_ <;> (refine AK rfl rfl (fun hc => ?_) (fun hc => ?_) <;> try omega) <;> refine AC (AB rfl ?_))
  repeat' first | refine nx rfl ?_ | refine nf rfl ?_
  (refine AA ?_ <;> (refine AK rfl rfl (fun hc => ?_) (fun hc => ?_) <;> try omega) <;> refine AC (AB rfl ?_))
  repeat' first | refine nx rfl ?_ | refine nf rfl ?_
  (refine AA ?_ <;> (refine AK rfl rfl (fun hc => ?_) (fun hc => ?_) <;> try omega) <;> refine AC (AB rfl ?_))
  repeat' first | refine nx rfl ?_ | refine nf rfl ?_
  (refine AA ?_ <;> (refine AK rfl rfl (fun hc => ?_) (fun hc => ?_) <;> try omega) <;> refine AC (AB rfl ?_))
  repeat' first | refine nx rfl ?_ | fail
  (refine AA (AI rfl ?_) <;> (refine AK rfl rfl (fun hc => ?_) (fun hc => ?_) <;> try omega) <;> refine AC (AB rfl (AE ?_)))
  all_goals
   repeat' first | refine nx rfl ?_ | fail
   exact AP rfl ⟨congrArg Value.bool (by simp [CJ, Bt, styL, List.lookup, many]; try omega), rfl⟩
 by_cases h11 : op = 11
 ·subst h11
  refine AA (AC (AB rfl ?_))
  repeat' first | refine nx rfl ?_ | fail
  refine AA (AI rfl ?_)
  repeat' first | refine nx rfl ?_ | fail
  (refine AA ?_ <;> (refine AK rfl rfl (fun hc => ?_) (fun hc => ?_) <;> try omega) <;> refine AC (AB rfl ?_))
  repeat' first | refine nx rfl ?_ | refine nf rfl ?_
  (refine AA ?_ <;> (refine AK rfl rfl (fun hc => ?_) (fun hc => ?_) <;> try omega) <;> refine AC (AB rfl ?_))
  repeat' first | refine nx rfl ?_ | refine nf rfl ?_
  (refine AA ?_ <;> (refine AK rfl rfl (fun hc => ?_) (fun hc => ?_) <;> try omega) <;> refine AC (AB rfl ?_))
  repeat' first | refine nx rfl ?_ | refine nf rfl ?_
  (refine AA ?_ <;> (refine AK rfl rfl (fun hc => ?_) (fun hc => ?_) <;> try omega) <;> refine AC (AB rfl ?_))
  repeat' first | refine nx rfl ?_ | refine nf rfl ?_
  (refine AA ?_ <;> (refine AK rfl rfl (fun hc => ?_) (fun hc => ?_) <;> try omega) <;> refine AC (AB rfl ?_))
  repeat' first | refine nx rfl ?_ | refine nf rfl ?_
  (refine AA ?_ <;> (refine AK rfl rfl (fun hc => ?_) (fun hc => ?_) <;> try omega) <;> refine AC (AB rfl ?_))
  repeat' first | refine nx rfl ?_ | fail
  (refine AA (AI rfl ?_) <;> (refine AK rfl rfl (fun hc => ?_) (fun hc => ?_) <;> try omega) <;> refine AC (AB rfl (AE ?_)))
  all_goals
   repeat' first | refine nx rfl ?_ | fail
   exact AP rfl ⟨congrArg Value.bool (by simp [CJ, Bt, styL, List.lookup, many]; try omega), rfl⟩
 by_cases h12 : op = 12
 ·subst h12
  refine AA (AC (AB rfl ?_))
  repeat' first | refine nx rfl ?_ | fail
  refine AA (AI rfl ?_)
  repeat' first | refine nx rfl ?_ | fail
  (refine AA ?_ <;> (refine AK rfl rfl (fun hc => ?_) (fun hc => ?_) <;> try omega) <;> refine AC (AB rfl ?_))
  repeat' first | refine nx rfl ?_ | refine nf rfl ?_
  (refine AA ?_ <;> (refine AK rfl rfl (fun hc => ?_) (fun hc => ?_) <;> try omega) <;> refine AC (AB rfl ?_))
  repeat' first | refine nx rfl ?_ | refine nf rfl ?_
  (refine AA ?_ <;> (refine AK rfl rfl (fun hc => ?_) (fun hc => ?_) <;> try omega) <;> refine AC (AB rfl ?_))
  repeat' first | refine nx rfl ?_ | refine nf rfl ?_
  (refine AA ?_ <;> (refine AK rfl rfl (fun hc => ?_) (fun hc => ?_) <;> try omega) <;> refine AC (AB rfl ?_))
  repeat' first | refine nx rfl ?_ | refine nf rfl ?_
  (refine AA ?_ <;> (refine AK rfl rfl (fun hc => ?_) (fun hc => ?_) <;> try omega) <;> refine AC (AB rfl ?_))
  repeat' first | refine nx rfl ?_ | refine nf rfl ?_
  (refine AA ?_ <;> (refine AK rfl rfl (fun hc => ?_) (fun hc => ?_) <;> try omega) <;> refine AC (AB rfl ?_))
  repeat' first | refine nx rfl ?_ | refine nf rfl ?_
  (refine AA ?_ <;> (refine AK rfl rfl (fun hc => ?_) (fun hc => ?_) <;> try omega) <;> refine AC (AB rfl ?_))
  repeat' first | refine nx rfl ?_ | fail
  (refine AA (AI rfl ?_) <;> (refine AK rfl rfl (fun hc => ?_) (fun hc => ?_) <;> try omega) <;> refine AC (AB rfl (AE ?_)))
  all_goals
   repeat' first | refine nx rfl ?_ | fail
   exact AP rfl ⟨congrArg Value.bool (by simp [CJ, Bt, styL, List.lookup, many]; try omega), rfl⟩
 by_cases h13 : op = 13
 ·subst h13
  refine AA (AC (AB rfl ?_))
  repeat' first | refine nx rfl ?_ | fail
  refine AA (AI rfl ?_)
  repeat' first | refine nx rfl ?_ | fail
  (refine AA ?_ <;> (refine AK rfl rfl (fun hc => ?_) (fun hc => ?_) <;> try omega) <;> refine AC (AB rfl ?_))
  repeat' first | refine nx rfl ?_ | refine nf rfl ?_
  (refine AA ?_ <;> (refine AK rfl rfl (fun hc => ?_) (fun hc => ?_) <;> try omega) <;> refine AC (AB rfl ?_))
  repeat' first | refine nx rfl ?_ | refine nf rfl ?_
  (refine AA ?_ <;> (refine AK rfl rfl (fun hc => ?_) (fun hc => ?_) <;> try omega) <;> refine AC (AB rfl ?_))
  repeat' first | refine nx rfl ?_ | refine nf rfl ?_
  (refine AA ?_ <;> (refine AK rfl rfl (fun hc => ?_) (fun hc => ?_) <;> try omega) <;> refine AC (AB rfl ?_))
  repeat' first | refine nx rfl ?_ | refine nf rfl ?_
  (refine AA ?_ <;> (refine AK rfl rfl (fun hc => ?_) (fun hc => ?_) <;> try omega) <;> refine AC (AB rfl ?_))
  repeat' first | refine nx rfl ?_ | refine nf rfl ?_
  (refine AA ?_ <;> (refine AK rfl rfl (fun hc => ?_) (fun hc => ?_) <;> try omega) <;> refine AC (AB rfl ?_))
  repeat' first | refine nx rfl ?_ | refine nf rfl ?_
  (refine AA ?_ <;> (refine AK rfl rfl (fun hc => ?_) (fun hc => ?_) <;> try omega) <;> refine AC (AB rfl ?_))
  repeat' first | refine nx rfl ?_ | refine nf rfl ?_
  (refine AA ?_ <;> (refine AK rfl rfl (fun hc => ?_) (fun hc => ?_) <;> try omega) <;> refine AC (AB rfl ?_))
  repeat' first | refine nx rfl ?_ | fail
  (refine AA (AI rfl ?_) <;> (refine AK rfl rfl (fun hc => ?_) (fun hc => ?_) <;> try omega) <;> refine AC (AB rfl (AE ?_)))
  all_goals
   repeat' first | refine nx rfl ?_ | fail
   exact AP rfl ⟨congrArg Value.bool (by simp [CJ, Bt, styL, List.lookup, many]; try omega), rfl⟩
 by_cases h14 : op = 14
 ·subst h14
  refine AA (AC (AB rfl ?_))
  repeat' first | refine nx rfl ?_ | fail
  refine AA (AI rfl ?_)
  repeat' first | refine nx rfl ?_ | fail
  (refine AA ?_ <;> (refine AK rfl rfl (fun hc => ?_) (fun hc => ?_) <;> try omega) <;> refine AC (AB rfl ?_))
  repeat' first | refine nx rfl ?_ | refine nf rfl ?_
  (refine AA ?_ <;> (refine AK rfl rfl (fun hc => ?_) (fun hc => ?_) <;> try omega) <;> refine AC (AB rfl ?_))
  repeat' first | refine nx rfl ?_ | refine nf rfl ?_
  (refine AA ?_ <;> (refine AK rfl rfl (fun hc => ?_) (fun hc => ?_) <;> try omega) <;> refine AC (AB rfl ?_))
  repeat' first | refine nx rfl ?_ | refine nf rfl ?_
  (refine AA ?_ <;> (refine AK rfl rfl (fun hc => ?_) (fun hc => ?_) <;> try omega) <;> refine AC (AB rfl ?_))
  repeat' first | refine nx rfl ?_ | refine nf rfl ?_
  (refine AA ?_ <;> (refine AK rfl rfl (fun hc => ?_) (fun hc => ?_) <;> try omega) <;> refine AC (AB rfl ?_))
  repeat' first | refine nx rfl ?_ | refine nf rfl ?_
  (refine AA ?_ <;> (refine AK rfl rfl (fun hc => ?_) (fun hc => ?_) <;> try omega) <;> refine AC (AB rfl ?_))
  repeat' first | refine nx rfl ?_ | refine nf rfl ?_
  (refine AA ?_ <;> (refine AK rfl rfl (fun hc => ?_) (fun hc => ?_) <;> try omega) <;> refine AC (AB rfl ?_))
  repeat' first | refine nx rfl ?_ | refine nf rfl ?_
  (refine AA ?_ <;> (refine AK rfl rfl (fun hc => ?_) (fun hc => ?_) <;> try omega) <;> refine AC (AB rfl ?_))
  repeat' first | refine nx rfl ?_ | refine nf rfl ?_
  (refine AA ?_ <;> (refine AK rfl rfl (fun hc => ?_) (fun hc => ?_) <;> try omega) <;> refine AC (AB rfl ?_))
  repeat' first | refine nx rfl ?_ | fail
  (refine AA (AI rfl ?_) <;> (refine AK rfl rfl (fun hc => ?_) (fun hc => ?_) <;> try omega) <;> refine AC (AB rfl (AE ?_)))
  all_goals
   repeat' first | refine nx rfl ?_ | fail
   exact AP rfl ⟨congrArg Value.bool (by simp [CJ, Bt, styL, List.lookup, many]; try omega), rfl⟩
 by_cases h15 : op = 15
 ·subst h15
  refine AA (AC (AB rfl ?_))
  repeat' first | refine nx rfl ?_ | fail
  refine AA (AI rfl ?_)
  repeat' first | refine nx rfl ?_ | fail
  (refine AA ?_ <;> (refine AK rfl rfl (fun hc => ?_) (fun hc => ?_) <;> try omega) <;> refine AC (AB rfl ?_))
  repeat' first | refine nx rfl ?_ | refine nf rfl ?_
  (refine AA ?_ <;> (refine AK rfl rfl (fun hc => ?_) (fun hc => ?_) <;> try omega) <;> refine AC (AB rfl ?_))
  repeat' first | refine nx rfl ?_ | refine nf rfl ?_
  (refine AA ?_ <;> (refine AK rfl rfl (fun hc => ?_) (fun hc => ?_) <;> try omega) <;> refine AC (AB rfl ?_))
  repeat' first | refine nx rfl ?_ | refine nf rfl ?_
  (refine AA ?_ <;> (refine AK rfl rfl (fun hc => ?_) (fun hc => ?_) <;> try omega) <;> refine AC (AB rfl ?_))
  repeat' first | refine nx rfl ?_ | refine nf rfl ?_
  (refine AA ?_ <;> (refine AK rfl rfl (fun hc => ?_) (fun hc => ?_) <;> try omega) <;> refine AC (AB rfl ?_))
  repeat' first | refine nx rfl ?_ | refine nf rfl ?_
  (refine AA ?_ <;> (refine AK rfl rfl (fun hc => ?_) (fun hc => ?_) <;> try omega) <;> refine AC (AB rfl ?_))
  repeat' first | refine nx rfl ?_ | refine nf rfl ?_
  (refine AA ?_ <;> (refine AK rfl rfl (fun hc => ?_) (fun hc => ?_) <;> try omega) <;> refine AC (AB rfl ?_))
  repeat' first | refine nx rfl ?_ | refine nf rfl ?_
  (refine AA ?_ <;> (refine AK rfl rfl (fun hc => ?_) (fun hc => ?_) <;> try omega) <;> refine AC (AB rfl ?_))
  repeat' first | refine nx rfl ?_ | refine nf rfl ?_
  (refine AA ?_ <;> (refine AK rfl rfl (fun hc => ?_) (fun hc => ?_) <;> try omega) <;> refine AC (AB rfl ?_))
  repeat' first | refine nx rfl ?_ | refine nf rfl ?_
  (refine AA ?_ <;> (refine AK rfl rfl (fun hc => ?_) (fun hc => ?_) <;> try omega) <;> refine AC (AB rfl ?_))
  repeat' first | refine nx rfl ?_ | fail
  (refine AA (AI rfl ?_) <;> (refine AK rfl rfl (fun hc => ?_) (fun hc => ?_) <;> try omega) <;> refine AC (AB rfl (AE ?_)))
  all_goals
   repeat' first | refine nx rfl ?_ | fail
   exact AP rfl ⟨congrArg Value.bool (by simp [CJ, Bt, styL, List.lookup, many]; try omega), rfl⟩
 by_cases h18 : op = 18
 ·subst h18
  refine AA (AC (AB rfl ?_))
  repeat' first | refine nx rfl ?_ | fail
  refine AA (AI rfl ?_)
  repeat' first | refine nx rfl ?_ | fail
  (refine AA ?_ <;> (refine AK rfl rfl (fun hc => ?_) (fun hc => ?_) <;> try omega) <;> refine AC (AB rfl ?_))
  repeat' first | refine nx rfl ?_ | refine nf rfl ?_
  (refine AA ?_ <;> (refine AK rfl rfl (fun hc => ?_) (fun hc => ?_) <;> try omega) <;> refine AC (AB rfl ?_))
  repeat' first | refine nx rfl ?_ | refine nf rfl ?_
  (refine AA ?_ <;> (refine AK rfl rfl (fun hc => ?_) (fun hc => ?_) <;> try omega) <;> refine AC (AB rfl ?_))
  repeat' first | refine nx rfl ?_ | refine nf rfl ?_
  (refine AA ?_ <;> (refine AK rfl rfl (fun hc => ?_) (fun hc => ?_) <;> try omega) <;> refine AC (AB rfl ?_))
  repeat' first | refine nx rfl ?_ | refine nf rfl ?_
  (refine AA ?_ <;> (refine AK rfl rfl (fun hc => ?_) (fun hc => ?_) <;> try omega) <;> refine AC (AB rfl ?_))
  repeat' first | refine nx rfl ?_ | refine nf rfl ?_
  (refine AA ?_ <;> (refine AK rfl rfl (fun hc => ?_) (fun hc => ?_) <;> try omega) <;> refine AC (AB rfl ?_))
  repeat' first | refine nx rfl ?_ | refine nf rfl ?_
  (refine AA ?_ <;> (refine AK rfl rfl (fun hc => ?_) (fun hc => ?_) <;> try omega) <;> refine AC (AB rfl ?_))
  repeat' first | refine nx rfl ?_ | refine nf rfl ?_
  (refine AA ?_ <;> (refine AK rfl rfl (fun hc => ?_) (fun hc => ?_) <;> try omega) <;> refine AC (AB rfl ?_))
  repeat' first | refine nx rfl ?_ | refine nf rfl ?_
  (refine AA ?_ <;> (refine AK rfl rfl (fun hc => ?_) (fun hc => ?_) <;> try omega) <;> refine AC (AB rfl ?_))
  repeat' first | refine nx rfl ?_ | refine nf rfl ?_
  (refine AA ?_ <;> (refine AK rfl rfl (fun hc => ?_) (fun hc => ?_) <;> try omega) <;> refine AC (AB rfl ?_))
  repeat' first | refine nx rfl ?_ | refine nf rfl ?_
  (refine AA ?_ <;> (refine AK rfl rfl (fun hc => ?_) (fun hc => ?_) <;> try omega) <;> refine AC (AB rfl ?_))
  repeat' first | refine nx rfl ?_ | fail
  (refine AA (AI rfl ?_) <;> (refine AK rfl rfl (fun hc => ?_) (fun hc => ?_) <;> try omega) <;> refine AC (AB rfl (AE ?_)))
  all_goals
   repeat' first | refine nx rfl ?_ | fail
   exact AP rfl ⟨congrArg Value.bool (by simp [CJ, Bt, styL, List.lookup, many]; try omega), rfl⟩
 by_cases h19 : op = 19
 ·subst h19
  refine AA (AC (AB rfl ?_))
  repeat' first | refine nx rfl ?_ | fail
  refine AA (AI rfl ?_)
  repeat' first | refine nx rfl ?_ | fail
  (refine AA ?_ <;> (refine AK rfl rfl (fun hc => ?_) (fun hc => ?_) <;> try omega) <;> refine AC (AB rfl ?_))
  repeat' first | refine nx rfl ?_ | refine nf rfl ?_
  (refine AA ?_ <;> (refine AK rfl rfl (fun hc => ?_) (fun hc => ?_) <;> try omega) <;> refine AC (AB rfl ?_))
  repeat' first | refine nx rfl ?_ | refine nf rfl ?_
  (refine AA ?_ <;> (refine AK rfl rfl (fun hc => ?_) (fun hc => ?_) <;> try omega) <;> refine AC (AB rfl ?_))
  repeat' first | refine nx rfl ?_ | refine nf rfl ?_
  (refine AA ?_ <;> (refine AK rfl rfl (fun hc => ?_) (fun hc => ?_) <;> try omega) <;> refine AC (AB rfl ?_))
  repeat' first | refine nx rfl ?_ | refine nf rfl ?_
  (refine AA ?_ <;> (refine AK rfl rfl (fun hc => ?_) (fun hc => ?_) <;> try omega) <;> refine AC (AB rfl ?_))
  repeat' first | refine nx rfl ?_ | refine nf rfl ?_
  (refine AA ?_ <;> (refine AK rfl rfl (fun hc => ?_) (fun hc => ?_) <;> try omega) <;> refine AC (AB rfl ?_))
  repeat' first | refine nx rfl ?_ | refine nf rfl ?_
  (refine AA ?_ <;> (refine AK rfl rfl (fun hc => ?_) (fun hc => ?_) <;> try omega) <;> refine AC (AB rfl ?_))
  repeat' first | refine nx rfl ?_ | refine nf rfl ?_
  (refine AA ?_ <;> (refine AK rfl rfl (fun hc => ?_) (fun hc => ?_) <;> try omega) <;> refine AC (AB rfl ?_))
  repeat' first | refine nx rfl ?_ | refine nf rfl ?_
  (refine AA ?_ <;> (refine AK rfl rfl (fun hc => ?_) (fun hc => ?_) <;> try omega) <;> refine AC (AB rfl ?_))
  repeat' first | refine nx rfl ?_ | refine nf rfl ?_
  (refine AA ?_ <;> (refine AK rfl rfl (fun hc => ?_) (fun hc => ?_) <;> try omega) <;> refine AC (AB rfl ?_))
  repeat' first | refine nx rfl ?_ | refine nf rfl ?_
  (refine AA ?_ <;> (refine AK rfl rfl (fun hc => ?_) (fun hc => ?_) <;> try omega) <;> refine AC (AB rfl ?_))
  repeat' first | refine nx rfl ?_ | refine nf rfl ?_
  (refine AA ?_ <;> (refine AK rfl rfl (fun hc => ?_) (fun hc => ?_) <;> try omega) <;> refine AC (AB rfl ?_))
  repeat' first | refine nx rfl ?_ | fail
  (refine AA (AI rfl ?_) <;> (refine AK rfl rfl (fun hc => ?_) (fun hc => ?_) <;> try omega) <;> refine AC (AB rfl (AE ?_)))
  all_goals
   repeat' first | refine nx rfl ?_ | fail
   exact AP rfl ⟨congrArg Value.bool (by simp [CJ, Bt, styL, List.lookup, many]; try omega), rfl⟩
 by_cases h7 : op = 7
 ·subst h7
  refine AA (AC (AB rfl ?_))
  repeat' first | refine nx rfl ?_ | fail
  refine AA (AI rfl ?_)
  repeat' first | refine nx rfl ?_ | fail
  (refine AA ?_ <;> (refine AK rfl rfl (fun hc => ?_) (fun hc => ?_) <;> try omega) <;> refine AC (AB rfl ?_))
  repeat' first | refine nx rfl ?_ | refine nf rfl ?_
  (refine AA ?_ <;> (refine AK rfl rfl (fun hc => ?_) (fun hc => ?_) <;> try omega) <;> refine AC (AB rfl ?_))
  repeat' first | refine nx rfl ?_ | refine nf rfl ?_
  (refine AA ?_ <;> (refine AK rfl rfl (fun hc => ?_) (fun hc => ?_) <;> try omega) <;> refine AC (AB rfl ?_))
  repeat' first | refine nx rfl ?_ | refine nf rfl ?_
  (refine AA ?_ <;> (refine AK rfl rfl (fun hc => ?_) (fun hc => ?_) <;> try omega) <;> refine AC (AB rfl ?_))
  repeat' first | refine nx rfl ?_ | refine nf rfl ?_
  (refine AA ?_ <;> (refine AK rfl rfl (fun hc => ?_) (fun hc => ?_) <;> try omega) <;> refine AC (AB rfl ?_))
  repeat' first | refine nx rfl ?_ | refine nf rfl ?_
  (refine AA ?_ <;> (refine AK rfl rfl (fun hc => ?_) (fun hc => ?_) <;> try omega) <;> refine AC (AB rfl ?_))
  repeat' first | refine nx rfl ?_ | refine nf rfl ?_
  (refine AA ?_ <;> (refine AK rfl rfl (fun hc => ?_) (fun hc => ?_) <;> try omega) <;> refine AC (AB rfl ?_))
  repeat' first | refine nx rfl ?_ | refine nf rfl ?_
  (refine AA ?_ <;> (refine AK rfl rfl (fun hc => ?_) (fun hc => ?_) <;> try omega) <;> refine AC (AB rfl ?_))
  repeat' first | refine nx rfl ?_ | refine nf rfl ?_
  (refine AA ?_ <;> (refine AK rfl rfl (fun hc => ?_) (fun hc => ?_) <;> try omega) <;> refine AC (AB rfl ?_))
  repeat' first | refine nx rfl ?_ | refine nf rfl ?_
  (refine AA ?_ <;> (refine AK rfl rfl (fun hc => ?_) (fun hc => ?_) <;> try omega) <;> refine AC (AB rfl ?_))
  repeat' first | refine nx rfl ?_ | refine nf rfl ?_
  (refine AA ?_ <;> (refine AK rfl rfl (fun hc => ?_) (fun hc => ?_) <;> try omega) <;> refine AC (AB rfl ?_))
  repeat' first | refine nx rfl ?_ | refine nf rfl ?_
  (refine AA ?_ <;> (refine AK rfl rfl (fun hc => ?_) (fun hc => ?_) <;> try omega) <;> refine AC (AB rfl ?_))
  repeat' first | refine nx rfl ?_ | refine nf rfl ?_
  (refine AA ?_ <;> (refine AK rfl rfl (fun hc => ?_) (fun hc => ?_) <;> try omega) <;> refine AC (AB rfl ?_))
  repeat' first | refine nx rfl ?_ | fail
  (refine AA (AI rfl ?_) <;> (refine AK rfl rfl (fun hc => ?_) (fun hc => ?_) <;> try omega) <;> refine AC (AB rfl (AE ?_)))
  all_goals
   repeat' first | refine nx rfl ?_ | fail
   exact AP rfl ⟨congrArg Value.bool (by simp [CJ, Bt, styL, List.lookup, many]; try omega), rfl⟩
 by_cases h9 : op = 9
 ·subst h9
  refine AA (AC (AB rfl ?_))
  repeat' first | refine nx rfl ?_ | fail
  refine AA (AI rfl ?_)
  repeat' first | refine nx rfl ?_ | fail
  (refine AA ?_ <;> (refine AK rfl rfl (fun hc => ?_) (fun hc => ?_) <;> try omega) <;> refine AC (AB rfl ?_))
  repeat' first | refine nx rfl ?_ | refine nf rfl ?_
  (refine AA ?_ <;> (refine AK rfl rfl (fun hc => ?_) (fun hc => ?_) <;> try omega) <;> refine AC (AB rfl ?_))
  repeat' first | refine nx rfl ?_ | refine nf rfl ?_
  (refine AA ?_ <;> (refine AK rfl rfl (fun hc => ?_) (fun hc => ?_) <;> try omega) <;> refine AC (AB rfl ?_))
  repeat' first | refine nx rfl ?_ | refine nf rfl ?_
  (refine AA ?_ <;> (refine AK rfl rfl (fun hc => ?_) (fun hc => ?_) <;> try omega) <;> refine AC (AB rfl ?_))
  repeat' first | refine nx rfl ?_ | refine nf rfl ?_
  (refine AA ?_ <;> (refine AK rfl rfl (fun hc => ?_) (fun hc => ?_) <;> try omega) <;> refine AC (AB rfl ?_))
  repeat' first | refine nx rfl ?_ | refine nf rfl ?_
  (refine AA ?_ <;> (refine AK rfl rfl (fun hc => ?_) (fun hc => ?_) <;> try omega) <;> refine AC (AB rfl ?_))
  repeat' first | refine nx rfl ?_ | refine nf rfl ?_
  (refine AA ?_ <;> (refine AK rfl rfl (fun hc => ?_) (fun hc => ?_) <;> try omega) <;> refine AC (AB rfl ?_))
  repeat' first | refine nx rfl ?_ | refine nf rfl ?_
  (refine AA ?_ <;> (refine AK rfl rfl (fun hc => ?_) (fun hc => ?_) <;> try omega) <;> refine AC (AB rfl ?_))
  repeat' first | refine nx rfl ?_ | refine nf rfl ?_
  (refine AA ?_ <;> (refine AK rfl rfl (fun hc => ?_) (fun hc => ?_) <;> try omega) <;> refine AC (AB rfl ?_))
  repeat' first | refine nx rfl ?_ | refine nf rfl ?_
  (refine AA ?_ <;> (refine AK rfl rfl (fun hc => ?_) (fun hc => ?_) <;> try omega) <;> refine AC (AB rfl ?_))
  repeat' first | refine nx rfl ?_ | refine nf rfl ?_
  (refine AA ?_ <;> (refine AK rfl rfl (fun hc => ?_) (fun hc => ?_) <;> try omega) <;> refine AC (AB rfl ?_))
  repeat' first | refine nx rfl ?_ | refine nf rfl ?_
  (refine AA ?_ <;> (refine AK rfl rfl (fun hc => ?_) (fun hc => ?_) <;> try omega) <;> refine AC (AB rfl ?_))
  repeat' first | refine nx rfl ?_ | refine nf rfl ?_
  (refine AA ?_ <;> (refine AK rfl rfl (fun hc => ?_) (fun hc => ?_) <;> try omega) <;> refine AC (AB rfl ?_))
  repeat' first | refine nx rfl ?_ | refine nf rfl ?_
  (refine AA ?_ <;> (refine AK rfl rfl (fun hc => ?_) (fun hc => ?_) <;> try omega) <;> refine AC (AB rfl ?_))
  repeat' first | refine nx rfl ?_ | fail
  (refine AA (AI rfl ?_) <;> (refine AK rfl rfl (fun hc => ?_) (fun hc => ?_) <;> try omega) <;> refine AC (AB rfl (AE ?_)))
  all_goals
   repeat' first | refine nx rfl ?_ | fail
   exact AP rfl ⟨congrArg Value.bool (by simp [CJ, Bt, styL, List.lookup, many]; try omega), rfl⟩
 by_cases h10 : op = 10
 ·subst h10
  refine AA (AC (AB rfl ?_))
  repeat' first | refine nx rfl ?_ | fail
  refine AA (AI rfl ?_)
  repeat' first | refine nx rfl ?_ | fail
  (refine AA ?_ <;> (refine AK rfl rfl (fun hc => ?_) (fun hc => ?_) <;> try omega) <;> refine AC (AB rfl ?_))
  repeat' first | refine nx rfl ?_ | refine nf rfl ?_
  (refine AA ?_ <;> (refine AK rfl rfl (fun hc => ?_) (fun hc => ?_) <;> try omega) <;> refine AC (AB rfl ?_))
  repeat' first | refine nx rfl ?_ | refine nf rfl ?_
  (refine AA ?_ <;> (refine AK rfl rfl (fun hc => ?_) (fun hc => ?_) <;> try omega) <;> refine AC (AB rfl ?_))
  repeat' first | refine nx rfl ?_ | refine nf rfl ?_
  (refine AA ?_ <;> (refine AK rfl rfl (fun hc => ?_) (fun hc => ?_) <;> try omega) <;> refine AC (AB rfl ?_))
  repeat' first | refine nx rfl ?_ | refine nf rfl ?_
  (refine AA ?_ <;> (refine AK rfl rfl (fun hc => ?_) (fun hc => ?_) <;> try omega) <;> refine AC (AB rfl ?_))
  repeat' first | refine nx rfl ?_ | refine nf rfl ?_
  (refine AA ?_ <;> (refine AK rfl rfl (fun hc => ?_) (fun hc => ?_) <;> try omega) <;> refine AC (AB rfl ?_))
  repeat' first | refine nx rfl ?_ | refine nf rfl ?_
  (refine AA ?_ <;> (refine AK rfl rfl (fun hc => ?_) (fun hc => ?_) <;> try omega) <;> refine AC (AB rfl ?_))
  repeat' first | refine nx rfl ?_ | refine nf rfl ?_
  (refine AA ?_ <;> (refine AK rfl rfl (fun hc => ?_) (fun hc => ?_) <;> try omega) <;> refine AC (AB rfl ?_))
  repeat' first | refine nx rfl ?_ | refine nf rfl ?_
  (refine AA ?_ <;> (refine AK rfl rfl (fun hc => ?_) (fun hc => ?_) <;> try omega) <;> refine AC (AB rfl ?_))
  repeat' first | refine nx rfl ?_ | refine nf rfl ?_
  (refine AA ?_ <;> (refine AK rfl rfl (fun hc => ?_) (fun hc => ?_) <;> try omega) <;> refine AC (AB rfl ?_))
  repeat' first | refine nx rfl ?_ | refine nf rfl ?_
  (refine AA ?_ <;> (refine AK rfl rfl (fun hc => ?_) (fun hc => ?_) <;> try omega) <;> refine AC (AB rfl ?_))
  repeat' first | refine nx rfl ?_ | refine nf rfl ?_
  (refine AA ?_ <;> (refine AK rfl rfl (fun hc => ?_) (fun hc => ?_) <;> try omega) <;> refine AC (AB rfl ?_))
  repeat' first | refine nx rfl ?_ | refine nf rfl ?_
  (refine AA ?_ <;> (refine AK rfl rfl (fun hc => ?_) (fun hc => ?_) <;> try omega) <;> refine AC (AB rfl ?_))
  repeat' first | refine nx rfl ?_ | refine nf rfl ?_
  (refine AA ?_ <;> (refine AK rfl rfl (fun hc => ?_) (fun hc => ?_) <;> try omega) <;> refine AC (AB rfl ?_))
  repeat' first | refine nx rfl ?_ | refine nf rfl ?_
  (refine AA ?_ <;> (refine AK rfl rfl (fun hc => ?_) (fun hc => ?_) <;> try omega) <;> refine AC (AB rfl ?_))
  repeat' first | refine nx rfl ?_ | fail
  (refine AA (AI rfl ?_) <;> (refine AK rfl rfl (fun hc => ?_) (fun hc => ?_) <;> try omega) <;> refine AC (AB rfl (AE ?_)))
  all_goals
   repeat' first | refine nx rfl ?_ | fail
   exact AP rfl ⟨congrArg Value.bool (by simp [CJ, Bt, styL, List.lookup, many]; try omega), rfl⟩
 by_cases h16 : op = 16
 ·subst h16
  refine AA (AC (AB rfl ?_))
  repeat' first | refine nx rfl ?_ | fail
  refine AA (AI rfl ?_)
  repeat' first | refine nx rfl ?_ | fail
  (refine AA ?_ <;> (refine AK rfl rfl (fun hc => ?_) (fun hc => ?_) <;> try omega) <;> refine AC (AB rfl ?_))
  repeat' first | refine nx rfl ?_ | refine nf rfl ?_
  (refine AA ?_ <;> (refine AK rfl rfl (fun hc => ?_) (fun hc => ?_) <;> try omega) <;> refine AC (AB rfl ?_))
  repeat' first | refine nx rfl ?_ | refine nf rfl ?_
  (refine AA ?_ <;> (refine AK rfl rfl (fun hc => ?_) (fun hc => ?_) <;> try omega) <;> refine AC (AB rfl ?_))
  repeat' first | refine nx rfl ?_ | refine nf rfl ?_
  (refine AA ?_ <;> (refine AK rfl rfl (fun hc => ?_) (fun hc => ?_) <;> try omega) <;> refine AC (AB rfl ?_))
  repeat' first | refine nx rfl ?_ | refine nf rfl ?_
  (refine AA ?_ <;> (refine AK rfl rfl (fun hc => ?_) (fun hc => ?_) <;> try omega) <;> refine AC (AB rfl ?_))
  repeat' first | refine nx rfl ?_ | refine nf rfl ?_
  (refine AA ?_ <;> (refine AK rfl rfl (fun hc => ?_) (fun hc => ?_) <;> try omega) <;> refine AC (AB rfl ?_))
  repeat' first | refine nx rfl ?_ | refine nf rfl ?_
  (refine AA ?_ <;> (refine AK rfl rfl (fun hc => ?_) (fun hc => ?_) <;> try omega) <;> refine AC (AB rfl ?_))
  repeat' first | refine nx rfl ?_ | refine nf rfl ?_
  (refine AA ?_ <;> (refine AK rfl rfl (fun hc => ?_) (fun hc => ?_) <;> try omega) <;> refine AC (AB rfl ?_))
  repeat' first | refine nx rfl ?_ | refine nf rfl ?_
  (refine AA ?_ <;> (refine AK rfl rfl (fun hc => ?_) (fun hc => ?_) <;> try omega) <;> refine AC (AB rfl ?_))
  repeat' first | refine nx rfl ?_ | refine nf rfl ?_
  (refine AA ?_ <;> (refine AK rfl rfl (fun hc => ?_) (fun hc => ?_) <;> try omega) <;> refine AC (AB rfl ?_))
  repeat' first | refine nx rfl ?_ | refine nf rfl ?_
  (refine AA ?_ <;> (refine AK rfl rfl (fun hc => ?_) (fun hc => ?_) <;> try omega) <;> refine AC (AB rfl ?_))
  repeat' first | refine nx rfl ?_ | refine nf rfl ?_
  (refine AA ?_ <;> (refine AK rfl rfl (fun hc => ?_) (fun hc => ?_) <;> try omega) <;> refine AC (AB rfl ?_))
  repeat' first | refine nx rfl ?_ | refine nf rfl ?_
  (refine AA ?_ <;> (refine AK rfl rfl (fun hc => ?_) (fun hc => ?_) <;> try omega) <;> refine AC (AB rfl ?_))
  repeat' first | refine nx rfl ?_ | refine nf rfl ?_
  (refine AA ?_ <;> (refine AK rfl rfl (fun hc => ?_) (fun hc => ?_) <;> try omega) <;> refine AC (AB rfl ?_))
  repeat' first | refine nx rfl ?_ | refine nf rfl ?_
  (refine AA ?_ <;> (refine AK rfl rfl (fun hc => ?_) (fun hc => ?_) <;> try omega) <;> refine AC (AB rfl ?_))
  repeat' first | refine nx rfl ?_ | refine nf rfl ?_
  (refine AA ?_ <;> (refine AK rfl rfl (fun hc => ?_) (fun hc => ?_) <;> try omega) <;> refine AC (AB rfl ?_))
  repeat' first | refine nx rfl ?_ | fail
  (refine AA (AI rfl ?_) <;> (refine AK rfl rfl (fun hc => ?_) (fun hc => ?_) <;> try omega) <;> refine AC (AB rfl (AE ?_)))
  all_goals
   repeat' first | refine nx rfl ?_ | fail
   exact AP rfl ⟨congrArg Value.bool (by simp [CJ, Bt, styL, List.lookup, many]; try omega), rfl⟩
 by_cases h17 : op = 17
 ·subst h17
  refine AA (AC (AB rfl ?_))
  repeat' first | refine nx rfl ?_ | fail
  refine AA (AI rfl ?_)
  repeat' first | refine nx rfl ?_ | fail
  (refine AA ?_ <;> (refine AK rfl rfl (fun hc => ?_) (fun hc => ?_) <;> try omega) <;> refine AC (AB rfl ?_))
  repeat' first | refine nx rfl ?_ | refine nf rfl ?_
  (refine AA ?_ <;> (refine AK rfl rfl (fun hc => ?_) (fun hc => ?_) <;> try omega) <;> refine AC (AB rfl ?_))
  repeat' first | refine nx rfl ?_ | refine nf rfl ?_
  (refine AA ?_ <;> (refine AK rfl rfl (fun hc => ?_) (fun hc => ?_) <;> try omega) <;> refine AC (AB rfl ?_))
  repeat' first | refine nx rfl ?_ | refine nf rfl ?_
  (refine AA ?_ <;> (refine AK rfl rfl (fun hc => ?_) (fun hc => ?_) <;> try omega) <;> refine AC (AB rfl ?_))
  repeat' first | refine nx rfl ?_ | refine nf rfl ?_
  (refine AA ?_ <;> (refine AK rfl rfl (fun hc => ?_) (fun hc => ?_) <;> try omega) <;> refine AC (AB rfl ?_))
  repeat' first | refine nx rfl ?_ | refine nf rfl ?_
  (refine AA ?_ <;> (refine AK rfl rfl (fun hc => ?_) (fun hc => ?_) <;> try omega) <;> refine AC (AB rfl ?_))
  repeat' first | refine nx rfl ?_ | refine nf rfl ?_
  (refine AA ?_ <;> (refine AK rfl rfl (fun hc => ?_) (fun hc => ?_) <;> try omega) <;> refine AC (AB rfl ?_))
  repeat' first | refine nx rfl ?_ | refine nf rfl ?_
  (refine AA ?_ <;> (refine AK rfl rfl (fun hc => ?_) (fun hc => ?_) <;> try omega) <;> refine AC (AB rfl ?_))
  repeat' first | refine nx rfl ?_ | refine nf rfl ?_
  (refine AA ?_ <;> (refine AK rfl rfl (fun hc => ?_) (fun hc => ?_) <;> try omega) <;> refine AC (AB rfl ?_))
  repeat' first | refine nx rfl ?_ | refine nf rfl ?_
  (refine AA ?_ <;> (refine AK rfl rfl (fun hc => ?_) (fun hc => ?_) <;> try omega) <;> refine AC (AB rfl ?_))
  repeat' first | refine nx rfl ?_ | refine nf rfl ?_
  (refine AA ?_ <;> (refine AK rfl rfl (fun hc => ?_) (fun hc => ?_) <;> try omega) <;> refine AC (AB rfl ?_))
  repeat' first | refine nx rfl ?_ | refine nf rfl ?_
  (refine AA ?_ <;> (refine AK rfl rfl (fun hc => ?_) (fun hc => ?_) <;> try omega) <;> refine AC (AB rfl ?_))
  repeat' first | refine nx rfl ?_ | refine nf rfl ?_
  (refine AA ?_ <;> (refine AK rfl rfl (fun hc => ?_) (fun hc => ?_) <;> try omega) <;> refine AC (AB rfl ?_))
  repeat' first | refine nx rfl ?_ | refine nf rfl ?_
  (refine AA ?_ <;> (refine AK rfl rfl (fun hc => ?_) (fun hc => ?_) <;> try omega) <;> refine AC (AB rfl ?_))
  repeat' first | refine nx rfl ?_ | refine nf rfl ?_
  (refine AA ?_ <;> (refine AK rfl rfl (fun hc => ?_) (fun hc => ?_) <;> try omega) <;> refine AC (AB rfl ?_))
  repeat' first | refine nx rfl ?_ | refine nf rfl ?_
  (refine AA ?_ <;> (refine AK rfl rfl (fun hc => ?_) (fun hc => ?_) <;> try omega) <;> refine AC (AB rfl ?_))
  repeat' first | refine nx rfl ?_ | refine nf rfl ?_
  (refine AA ?_ <;> (refine AK rfl rfl (fun hc => ?_) (fun hc => ?_) <;> try omega) <;> refine AC (AB rfl ?_))
  repeat' first | refine nx rfl ?_ | fail
  (refine AA (AI rfl ?_) <;> (refine AK rfl rfl (fun hc => ?_) (fun hc => ?_) <;> try omega) <;> refine AC (AB rfl (AE ?_)))
  all_goals
   repeat' first | refine nx rfl ?_ | fail
   exact AP rfl ⟨congrArg Value.bool (by simp [CJ, Bt, styL, List.lookup, many]; try omega), rfl⟩
 by_cases h5 : op = 5
 ·subst h5
  refine AA (AC (AB rfl ?_))
  repeat' first | refine nx rfl ?_ | fail
  refine AA (AI rfl ?_)
  repeat' first | refine nx rfl ?_ | fail
  (refine AA ?_ <;> (refine AK rfl rfl (fun hc => ?_) (fun hc => ?_) <;> try omega) <;> refine AC (AB rfl ?_))
  repeat' first | refine nx rfl ?_ | refine nf rfl ?_
  (refine AA ?_ <;> (refine AK rfl rfl (fun hc => ?_) (fun hc => ?_) <;> try omega) <;> refine AC (AB rfl ?_))
  repeat' first | refine nx rfl ?_ | refine nf rfl ?_
  (refine AA ?_ <;> (refine AK rfl rfl (fun hc => ?_) (fun hc => ?_) <;> try omega) <;> refine AC (AB rfl ?_))
  repeat' first | refine nx rfl ?_ | refine nf rfl ?_
  (refine AA ?_ <;> (refine AK rfl rfl (fun hc => ?_) (fun hc => ?_) <;> try omega) <;> refine AC (AB rfl ?_))
  repeat' first | refine nx rfl ?_ | refine nf rfl ?_
  (refine AA ?_ <;> (refine AK rfl rfl (fun hc => ?_) (fun hc => ?_) <;> try omega) <;> refine AC (AB rfl ?_))
  repeat' first | refine nx rfl ?_ | refine nf rfl ?_
  (refine AA ?_ <;> (refine AK rfl rfl (fun hc => ?_) (fun hc => ?_) <;> try omega) <;> refine AC (AB rfl ?_))
  repeat' first | refine nx rfl ?_ | refine nf rfl ?_
  (refine AA ?_ <;> (refine AK rfl rfl (fun hc => ?_) (fun hc => ?_) <;> try omega) <;> refine AC (AB rfl ?_))
  repeat' first | refine nx rfl ?_ | refine nf rfl ?_
  (refine AA ?_ <;> (refine AK rfl rfl (fun hc => ?_) (fun hc => ?_) <;> try omega) <;> refine AC (AB rfl ?_))
  repeat' first | refine nx rfl ?_ | refine nf rfl ?_
  (refine AA ?_ <;> (refine AK rfl rfl (fun hc => ?_) (fun hc => ?_) <;> try omega) <;> refine AC (AB rfl ?_))
  repeat' first | refine nx rfl ?_ | refine nf rfl ?_
  (refine AA ?_ <;> (refine AK rfl rfl (fun hc => ?_) (fun hc => ?_) <;> try omega) <;> refine AC (AB rfl ?_))
  repeat' first | refine nx rfl ?_ | refine nf rfl ?_
  (refine AA ?_ <;> (refine AK rfl rfl (fun hc => ?_) (fun hc => ?_) <;> try omega) <;> refine AC (AB rfl ?_))
  repeat' first | refine nx rfl ?_ | refine nf rfl ?_
  (refine AA ?_ <;> (refine AK rfl rfl (fun hc => ?_) (fun hc => ?_) <;> try omega) <;> refine AC (AB rfl ?_))
  repeat' first | refine nx rfl ?_ | refine nf rfl ?_
  (refine AA ?_ <;> (refine AK rfl rfl (fun hc => ?_) (fun hc => ?_) <;> try omega) <;> refine AC (AB rfl ?_))
  repeat' first | refine nx rfl ?_ | refine nf rfl ?_
  (refine AA ?_ <;> (refine AK rfl rfl (fun hc => ?_) (fun hc => ?_) <;> try omega) <;> refine AC (AB rfl ?_))
  repeat' first | refine nx rfl ?_ | refine nf rfl ?_
  (refine AA ?_ <;> (refine AK rfl rfl (fun hc => ?_) (fun hc => ?_) <;> try omega) <;> refine AC (AB rfl ?_))
  repeat' first | refine nx rfl ?_ | refine nf rfl ?_
  (refine AA ?_ <;> (refine AK rfl rfl (fun hc => ?_) (fun hc => ?_) <;> try omega) <;> refine AC (AB rfl ?_))
  repeat' first | refine nx rfl ?_ | refine nf rfl ?_
  (refine AA ?_ <;> (refine AK rfl rfl (fun hc => ?_) (fun hc => ?_) <;> try omega) <;> refine AC (AB rfl ?_))
  repeat' first | refine nx rfl ?_ | refine nf rfl ?_
  (refine AA ?_ <;> (refine AK rfl rfl (fun hc => ?_) (fun hc => ?_) <;> try omega) <;> refine AC (AB rfl ?_))
  repeat' first | refine nx rfl ?_ | fail
  (refine AA (AI rfl ?_) <;> (refine W_geq rfl rfl (fun hc => ?_) (fun hc => ?_) <;> try omega) <;> refine AC (AB rfl (AE ?_)))
  all_goals
   repeat' first | refine nx rfl ?_ | fail
   exact AP rfl ⟨congrArg Value.bool (by simp [CJ, Bt, styL, List.lookup, many]; try omega), rfl⟩
 by_cases h6 : op = 6
 ·subst h6
  refine AA (AC (AB rfl ?_))
  repeat' first | refine nx rfl ?_ | fail
  refine AA (AI rfl ?_)
  repeat' first | refine nx rfl ?_ | fail
  (refine AA ?_ <;> (refine AK rfl rfl (fun hc => ?_) (fun hc => ?_) <;> try omega) <;> refine AC (AB rfl ?_))
  repeat' first | refine nx rfl ?_ | refine nf rfl ?_
  (refine AA ?_ <;> (refine AK rfl rfl (fun hc => ?_) (fun hc => ?_) <;> try omega) <;> refine AC (AB rfl ?_))
  repeat' first | refine nx rfl ?_ | refine nf rfl ?_
  (refine AA ?_ <;> (refine AK rfl rfl (fun hc => ?_) (fun hc => ?_) <;> try omega) <;> refine AC (AB rfl ?_))
  repeat' first | refine nx rfl ?_ | refine nf rfl ?_
  (refine AA ?_ <;> (refine AK rfl rfl (fun hc => ?_) (fun hc => ?_) <;> try omega) <;> refine AC (AB rfl ?_))
  repeat' first | refine nx rfl ?_ | refine nf rfl ?_
  (refine AA ?_ <;> (refine AK rfl rfl (fun hc => ?_) (fun hc => ?_) <;> try omega) <;> refine AC (AB rfl ?_))
  repeat' first | refine nx rfl ?_ | refine nf rfl ?_
  (refine AA ?_ <;> (refine AK rfl rfl (fun hc => ?_) (fun hc => ?_) <;> try omega) <;> refine AC (AB rfl ?_))
  repeat' first | refine nx rfl ?_ | refine nf rfl ?_
  (refine AA ?_ <;> (refine AK rfl rfl (fun hc => ?_) (fun hc => ?_) <;> try omega) <;> refine AC (AB rfl ?_))
  repeat' first | refine nx rfl ?_ | refine nf rfl ?_
  (refine AA ?_ <;> (refine AK rfl rfl (fun hc => ?_) (fun hc => ?_) <;> try omega) <;> refine AC (AB rfl ?_))
  repeat' first | refine nx rfl ?_ | refine nf rfl ?_
  (refine AA ?_ <;> (refine AK rfl rfl (fun hc => ?_) (fun hc => ?_) <;> try omega) <;> refine AC (AB rfl ?_))
  repeat' first | refine nx rfl ?_ | refine nf rfl ?_
  (refine AA ?_ <;> (refine AK rfl rfl (fun hc => ?_) (fun hc => ?_) <;> try omega) <;> refine AC (AB rfl ?_))
  repeat' first | refine nx rfl ?_ | refine nf rfl ?_
  (refine AA ?_ <;> (refine AK rfl rfl (fun hc => ?_) (fun hc => ?_) <;> try omega) <;> refine AC (AB rfl ?_))
  repeat' first | refine nx rfl ?_ | refine nf rfl ?_
  (refine AA ?_ <;> (refine AK rfl rfl (fun hc => ?_) (fun hc => ?_) <;> try omega) <;> refine AC (AB rfl ?_))
  repeat' first | refine nx rfl ?_ | refine nf rfl ?_
  (refine AA ?_ <;> (refine AK rfl rfl (fun hc => ?_) (fun hc => ?_) <;> try omega) <;> refine AC (AB rfl ?_))
  repeat' first | refine nx rfl ?_ | refine nf rfl ?_
  (refine AA ?_ <;> (refine AK rfl rfl (fun hc => ?_) (fun hc => ?_) <;> try omega) <;> refine AC (AB rfl ?_))
  repeat' first | refine nx rfl ?_ | refine nf rfl ?_
  (refine AA ?_ <;> (refine AK rfl rfl (fun hc => ?_) (fun hc => ?_) <;> try omega) <;> refine AC (AB rfl ?_))
  repeat' first | refine nx rfl ?_ | refine nf rfl ?_
  (refine AA ?_ <;> (refine AK rfl rfl (fun hc => ?_) (fun hc => ?_) <;> try omega) <;> refine AC (AB rfl ?_))
  repeat' first | refine nx rfl ?_ | refine nf rfl ?_
  (refine AA ?_ <;> (refine AK rfl rfl (fun hc => ?_) (fun hc => ?_) <;> try omega) <;> refine AC (AB rfl ?_))
  repeat' first | refine nx rfl ?_ | refine nf rfl ?_
  (refine AA ?_ <;> (refine AK rfl rfl (fun hc => ?_) (fun hc => ?_) <;> try omega) <;> refine AC (AB rfl ?_))
  repeat' first | refine nx rfl ?_ | refine nf rfl ?_
  (refine AA ?_ <;> (refine AK rfl rfl (fun hc => ?_) (fun hc => ?_) <;> try omega) <;> refine AC (AB rfl ?_))
  repeat' first | refine nx rfl ?_ | fail
  (refine AA (AI rfl ?_) <;> (refine W_geq rfl rfl (fun hc => ?_) (fun hc => ?_) <;> try omega) <;> refine AC (AB rfl (AE ?_)))
  all_goals
   repeat' first | refine nx rfl ?_ | fail
   exact AP rfl ⟨congrArg Value.bool (by simp [CJ, Bt, styL, List.lookup, many]; try omega), rfl⟩
 refine AA (AC (AB rfl ?_))
 repeat' first | refine nx rfl ?_ | fail
 refine AA (AI rfl ?_)
 repeat' first | refine nx rfl ?_ | fail
 (refine AA ?_ <;> (refine AK rfl rfl (fun hc => ?_) (fun hc => ?_) <;> try omega) <;> refine AC (AB rfl ?_))
 repeat' first | refine nx rfl ?_ | refine nf rfl ?_
 (refine AA ?_ <;> (refine AK rfl rfl (fun hc => ?_) (fun hc => ?_) <;> try omega) <;> refine AC (AB rfl ?_))
 repeat' first | refine nx rfl ?_ | refine nf rfl ?_
 (refine AA ?_ <;> (refine AK rfl rfl (fun hc => ?_) (fun hc => ?_) <;> try omega) <;> refine AC (AB rfl ?_))
 repeat' first | refine nx rfl ?_ | refine nf rfl ?_
 (refine AA ?_ <;> (refine AK rfl rfl (fun hc => ?_) (fun hc => ?_) <;> try omega) <;> refine AC (AB rfl ?_))
 repeat' first | refine nx rfl ?_ | refine nf rfl ?_
 (refine AA ?_ <;> (refine AK rfl rfl (fun hc => ?_) (fun hc => ?_) <;> try omega) <;> refine AC (AB rfl ?_))
 repeat' first | refine nx rfl ?_ | refine nf rfl ?_
 (refine AA ?_ <;> (refine AK rfl rfl (fun hc => ?_) (fun hc => ?_) <;> try omega) <;> refine AC (AB rfl ?_))
 repeat' first | refine nx rfl ?_ | refine nf rfl ?_
 (refine AA ?_ <;> (refine AK rfl rfl (fun hc => ?_) (fun hc => ?_) <;> try omega) <;> refine AC (AB rfl ?_))
 repeat' first | refine nx rfl ?_ | refine nf rfl ?_
 (refine AA ?_ <;> (refine AK rfl rfl (fun hc => ?_) (fun hc => ?_) <;> try omega) <;> refine AC (AB rfl ?_))
 repeat' first | refine nx rfl ?_ | refine nf rfl ?_
 (refine AA ?_ <;> (refine AK rfl rfl (fun hc => ?_) (fun hc => ?_) <;> try omega) <;> refine AC (AB rfl ?_))
 repeat' first | refine nx rfl ?_ | refine nf rfl ?_
 (refine AA ?_ <;> (refine AK rfl rfl (fun hc => ?_) (fun hc => ?_) <;> try omega) <;> refine AC (AB rfl ?_))
 repeat' first | refine nx rfl ?_ | refine nf rfl ?_
 (refine AA ?_ <;> (refine AK rfl rfl (fun hc => ?_) (fun hc => ?_) <;> try omega) <;> refine AC (AB rfl ?_))
 repeat' first | refine nx rfl ?_ | refine nf rfl ?_
 (refine AA ?_ <;> (refine AK rfl rfl (fun hc => ?_) (fun hc => ?_) <;> try omega) <;> refine AC (AB rfl ?_))
 repeat' first | refine nx rfl ?_ | refine nf rfl ?_
 (refine AA ?_ <;> (refine AK rfl rfl (fun hc => ?_) (fun hc => ?_) <;> try omega) <;> refine AC (AB rfl ?_))
 repeat' first | refine nx rfl ?_ | refine nf rfl ?_
 (refine AA ?_ <;> (refine AK rfl rfl (fun hc => ?_) (fun hc => ?_) <;> try omega) <;> refine AC (AB rfl ?_))
 repeat' first | refine nx rfl ?_ | refine nf rfl ?_
 (refine AA ?_ <;> (refine AK rfl rfl (fun hc => ?_) (fun hc => ?_) <;> try omega) <;> refine AC (AB rfl ?_))
 repeat' first | refine nx rfl ?_ | refine nf rfl ?_
 (refine AA ?_ <;> (refine AK rfl rfl (fun hc => ?_) (fun hc => ?_) <;> try omega) <;> refine AC (AB rfl ?_))
 repeat' first | refine nx rfl ?_ | refine nf rfl ?_
 (refine AA ?_ <;> (refine AK rfl rfl (fun hc => ?_) (fun hc => ?_) <;> try omega) <;> refine AC (AB rfl ?_))
 repeat' first | refine nx rfl ?_ | refine nf rfl ?_
 (refine AA ?_ <;> (refine AK rfl rfl (fun hc => ?_) (fun hc => ?_) <;> try omega) <;> refine AC (AB rfl ?_))
 repeat' first | refine nx rfl ?_ | refine nf rfl ?_
 (refine AA ?_ <;> (refine AK rfl rfl (fun hc => ?_) (fun hc => ?_) <;> try omega) <;> refine AC (AB rfl ?_))
 repeat' first | refine nx rfl ?_ | refine nf rfl ?_
 refine AA (AC (AB rfl ?_))
 repeat' first | refine nx rfl ?_ | fail
 refine AP rfl ⟨by rw [args_else]; rfl; intro k hk1 hk2 he; omega, rfl⟩
end Go.Proofs.YtfcgdbmoncnibaaGreatDoor
namespace Go.Proofs.YtfcgdbmoncnibaaGreatDoor
open Go.RowKit
set_option linter.unusedVariables false
def latB (f : Fml) : Bool := decide (f.op = 15) && decide (f.val = 1)
def nodeR (f : Fml) : Bool :=
 CJ f.op f.args.length && (decide (f.op = 3) == !f.name.isEmpty) && (!decide (f.op = 3) || BN f.name) && numB f.val && numB f.bound &&
 !(!decide (f.val = 0) && !decide (f.op = 3) && !(decide (f.op = 16) || decide (f.op = 17)) && !latB f) && !(!decide (f.bound = 0) && !(decide (f.op = 13) || decide (f.op = 14)))
theorem nodeR_eq (f : Fml) : nodeR f = Cn f.op f.name f.val f.bound f.args.length := by
 unfold nodeR Cn CJ latB numB
 have hE : BN [] = false := rfl
 generalize f.args.length = k
 cases hs : Bt f.op with
 | none => simp
 | some s =>
  rcases op_cases hs with h | h | h | h | h | h | h | h | h | h | h | h | h | h | h | h | h | h | h <;> rw [h] at hs ⊢ <;> simp [Bt, styL, List.lookup] at hs <;> subst hs <;> rw [Bool.eq_iff_iff]
  all_goals
   by_cases hN : BN f.name = true
   ·have hne : f.name ≠ [] := fun e => by have := (BV hN).1; rw [e] at this; simp at this
    simp [hN, hne]
    try omega
   ·have hN : BN f.name = false := by simpa using hN
    by_cases hn : f.name = []
    ·by_cases hm : k ≤ many
     ·simp [hn, hE, hm]
      try omega
     ·simp [hn, hE, hm]
      try omega
    ·simp [hN, hn]
theorem okL_app : ∀ (l m : List Fml), okL (l ++ m) = (okL l && okL m)
 | [], m => by simp [okL]
 | a :: l, m => by simp [okL, okL_app l m, Bool.and_assoc]
theorem numB0 : numB 0 = true := rfl
set_option maxHeartbeats 3200000 in
set_option maxRecDepth 8000 in
theorem printable_ok : ∀ (N : Nat) (f : Fml), szF f ≤ N → szF f ≤ 1000000 → ∀ (w : World) (v : Value), FAt A2 w v f → Fn Tryz.prog 20 [v] w fun u w' => u = .bool (okF f) ∧ Ext w w' := by
 intro N
 induction N with
 | zero => intro f hN; have := szF_pos f; omega
 | succ N ih =>
 intro f hN hz w v hf
 obtain ⟨av, rfl, L, hS, hFA⟩ := hf.form
 obtain ⟨a, c, rfl, hS'⟩ := id hS
 have hsz := szF_eq f
 have hal : f.args.length ≤ 1000000 := by have := szL_len f.args; omega
 refine Ac Tryz.func20 rfl Tryz.ntmps20 (Nat.le_of_ble_eq_true rfl) (by kernel_rfl) ?_
 repeat' first | refine nx rfl ?_ | fail
 (refine AA ?_; refine BY (L := fcC f (.slice a f.args.length c)) rfl (fun w1 n1 => ?_))
 have b1 := n1.blk
 have k1 := n1.keep
 have c0 : w1.cell? ⟨w.heap.size, 0 + 0, none⟩ = some (.int .i64 f.op) := b1.cell rfl
 have c1 : w1.cell? ⟨w.heap.size, 0 + 1, none⟩ = some (AM f.name) := b1.cell rfl
 have c2 : w1.cell? ⟨w.heap.size, 0 + 2, none⟩ = some (.int .i64 f.val) := b1.cell rfl
 have c3 : w1.cell? ⟨w.heap.size, 0 + 3, none⟩ = some (.int .i64 f.bound) := b1.cell rfl
 have c4 : w1.cell? ⟨w.heap.size, 0 + 4, none⟩ = some (.slice a f.args.length c) := b1.cell rfl
 refine AC (AB rfl (AE ?_))
 repeat' first | refine AE ?_ | refine Cu ?_ | refine Cx ?_
 generalize hI : decide (f.op = 3) = bI
 refine B4 (α := Unit) (fun _ => [(1, pt w.heap.size), (3, .bool bI)]) (fun _ W => w1 = W) ?_ ?_
 ·by_cases h3 : f.op = 3
  ·obtain rfl : bI = true := by rw [← hI]; simp [h3]
   (refine AA (AD rfl ?_) <;> refine AG rfl (Blk.cell (by assumption) (by rfl)) ?_ <;> (refine AK rfl rfl (fun hc => ?_) (fun hc => ?_) <;> try omega) <;> refine AC (AB rfl (AE ?_)))
   exact Ap () ⟨rfl, rfl, trivial⟩ rfl
  ·obtain rfl : bI = false := by rw [← hI]; simp [h3]
   (refine AA (AD rfl ?_) <;> refine AG rfl (Blk.cell (by assumption) (by rfl)) ?_ <;> (refine AK rfl rfl (fun hc => ?_) (fun hc => ?_) <;> try omega) <;> refine AC (AB rfl (AE ?_)))
   exact Ap () ⟨rfl, rfl, trivial⟩ rfl
 rintro _ _ f1 rfl
 repeat' first | refine AE ?_ | refine Cu ?_ | refine Cx ?_
 generalize hS2 : (decide (f.op = 16) || decide (f.op = 17)) = bS
 refine B4 (α := Unit) (fun _ => [(1, pt w.heap.size), (3, .bool bI), (4, .bool bS)]) (fun _ W => w1 = W) ?_ ?_
 ·by_cases h16 : f.op = 16
  ·obtain rfl : bS = true := by rw [← hS2]; simp [h16]
   (refine AA (AD rfl ?_) <;> refine AG rfl (Blk.cell (by assumption) (by rfl)) ?_ <;> (refine AK rfl rfl (fun hc => ?_) (fun hc => ?_) <;> try omega) <;> refine AB rfl (AJ rfl (AJ rfl (AJ rfl (AL rfl (AB rfl (AC (AB rfl (AE ?_)))))))))
   exact Ap () ⟨rfl, rfl, rfl, trivial⟩ rfl
  ·by_cases h17 : f.op = 17
   ·obtain rfl : bS = true := by rw [← hS2]; simp [h17]
    (refine AA (AD rfl ?_) <;> refine AG rfl (Blk.cell (by assumption) (by rfl)) ?_ <;> (refine AK rfl rfl (fun hc => ?_) (fun hc => ?_) <;> try omega) <;> refine AB rfl (AF rfl (AD rfl ?_)) <;> (refine AF rfl ?_; refine AG rfl (Blk.cell (by assumption) (by rfl)) ?_) <;> (refine AF rfl ?_; (refine AK rfl rfl (fun hc => ?_) (fun hc => ?_) <;> try omega)) <;> refine AQ rfl (AB rfl (AC (AB rfl (AE ?_)))))
    exact Ap () ⟨rfl, rfl, rfl, trivial⟩ rfl
   ·obtain rfl : bS = false := by rw [← hS2]; simp [h16, h17]
    (refine AA (AD rfl ?_) <;> refine AG rfl (Blk.cell (by assumption) (by rfl)) ?_ <;> (refine AK rfl rfl (fun hc => ?_) (fun hc => ?_) <;> try omega) <;> refine AB rfl (AF rfl (AD rfl ?_)) <;> (refine AF rfl ?_; refine AG rfl (Blk.cell (by assumption) (by rfl)) ?_) <;> (refine AF rfl ?_; (refine AK rfl rfl (fun hc => ?_) (fun hc => ?_) <;> try omega)) <;> refine AQ rfl (AB rfl (AC (AB rfl (AE ?_)))))
    exact Ap () ⟨rfl, rfl, rfl, trivial⟩ rfl
 rintro _ _ f2 rfl
 repeat' first | refine AE ?_ | refine Cu ?_ | refine Cx ?_
 generalize hB2 : (decide (f.op = 13) || decide (f.op = 14)) = bB
 refine B4 (α := Unit) (fun _ => [(1, pt w.heap.size), (3, .bool bI), (4, .bool bS), (5, .bool bB)]) (fun _ W => w1 = W) ?_ ?_
 ·by_cases h16 : f.op = 13
  ·obtain rfl : bB = true := by rw [← hB2]; simp [h16]
   (refine AA (AD rfl ?_) <;> refine AG rfl (Blk.cell (by assumption) (by rfl)) ?_ <;> (refine AK rfl rfl (fun hc => ?_) (fun hc => ?_) <;> try omega) <;> refine AB rfl (AJ rfl (AJ rfl (AJ rfl (AL rfl (AB rfl (AC (AB rfl (AE ?_)))))))))
   exact Ap () ⟨rfl, rfl, rfl, rfl, trivial⟩ rfl
  ·by_cases h17 : f.op = 14
   ·obtain rfl : bB = true := by rw [← hB2]; simp [h17]
    (refine AA (AD rfl ?_) <;> refine AG rfl (Blk.cell (by assumption) (by rfl)) ?_ <;> (refine AK rfl rfl (fun hc => ?_) (fun hc => ?_) <;> try omega) <;> refine AB rfl (AF rfl (AD rfl ?_)) <;> (refine AF rfl ?_; refine AG rfl (Blk.cell (by assumption) (by rfl)) ?_) <;> (refine AF rfl ?_; (refine AK rfl rfl (fun hc => ?_) (fun hc => ?_) <;> try omega)) <;> refine AQ rfl (AB rfl (AC (AB rfl (AE ?_)))))
    exact Ap () ⟨rfl, rfl, rfl, rfl, trivial⟩ rfl
   ·obtain rfl : bB = false := by rw [← hB2]; simp [h16, h17]
    (refine AA (AD rfl ?_) <;> refine AG rfl (Blk.cell (by assumption) (by rfl)) ?_ <;> (refine AK rfl rfl (fun hc => ?_) (fun hc => ?_) <;> try omega) <;> refine AB rfl (AF rfl (AD rfl ?_)) <;> (refine AF rfl ?_; refine AG rfl (Blk.cell (by assumption) (by rfl)) ?_) <;> (refine AF rfl ?_; (refine AK rfl rfl (fun hc => ?_) (fun hc => ?_) <;> try omega)) <;> refine AQ rfl (AB rfl (AC (AB rfl (AE ?_)))))
    exact Ap () ⟨rfl, rfl, rfl, rfl, trivial⟩ rfl
 rintro _ _ f3 rfl
 repeat' first | refine AE ?_ | refine Cu ?_ | refine Cx ?_
 generalize hL2 : latB f = bL
 refine B4 (α := Unit) (fun _ => [(1, pt w.heap.size), (3, .bool bI), (4, .bool bS), (5, .bool bB), (6, .bool bL)]) (fun _ W => w1 = W) ?_ ?_
 ·by_cases h15 : f.op = 15
  ·by_cases h1 : f.val = 1
   ·obtain rfl : bL = true := by rw [← hL2]; simp [latB, h15, h1]
    (refine AA (AD rfl ?_) <;> refine AG rfl (Blk.cell (by assumption) (by rfl)) ?_ <;> (refine AK rfl rfl (fun hc => ?_) (fun hc => ?_) <;> try omega) <;> refine AB rfl (AF rfl (AD rfl ?_)) <;> (refine AF rfl ?_; refine AG rfl (Blk.cell (by assumption) (by rfl)) ?_) <;> (refine AF rfl ?_; (refine AK rfl rfl (fun hc => ?_) (fun hc => ?_) <;> try omega)) <;> refine AL rfl (AB rfl (AC (AB rfl (AE ?_)))))
    exact Ap () ⟨rfl, rfl, rfl, rfl, rfl, trivial⟩ rfl
   ·obtain rfl : bL = false := by rw [← hL2]; simp [latB, h1]
    (refine AA (AD rfl ?_) <;> refine AG rfl (Blk.cell (by assumption) (by rfl)) ?_ <;> (refine AK rfl rfl (fun hc => ?_) (fun hc => ?_) <;> try omega) <;> refine AB rfl (AF rfl (AD rfl ?_)) <;> (refine AF rfl ?_; refine AG rfl (Blk.cell (by assumption) (by rfl)) ?_) <;> (refine AF rfl ?_; (refine AK rfl rfl (fun hc => ?_) (fun hc => ?_) <;> try omega)) <;> refine AL rfl (AB rfl (AC (AB rfl (AE ?_)))))
    exact Ap () ⟨rfl, rfl, rfl, rfl, rfl, trivial⟩ rfl
  ·obtain rfl : bL = false := by rw [← hL2]; simp [latB, h15]
   (refine AA (AD rfl ?_) <;> refine AG rfl (Blk.cell (by assumption) (by rfl)) ?_ <;> (refine AK rfl rfl (fun hc => ?_) (fun hc => ?_) <;> try omega) <;> refine AB rfl (AJ rfl (AJ rfl (AJ rfl (AQ rfl (AB rfl (AC (AB rfl (AE ?_)))))))))
   exact Ap () ⟨rfl, rfl, rfl, rfl, rfl, trivial⟩ rfl
 rintro _ _ f4 rfl
 repeat' first | refine AE ?_ | refine Cu ?_ | refine Cx ?_
 refine B4 (α := Unit) (fun _ => [(1, pt w.heap.size), (95, .bool (!nodeR f))]) (fun _ W => Ext w1 W) ?_ ?_
 ·have kk : Ext w1 w1 := Ext.refl _
  (refine AA (AD rfl ?_) <;> refine AG rfl (Blk.cell (by assumption) (by rfl)) ?_ <;> refine AD rfl ?_ <;> refine AG rfl (Blk.cell (by assumption) (by rfl)) ?_ <;> refine Aq rfl ?_)
  refine AS (rargs_ok w1 f.op f.args.length hal) rfl ?_
  rintro _ w2 ⟨rfl, rfl⟩
  generalize hA : CJ f.op f.args.length = bA
  cases bA with
  | false =>
   refine A7 rfl ?_
   rw [Bool.not_false]
   refine AB rfl (AJ rfl (AJ rfl (AJ rfl (AJ rfl (AJ rfl (AL rfl (AB rfl (AB rfl (AJ rfl (AJ rfl (AJ rfl (AJ rfl (AJ rfl (AJ rfl (AJ rfl (AL rfl (AB rfl (AB rfl (AJ rfl (AJ rfl (AJ rfl (AJ rfl (AL rfl (AB rfl (AB rfl (AJ rfl (AJ rfl (AJ rfl (AJ rfl (AL rfl (AB rfl (AB rfl (AJ rfl (AJ rfl (AJ rfl (AJ rfl (AJ rfl (AJ rfl (AJ rfl (AJ rfl (AJ rfl (AJ rfl (AJ rfl (AJ rfl (AJ rfl (AJ rfl (AJ rfl (AL rfl (AB rfl (AB rfl (AJ rfl (AJ rfl (AJ rfl (AJ rfl (AJ rfl (AJ rfl (AJ rfl (AL rfl (AB rfl (AE ?_))))))))))))))))))))))))))))))))))))))))))))))))))))))))))))
   all_goals
    repeat' first | refine nx rfl ?_ | fail
    exact Ap () ⟨rfl, congrArg Value.bool (by clear ih hf hS hFA hS' n1 b1 k1 hsz hal; simp [nodeR, numB0, *]), trivial⟩ kk
  | true =>
   cases bI with
   | true =>
    (refine A7 rfl (AB rfl (AF rfl (AB rfl (AF rfl (AD rfl ?_))))) <;> (refine AF rfl ?_; refine AG rfl (Blk.cell (by assumption) (by rfl)) ?_) <;> (refine AF rfl ?_; refine W_sneq rfl rfl (fun hc => ?_) (fun hc => ?_)) <;> refine AF rfl (W_bneq rfl rfl (AQ rfl (AB rfl (AB rfl ?_)))) <;> (first | refine AJ rfl ?_ | (refine AF rfl ?_; refine AB rfl ?_)) <;> (first | refine AJ rfl ?_ | (refine AF rfl ?_; refine AB rfl ?_)) <;> (first | refine AJ rfl ?_ | (refine AF rfl ?_; refine AD rfl ?_)) <;> (first | refine AJ rfl ?_ | (refine AF rfl ?_; refine AG rfl (Blk.cell (by assumption) (by rfl)) ?_)))
    ·refine AF rfl ?_
     refine AS (refName_ok f.name w2) rfl ?_
     rintro _ w3 ⟨rfl, k3⟩
     have d2 := k3.cell c2 (by simp)
     have d3 := k3.cell c3 (by simp)
     clear c0 c1 c2 c3 c4
     have kk := k3
     generalize hN : BN f.name = bN
     cases bN with
     | false =>
      (refine AF rfl (A7 rfl ?_) <;> (refine AF rfl ?_; (refine AL rfl ?_; refine AB rfl ?_)) <;> refine AQ rfl (AB rfl (AB rfl (AJ rfl (AJ rfl (AJ rfl (AJ rfl (AL rfl (AB rfl (AB rfl (AJ rfl (AJ rfl (AJ rfl (AJ rfl (AL rfl (AB rfl (AB rfl (AJ rfl (AJ rfl (AJ rfl (AJ rfl (AJ rfl (AJ rfl (AJ rfl (AJ rfl (AJ rfl (AJ rfl (AJ rfl (AJ rfl (AJ rfl (AJ rfl (AJ rfl (AL rfl (AB rfl (AB rfl (AJ rfl (AJ rfl (AJ rfl (AJ rfl (AJ rfl (AJ rfl (AJ rfl (AL rfl (AB rfl (AE ?_)))))))))))))))))))))))))))))))))))))))))))))
      all_goals
       repeat' first | refine nx rfl ?_ | fail
       exact Ap () ⟨rfl, congrArg Value.bool (by clear ih hf hS hFA hS' n1 b1 k1 hsz hal; simp [nodeR, numB0, *]), trivial⟩ kk
     | true =>
      (refine AF rfl (A7 rfl ?_) <;> (refine AF rfl ?_; (refine AL rfl ?_; refine AB rfl ?_)) <;> refine AQ rfl (AB rfl (AB rfl (AF rfl (AD rfl (AF rfl ?_))))) <;> refine AG rfl (by assumption) ?_)
      refine AF rfl ?_
      refine AS (rnumber_ok _ f.val) rfl ?_
      rintro _ w3 ⟨rfl, rfl⟩
      generalize hV : numB f.val = bV
      cases bV with
      | false =>
       refine AF rfl (A7 rfl (AQ rfl (AB rfl (AB rfl (AJ rfl (AJ rfl (AJ rfl (AJ rfl (AL rfl (AB rfl (AB rfl (AJ rfl (AJ rfl (AJ rfl (AJ rfl (AJ rfl (AJ rfl (AJ rfl (AJ rfl (AJ rfl (AJ rfl (AJ rfl (AJ rfl (AJ rfl (AJ rfl (AJ rfl (AL rfl (AB rfl (AB rfl (AJ rfl (AJ rfl (AJ rfl (AJ rfl (AJ rfl (AJ rfl (AJ rfl (AL rfl (AB rfl (AE ?_)))))))))))))))))))))))))))))))))))))))
       all_goals
        repeat' first | refine nx rfl ?_ | fail
        exact Ap () ⟨rfl, congrArg Value.bool (by clear ih hf hS hFA hS' n1 b1 k1 hsz hal; simp [nodeR, numB0, *]), trivial⟩ kk
      | true =>
       (refine AF rfl (A7 rfl (AQ rfl (AB rfl (AB rfl (AF rfl (AD rfl (AF rfl ?_))))))) <;> refine AG rfl (by assumption) ?_)
       refine AF rfl ?_
       refine AS (rnumber_ok _ f.bound) rfl ?_
       rintro _ w4 ⟨rfl, rfl⟩
       generalize hBd : numB f.bound = bBd
       cases bBd with
       | false =>
        refine AF rfl (A7 rfl (AQ rfl (AB rfl (AB rfl (AJ rfl (AJ rfl (AJ rfl (AJ rfl (AJ rfl (AJ rfl (AJ rfl (AJ rfl (AJ rfl (AJ rfl (AJ rfl (AJ rfl (AJ rfl (AJ rfl (AJ rfl (AL rfl (AB rfl (AB rfl (AJ rfl (AJ rfl (AJ rfl (AJ rfl (AJ rfl (AJ rfl (AJ rfl (AL rfl (AB rfl (AE ?_))))))))))))))))))))))))))))))))
        all_goals
         repeat' first | refine nx rfl ?_ | fail
         exact Ap () ⟨rfl, congrArg Value.bool (by clear ih hf hS hFA hS' n1 b1 k1 hsz hal; simp [nodeR, numB0, *]), trivial⟩ kk
       | true =>
        cases bS <;> cases bL <;> cases bB
        all_goals
         (refine AF rfl (A7 rfl (AQ rfl (AB rfl (AB rfl (AF rfl (AD rfl (AF rfl ?_))))))) <;> refine AG rfl (by assumption) ?_ <;> (refine AF rfl ?_; (refine Cj rfl rfl (fun hc => ?_) (fun hc => ?_) <;> try omega)) <;> refine AF rfl (AB rfl ?_) <;> (first | refine AJ rfl ?_ | (refine AF rfl ?_; refine AB rfl ?_)) <;> (first | refine AJ rfl ?_ | (refine AF rfl ?_; refine A7 rfl ?_)) <;> (refine AF rfl ?_; ((first | refine AL rfl ?_ | refine AQ rfl ?_); refine AB rfl ?_)) <;> refine AF rfl (AB rfl (AJ rfl (AJ rfl ?_))) <;> (refine AF rfl ?_; (refine AQ rfl ?_; refine AB rfl ?_)) <;> refine AF rfl (AB rfl (AJ rfl (AJ rfl ?_))) <;> (refine AF rfl ?_; (refine AQ rfl ?_; refine AB rfl ?_)) <;> refine AQ rfl (AB rfl (AB rfl (AF rfl (AD rfl (AF rfl ?_))))) <;> refine AG rfl (by assumption) ?_ <;> (refine AF rfl ?_; (refine Cj rfl rfl (fun hc => ?_) (fun hc => ?_) <;> try omega)) <;> refine AF rfl (AB rfl ?_) <;> (first | refine AJ rfl ?_ | (refine AF rfl ?_; refine AB rfl ?_)) <;> (first | refine AJ rfl ?_ | (refine AF rfl ?_; refine A7 rfl ?_)) <;> (refine AF rfl ?_; ((first | refine AL rfl ?_ | refine AQ rfl ?_); refine AB rfl ?_)) <;> refine AQ rfl (AB rfl (AE ?_)))
        all_goals
         repeat' first | refine nx rfl ?_ | fail
         exact Ap () ⟨rfl, congrArg Value.bool (by clear ih hf hS hFA hS' n1 b1 k1 hsz hal; simp [nodeR, numB0, *]), trivial⟩ kk
    ·refine AJ rfl (AJ rfl (AJ rfl (AL rfl (AB rfl (AB rfl (AJ rfl (AJ rfl (AJ rfl (AJ rfl (AL rfl (AB rfl (AB rfl (AJ rfl (AJ rfl (AJ rfl (AJ rfl (AL rfl (AB rfl (AB rfl (AJ rfl (AJ rfl (AJ rfl (AJ rfl (AJ rfl (AJ rfl (AJ rfl (AJ rfl (AJ rfl (AJ rfl (AJ rfl (AJ rfl (AJ rfl (AJ rfl (AJ rfl (AL rfl (AB rfl (AB rfl (AJ rfl (AJ rfl (AJ rfl (AJ rfl (AJ rfl (AJ rfl (AJ rfl (AL rfl (AB rfl (AE ?_)))))))))))))))))))))))))))))))))))))))))))))))
     all_goals
      repeat' first | refine nx rfl ?_ | fail
      exact Ap () ⟨rfl, congrArg Value.bool (by clear ih hf hS hFA hS' n1 b1 k1 hsz hal; simp [nodeR, numB0, *]), trivial⟩ kk
   | false =>
    (refine A7 rfl (AB rfl (AF rfl (AB rfl (AF rfl (AD rfl ?_))))) <;> (refine AF rfl ?_; refine AG rfl (Blk.cell (by assumption) (by rfl)) ?_) <;> (refine AF rfl ?_; refine W_sneq rfl rfl (fun hc => ?_) (fun hc => ?_)) <;> refine AF rfl (W_bneq rfl rfl (AQ rfl (AB rfl (AB rfl ?_)))) <;> (first | refine AJ rfl ?_ | (refine AF rfl ?_; refine AB rfl ?_)) <;> (first | refine AJ rfl ?_ | (refine AF rfl ?_; refine AB rfl ?_)) <;> refine AJ rfl (AJ rfl ?_))
    ·refine AJ rfl (AJ rfl (AJ rfl (AL rfl (AB rfl (AB rfl (AJ rfl (AJ rfl (AJ rfl (AJ rfl (AL rfl (AB rfl (AB rfl (AJ rfl (AJ rfl (AJ rfl (AJ rfl (AL rfl (AB rfl (AB rfl (AJ rfl (AJ rfl (AJ rfl (AJ rfl (AJ rfl (AJ rfl (AJ rfl (AJ rfl (AJ rfl (AJ rfl (AJ rfl (AJ rfl (AJ rfl (AJ rfl (AJ rfl (AL rfl (AB rfl (AB rfl (AJ rfl (AJ rfl (AJ rfl (AJ rfl (AJ rfl (AJ rfl (AJ rfl (AL rfl (AB rfl (AE ?_)))))))))))))))))))))))))))))))))))))))))))))))
     all_goals
      repeat' first | refine nx rfl ?_ | fail
      exact Ap () ⟨rfl, congrArg Value.bool (by clear ih hf hS hFA hS' n1 b1 k1 hsz hal; simp [nodeR, numB0, *]), trivial⟩ kk
    ·refine AJ rfl ?_
     (refine AJ rfl ?_ <;> (refine AF rfl ?_; (refine AQ rfl ?_; refine AB rfl ?_)) <;> refine AQ rfl (AB rfl (AB rfl (AF rfl (AD rfl ?_)))) <;> (refine AF rfl ?_; refine AG rfl (Blk.cell (by assumption) (by rfl)) ?_))
     refine AF rfl ?_
     refine AS (rnumber_ok _ f.val) rfl ?_
     rintro _ w3 ⟨rfl, rfl⟩
     generalize hV : numB f.val = bV
     cases bV with
     | false =>
      refine AF rfl (A7 rfl (AQ rfl (AB rfl (AB rfl (AJ rfl (AJ rfl (AJ rfl (AJ rfl (AL rfl (AB rfl (AB rfl (AJ rfl (AJ rfl (AJ rfl (AJ rfl (AJ rfl (AJ rfl (AJ rfl (AJ rfl (AJ rfl (AJ rfl (AJ rfl (AJ rfl (AJ rfl (AJ rfl (AJ rfl (AL rfl (AB rfl (AB rfl (AJ rfl (AJ rfl (AJ rfl (AJ rfl (AJ rfl (AJ rfl (AJ rfl (AL rfl (AB rfl (AE ?_)))))))))))))))))))))))))))))))))))))))
      all_goals
       repeat' first | refine nx rfl ?_ | fail
       exact Ap () ⟨rfl, congrArg Value.bool (by clear ih hf hS hFA hS' n1 b1 k1 hsz hal; simp [nodeR, numB0, *]), trivial⟩ kk
     | true =>
      (refine AF rfl (A7 rfl (AQ rfl (AB rfl (AB rfl (AF rfl (AD rfl ?_)))))) <;> (refine AF rfl ?_; refine AG rfl (Blk.cell (by assumption) (by rfl)) ?_))
      refine AF rfl ?_
      refine AS (rnumber_ok _ f.bound) rfl ?_
      rintro _ w4 ⟨rfl, rfl⟩
      generalize hBd : numB f.bound = bBd
      cases bBd with
      | false =>
       refine AF rfl (A7 rfl (AQ rfl (AB rfl (AB rfl (AJ rfl (AJ rfl (AJ rfl (AJ rfl (AJ rfl (AJ rfl (AJ rfl (AJ rfl (AJ rfl (AJ rfl (AJ rfl (AJ rfl (AJ rfl (AJ rfl (AJ rfl (AL rfl (AB rfl (AB rfl (AJ rfl (AJ rfl (AJ rfl (AJ rfl (AJ rfl (AJ rfl (AJ rfl (AL rfl (AB rfl (AE ?_))))))))))))))))))))))))))))))))
       all_goals
        repeat' first | refine nx rfl ?_ | fail
        exact Ap () ⟨rfl, congrArg Value.bool (by clear ih hf hS hFA hS' n1 b1 k1 hsz hal; simp [nodeR, numB0, *]), trivial⟩ kk
      | true =>
       cases bS <;> cases bL <;> cases bB
       all_goals
        (refine AF rfl (A7 rfl (AQ rfl (AB rfl (AB rfl (AF rfl (AD rfl ?_)))))) <;> (refine AF rfl ?_; refine AG rfl (Blk.cell (by assumption) (by rfl)) ?_) <;> (refine AF rfl ?_; (refine Cj rfl rfl (fun hc => ?_) (fun hc => ?_) <;> try omega)) <;> refine AF rfl (AB rfl ?_) <;> (first | refine AJ rfl ?_ | (refine AF rfl ?_; refine AB rfl ?_)) <;> (first | refine AJ rfl ?_ | (refine AF rfl ?_; refine A7 rfl ?_)) <;> (refine AF rfl ?_; ((first | refine AL rfl ?_ | refine AQ rfl ?_); refine AB rfl ?_)) <;> refine AF rfl (AB rfl ?_) <;> (first | refine AJ rfl ?_ | (refine AF rfl ?_; refine AB rfl ?_)) <;> (first | refine AJ rfl ?_ | (refine AF rfl ?_; refine A7 rfl ?_)) <;> (refine AF rfl ?_; ((first | refine AL rfl ?_ | refine AQ rfl ?_); refine AB rfl ?_)) <;> refine AF rfl (AB rfl ?_) <;> (first | refine AJ rfl ?_ | (refine AF rfl ?_; refine AB rfl ?_)) <;> (first | refine AJ rfl ?_ | (refine AF rfl ?_; refine A7 rfl ?_)) <;> (refine AF rfl ?_; ((first | refine AL rfl ?_ | refine AQ rfl ?_); refine AB rfl ?_)) <;> refine AQ rfl (AB rfl (AB rfl ?_)) <;> (first | refine AJ rfl ?_ | (refine AF rfl ?_; refine AD rfl ?_)) <;> (first | refine AJ rfl ?_ | (refine AF rfl ?_; refine AG rfl (Blk.cell (by assumption) (by rfl)) ?_)) <;> (first | refine AJ rfl ?_ | (refine AF rfl ?_; (refine Cj rfl rfl (fun hc => ?_) (fun hc => ?_) <;> try omega))) <;> (first | refine AJ rfl ?_ | (refine AF rfl ?_; refine AB rfl ?_)) <;> (first | refine AJ rfl ?_ | (refine AF rfl ?_; refine AB rfl ?_)) <;> (first | refine AJ rfl ?_ | (refine AF rfl ?_; refine A7 rfl ?_)) <;> (first | refine AJ rfl ?_ | (refine AF rfl ?_; ((first | refine AL rfl ?_ | refine AQ rfl ?_); refine AB rfl ?_))) <;> ((first | refine AL rfl ?_ | refine AQ rfl ?_); refine AB rfl ?_) <;> refine AE ?_)
       all_goals
        repeat' first | refine nx rfl ?_ | fail
        exact Ap () ⟨rfl, congrArg Value.bool (by clear ih hf hS hFA hS' n1 b1 k1 hsz hal; simp [nodeR, numB0, *]), trivial⟩ kk
 rintro _ w5 f5 k5
 have b5 := b1.keep k5 (by simp)
 have d4 : w5.cell? ⟨w.heap.size, 0 + 4, none⟩ = some (.slice a f.args.length c) := b5.cell rfl
 generalize hnr : nodeR f = nr
 rw [nodeR_eq] at hnr
 cases nr with
 | false =>
  repeat' first | refine nx rfl ?_ | fail
  refine AA (AC (AB rfl ?_))
  repeat' first | refine nx rfl ?_ | fail
  exact AP rfl ⟨by rw [okF_eq, hnr]; rfl, k1.trans k5⟩
 | true =>
 repeat' first | refine nx rfl ?_ | refine nf rfl ?_
 refine AA (AC (AI rfl ?_))
 repeat' first | refine nx rfl ?_ | fail
 have k15 := k1.trans k5
 refine BC (α := Nat) (fun k => [(1, pt w.heap.size), (7, .int .i64 (k : Int))]) (fun k W => k ≤ f.args.length ∧ okL (f.args.take k) = true ∧ Ext w5 W) (fun k => f.args.length - k) 0 ⟨rfl, rfl, trivial⟩ ⟨by simp, rfl, Ext.refl _⟩ ?_
 rintro k w6 f6 ⟨hk, hok, k6⟩
 have e4 := k6.cell d4 (by simp)
 repeat' first | refine nx rfl ?_ | fail
 by_cases hlt : k < f.args.length
 ·(refine AA (AI rfl (AD rfl ?_)) <;> refine AG rfl (by assumption) ?_ <;> refine Aq rfl ?_ <;> (refine As rfl rfl (fun hc => ?_) (fun hc => ?_) <;> try omega))
  repeat' first | refine nx rfl ?_ | fail
  obtain ⟨x, hx⟩ : ∃ x, f.args[k]? = some x := ⟨_, List.getElem?_eq_getElem hlt⟩
  obtain ⟨cx, hcx⟩ : ∃ cx, L[k]? = some cx := ⟨_, List.getElem?_eq_getElem (by rw [hFA.1]; exact hlt)⟩
  obtain ⟨ba, oa, rfl, hba, hcellx⟩ := hS.fml hFA.2.1 hcx hlt
  have hxm := szL_mem (List.mem_of_getElem? hx)
  have kw := k15.trans k6
  have hfx : FAt A2 w6 (.agg cx.toArray) x := (hFA.2.2 k cx x hcx hx).ext kw
  have hcx6 := hcellx.keep kw (by simp)
  (refine AA (AD rfl ?_) <;> refine AG rfl (by assumption) ?_ <;> refine AI rfl ?_)
  refine Bd (k := k) rfl rfl rfl (by omega) ?_
  refine AV (L := cx) rfl (hFA.2.1 cx (List.mem_of_getElem? hcx)) hcx6 ?_
  refine AS (ih x (by omega) (by omega) w6 _ hfx) rfl ?_
  rintro _ w7 ⟨rfl, k7⟩
  generalize hox : okF x = ox
  refine A7 rfl ?_
  cases ox with
  | false =>
   rw [Bool.not_false]
   repeat' first | refine nx rfl ?_ | fail
   refine AA (AC (AB rfl ?_))
   repeat' first | refine nx rfl ?_ | fail
   refine AP rfl ⟨?_, (k15.trans k6).trans k7⟩
   have : okF f = false := by
    rw [okF_eq]
    cases hc2 : okL f.args with
    | false => simp
    | true => have := okL_mem hc2 x (List.mem_of_getElem? hx); rw [hox] at this; cases this
   rw [this]; rfl
  | true =>
   rw [Bool.not_true]
   repeat' first | refine nx rfl ?_ | refine nf rfl ?_
   (refine AA (AI rfl ?_) <;> refine BB rfl rfl (by first | exact Ak (by omega) (by omega) | exact Ar (by omega) (by omega) | exact Aj (by omega) (by omega)) ?_ <;> refine AC (AI rfl ?_))
   repeat' first | refine nx rfl ?_ | fail
   refine ⟨k + 1, ⟨rfl, ⟨rfl, ?_, trivial⟩, ⟨hlt, ?_, k6.trans k7⟩⟩, by omega⟩
   ·show Value.int .i64 ((k : Int) + 1) = _
    rw [Int.natCast_add]; rfl
   ·have e : f.args.take (k + 1) = f.args.take k ++ [x] := by rw [List.take_add_one, hx]; rfl
    rw [e, okL_app, hok]
    simp [okL, hox]
 ·(refine AA (AI rfl (AD rfl ?_)) <;> refine AG rfl (by assumption) ?_ <;> refine Aq rfl ?_ <;> (refine As rfl rfl (fun hc => ?_) (fun hc => ?_) <;> try omega))
  repeat' first | refine nx rfl ?_ | refine nf rfl ?_
  refine AA (AC (AB rfl ?_))
  repeat' first | refine nx rfl ?_ | fail
  have e : k = f.args.length := by omega
  subst e
  rw [List.take_length] at hok
  exact AP rfl ⟨by rw [okF_eq, hnr, hok]; rfl, k15.trans k6⟩
end Go.Proofs.YtfcgdbmoncnibaaGreatDoor
namespace Go.Proofs.YtfcgdbmoncnibaaGreatDoor
set_option linter.unusedVariables false
variable {mk : Prop} [MK mk]
end Go.Proofs.YtfcgdbmoncnibaaGreatDoor
namespace Go.Proofs.YtfcgdbmoncnibaaGreatDoor
set_option linter.unusedVariables false
variable {mk : Prop} [MK mk]
end Go.Proofs.YtfcgdbmoncnibaaGreatDoor
namespace Go.Proofs.YtfcgdbmoncnibaaGreatDoor
open Go.RowKit
set_option linter.unusedVariables false
end Go.Proofs.YtfcgdbmoncnibaaGreatDoor
namespace Go.Proofs.YtfcgdbmoncnibaaGreatDoor
open Go.RowKit
set_option linter.unusedVariables false
theorem req_parts {ok : Nat → Prop} {w : World} {d : List Value} {r : Rqm} (h : reqR.fits ok w d r) : ∃ d5 : List Value, d = [AM r.part, AM r.name, .int .i64 r.kind] ++ d5 ∧ d5.length = 5 ∧ FAt ok w (.agg d5.toArray) r.formula := h
theorem cells_drop {w : World} {b o : Nat} {l m : List Value} (h : Cells w b o (l ++ m)) {k : Nat} (hk : l.length = k) : Cells w b (o + k) m := by
 intro i u hu
 subst hk
 have := h (l.length + i) u (by rw [List.getElem?_append_right (by omega)]; simpa using hu)
 rw [← Nat.add_assoc] at this
 exact this
set_option maxHeartbeats 1600000 in
theorem rprintReq_ok (w : World) (d : List Value) (r : Rqm) (hr : reqR.fits A2 w d r) (hz : szF r.formula ≤ 1000000) : Fn Tryz.prog 55 [.agg d.toArray] w fun u w' => u = .bool (okRq r) ∧ Ext w w' := by
 obtain ⟨d5, rfl, hd5, hfa⟩ := req_parts hr
 refine Ac Tryz.func55 rfl Tryz.ntmps55 (Nat.le_of_ble_eq_true rfl) (by kernel_rfl) ?_
 repeat' first | refine nx rfl ?_ | fail
 (refine AA ?_; refine BY (L := [AM r.part, AM r.name, .int .i64 r.kind] ++ d5) rfl (fun w1 n1 => ?_))
 have b1 := n1.blk
 have k1 := n1.keep
 have c0 : w1.cell? ⟨w.heap.size, 0 + 0, none⟩ = some (AM r.part) := b1.cell rfl
 have c1 : w1.cell? ⟨w.heap.size, 0 + 1, none⟩ = some (AM r.name) := b1.cell rfl
 have c2 : w1.cell? ⟨w.heap.size, 0 + 2, none⟩ = some (.int .i64 r.kind) := b1.cell rfl
 have c3 : Cells w1 w.heap.size (0 + 3) d5 := cells_drop b1.cells rfl
 ((refine AC ?_; refine AB rfl ?_))
 repeat' first | refine nx rfl ?_ | fail
 repeat' first | refine AE ?_ | refine Cu ?_ | refine Cx ?_
 by_cases hk : r.kind = 1 ∨ r.kind = 2
 ·have hkd : (decide (r.kind = 1) || decide (r.kind = 2)) = true := by simpa using hk
  have hnames : ∀ (fr : Fr) (ds : DS) (Q : CD), True := fun _ _ _ => trivial
  clear hnames
  rcases hk with hk | hk
  all_goals
   (refine AA (AD rfl ?_) <;> refine AG rfl (Blk.cell (by assumption) (by rfl)) ?_ <;> (refine AK rfl rfl (fun hc => ?_) (fun hc => ?_) <;> try omega) <;> refine AB rfl ?_ <;> (first | refine AJ rfl ?_ | (refine AF rfl ?_; refine AD rfl ?_)) <;> (first | refine AJ rfl ?_ | (refine AF rfl ?_; refine AG rfl (Blk.cell (by assumption) (by rfl)) ?_)) <;> (first | refine AJ rfl ?_ | (refine AF rfl ?_; (refine AK rfl rfl (fun hc => ?_) (fun hc => ?_) <;> try omega))) <;> ((first | refine AL rfl ?_ | refine AQ rfl ?_); refine AB rfl ?_) <;> refine AB rfl (AF rfl (AD rfl ?_)) <;> (refine AF rfl ?_; refine AG rfl (Blk.cell (by assumption) (by rfl)) ?_))
   refine AF rfl ?_
   refine AS (refName_ok r.part w1) rfl ?_
   rintro _ w2 ⟨rfl, k2⟩
   have e1 := k2.cell c1 (by simp)
   have e3 := c3.keep k2 (by simp)
   clear c0 c1 c2
   generalize hp : BN r.part = bp
   cases bp with
   | false =>
    refine AL rfl (AB rfl (AB rfl (AJ rfl (AJ rfl (AJ rfl (AQ rfl (AB rfl (AB rfl (AJ rfl (AJ rfl (AJ rfl (AQ rfl (AB rfl (AC (AB rfl ?_)))))))))))))))
    repeat' first | refine nx rfl ?_ | fail
    exact AP rfl ⟨congrArg Value.bool (by simp [okRq, okR, hp]), k1.trans k2⟩
   | true =>
    (refine AL rfl (AB rfl (AB rfl (AF rfl (AD rfl (AF rfl ?_))))) <;> refine AG rfl (by assumption) ?_)
    refine AF rfl ?_
    refine AS (refName_ok r.name w2) rfl ?_
    rintro _ w3 ⟨rfl, k3⟩
    have e4 := e3.keep k3 (by simp)
    generalize hn : BN r.name = bn
    cases bn with
    | false =>
     refine AL rfl (AB rfl (AB rfl (AJ rfl (AJ rfl (AJ rfl (AQ rfl (AB rfl (AC (AB rfl ?_)))))))))
     repeat' first | refine nx rfl ?_ | fail
     exact AP rfl ⟨congrArg Value.bool (by simp [okRq, okR, hn]), (k1.trans k2).trans k3⟩
    | true =>
     refine AL rfl (AB rfl (AB rfl (AF rfl (AD rfl ?_))))
     (refine AF rfl ?_; refine AV (L := d5) rfl hd5 e4 ?_)
     refine AF rfl ?_
     refine AS (printable_ok _ r.formula (Nat.le_refl _) hz w3 _ (hfa.ext ((k1.trans k2).trans k3))) rfl ?_
     rintro _ w4 ⟨rfl, k4⟩
     refine AL rfl (AB rfl (AC (AB rfl ?_)))
     repeat' first | refine nx rfl ?_ | fail
     exact AP rfl ⟨congrArg Value.bool (by simp only [okRq, okR, hkd, hp, hn, Bool.true_and]), ((k1.trans k2).trans k3).trans k4⟩
 ·have hk1 : ¬ r.kind = 1 := fun e => hk (.inl e)
  have hk2 : ¬ r.kind = 2 := fun e => hk (.inr e)
  (refine AA (AD rfl ?_) <;> refine AG rfl (Blk.cell (by assumption) (by rfl)) ?_ <;> (refine AK rfl rfl (fun hc => ?_) (fun hc => ?_) <;> try omega) <;> refine AB rfl (AF rfl (AD rfl ?_)) <;> (refine AF rfl ?_; refine AG rfl (Blk.cell (by assumption) (by rfl)) ?_) <;> (refine AF rfl ?_; (refine AK rfl rfl (fun hc => ?_) (fun hc => ?_) <;> try omega)) <;> refine AQ rfl (AB rfl (AB rfl (AJ rfl (AJ rfl ?_)))))
  refine AJ rfl (AQ rfl (AB rfl (AB rfl (AJ rfl (AJ rfl (AJ rfl (AQ rfl (AB rfl (AB rfl (AJ rfl (AJ rfl (AJ rfl (AQ rfl (AB rfl (AC (AB rfl ?_))))))))))))))))
  repeat' first | refine nx rfl ?_ | fail
  exact AP rfl ⟨congrArg Value.bool (by simp [okRq, okR, hk1, hk2]), k1⟩
end Go.Proofs.YtfcgdbmoncnibaaGreatDoor
