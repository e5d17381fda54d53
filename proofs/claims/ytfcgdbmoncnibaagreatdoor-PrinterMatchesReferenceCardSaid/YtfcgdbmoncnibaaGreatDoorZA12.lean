/- The reference: names. Conditions: none. -/
import Derived.Test.YtfcgdbmoncnibaaGreatDoorZA11

namespace Go.Proofs.YtfcgdbmoncnibaaGreatDoor
open Go.RowKit
set_option linter.unusedVariables false
variable {mk : Prop} [MK mk]
theorem in_ok (w : World) (v : Value) (l : List (List UInt8)) (s : List UInt8) (hT : Sl Aw w v l.length (l.map AM)) : Fn Tryz.prog 86 [v, AM s] w fun v w' => v = .bool (decide (s ∈ l)) ∧ w' = w := by
 obtain ⟨a, c, rfl, hc1, hc2, _, hcc⟩ := hT
 refine Aa Tryz.func86 rfl Tryz.ntmps86 (Nat.le_of_ble_eq_true rfl) (by kernel_rfl) ?_
 repeat' first | refine nx rfl ?_ | fail
 refine AA (AB (AC rfl ?_))
 repeat' first | refine nx rfl ?_ | fail
 refine AA (AB (AI rfl ?_))
 repeat' first | refine nx rfl ?_ | fail
 refine BE (α := Nat) (fun k => [(0, .slice a l.length c), (1, AM s), (5, .int .i64 (k : Int))]) (fun k W => k ≤ l.length ∧ s ∉ l.take k ∧ W = w) (fun k => l.length - k) 0 ⟨rfl, rfl, rfl, trivial⟩ ⟨by omega, by simp, rfl⟩ ?_
 rintro k w2 f2 ⟨hk, hn, rfl⟩
 repeat' first | refine nx rfl ?_ | fail
 by_cases hlt : k < l.length
 ·obtain ⟨b, o, rfl, _, hcell⟩ := hcc.resolve_left (by omega)
  obtain ⟨y, hy⟩ : ∃ y, l[k]? = some y := ⟨_, List.getElem?_eq_getElem hlt⟩
  have hyc : w2.cell? ⟨b, o + k, none⟩ = some (AM y) := hcell k _ (by simp [hy])
  have ht1 : l.take (k + 1) = l.take k ++ [y] := by rw [List.take_add_one, hy]; rfl
  (refine AA (AI rfl (Ak rfl (Ao rfl ?_))) <;> (refine As rfl rfl (fun hc => ?_) (fun hc => ?_) <;> try omega))
  repeat' first | refine nx rfl ?_ | fail
  by_cases hys : y = s
  ·(refine AA (Ak rfl (AI rfl ?_)) <;> refine W_idx1 rfl rfl rfl (by omega) ?_ <;> refine AG rfl (by assumption) ?_ <;> refine AT rfl ?_ <;> refine Bu rfl rfl (fun hc => ?_) (fun hc => ?_) <;> refine AE ?_)
   case refine_2 => exact absurd hys (by assumption)
   repeat' first | refine nx rfl ?_ | fail
   refine AA (AB (AC rfl ?_))
   repeat' first | refine nx rfl ?_ | fail
   exact AL rfl ⟨by rw [decide_eq_true (List.mem_of_getElem? (hys ▸ hy) : s ∈ l)]; rfl, rfl⟩
  ·(refine AA (Ak rfl (AI rfl ?_)) <;> refine W_idx1 rfl rfl rfl (by omega) ?_ <;> refine AG rfl (by assumption) ?_ <;> refine AT rfl ?_ <;> refine Bu rfl rfl (fun hc => ?_) (fun hc => ?_) <;> refine AE ?_)
   case refine_1 => exact absurd (by assumption) hys
   repeat' first | refine nx rfl ?_ | refine nf rfl ?_
   (refine AA (AI rfl ?_) <;> refine BD rfl rfl (by first | exact Ah (by omega) (by omega) | exact Aq (by omega) (by omega) | exact Ai (by omega) (by omega)) ?_ <;> refine AB (AI rfl ?_))
   repeat' first | refine nx rfl ?_ | fail
   refine ⟨k + 1, ⟨rfl, ⟨rfl, rfl, ?_, trivial⟩, ⟨by omega, by rw [ht1]; simp [hn]; exact fun e => hys e.symm, rfl⟩⟩, by omega⟩
   show Value.int .i64 ((k : Int) + 1) = _
   rw [Int.natCast_add]; rfl
 ·obtain rfl : k = l.length := by omega
  (refine AA (AI rfl (Ak rfl (Ao rfl ?_))) <;> (refine As rfl rfl (fun hc => ?_) (fun hc => ?_) <;> try omega))
  repeat' first | refine nx rfl ?_ | refine nf rfl ?_
  refine AA (AB (AC rfl ?_))
  repeat' first | refine nx rfl ?_ | fail
  rw [List.take_length] at hn
  exact AL rfl ⟨by rw [decide_eq_false hn]; rfl, rfl⟩
theorem keywords_ok (w : World) : Fn Tryz.prog 87 [] w fun v w' => Sl Aw w' v keysL.length (keysL.map AM) ∧ Ext w w' := by
 refine Aa Tryz.func87 rfl Tryz.ntmps87 (Nat.le_of_ble_eq_true rfl) (by kernel_rfl) ?_
 repeat' first | refine nx rfl ?_ | fail
 refine AA (AB (Ak rfl ?_))
 repeat' first | refine nx rfl ?_ | fail
 refine AA ?_
 refine W_buildSlice1 (out := keysL.map AM) rfl (by omega) rfl (by kernel_rfl) (fun w1 n1 => ?_)
 ((refine AB ?_; refine Ak rfl ?_))
 repeat' first | refine nx rfl ?_ | fail
 exact AL rfl ⟨⟨_, _, rfl, by decide, by decide, (fun h => by cases h), .inr ⟨_, _, rfl, trivial, n1.blk.cells⟩⟩, n1.keep⟩
theorem refName_ok (s : List UInt8) (w : World) : Fn Tryz.prog 53 [AM s] w fun v w' => v = .bool (BW s) ∧ Ext w w' := by
 refine Aa Tryz.func53 rfl Tryz.ntmps53 (Nat.le_of_ble_eq_true rfl) (by kernel_rfl) ?_
 repeat' first | refine nx rfl ?_ | fail
 refine AA (AB (AC rfl ?_))
 repeat' first | refine nx rfl ?_ | fail
 by_cases h1 : s.length < 1
 ·(refine AA (AT rfl (BH rfl ?_)) <;> (refine As rfl rfl (fun hc => ?_) (fun hc => ?_) <;> try omega) <;> refine AC rfl (AK rfl (AK rfl (AK rfl (AN rfl (AC rfl (AC rfl (AK rfl (AK rfl (AK rfl (AN rfl (AC rfl ?_))))))))))))
  repeat' first | refine nx rfl ?_ | fail
  refine AA (AB (AC rfl ?_))
  repeat' first | refine nx rfl ?_ | fail
  exact AL rfl ⟨by rw [Ch, decide_eq_false (show ¬ 1 ≤ s.length by omega)]; rfl, Ext.refl _⟩
 by_cases h12 : 12 < s.length
 ·(refine AA (AT rfl (BH rfl ?_)) <;> (refine As rfl rfl (fun hc => ?_) (fun hc => ?_) <;> try omega) <;> refine AC rfl (AF rfl (AT rfl (AF rfl (BH rfl ?_)))) <;> (refine AF rfl ?_; (refine Bn rfl rfl (fun hc => ?_) (fun hc => ?_) <;> try omega)) <;> refine AQ rfl (AC rfl (AC rfl (AK rfl (AK rfl (AK rfl (AN rfl (AC rfl ?_))))))))
  repeat' first | refine nx rfl ?_ | fail
  refine AA (AB (AC rfl ?_))
  repeat' first | refine nx rfl ?_ | fail
  exact AL rfl ⟨by rw [Ch, decide_eq_false (show ¬ s.length ≤ 12 by omega)]; simp [upd, Nat.beq], Ext.refl _⟩
 (refine AA (AT rfl (BH rfl ?_)) <;> (refine As rfl rfl (fun hc => ?_) (fun hc => ?_) <;> try omega) <;> refine AC rfl (AF rfl (AT rfl (AF rfl (BH rfl ?_)))) <;> (refine AF rfl ?_; (refine Bn rfl rfl (fun hc => ?_) (fun hc => ?_) <;> try omega)) <;> refine AQ rfl (AC rfl (AC rfl ?_)))
 (refine AF rfl ?_; refine AR (keywords_ok w) rfl ?_)
 rintro v w1 ⟨hS, k1⟩
 obtain ⟨va, vc, rfl, _⟩ := id hS
 ((refine AF rfl ?_; refine AT rfl ?_))
 (refine AF rfl ?_; refine AR (in_ok w1 _ keysL s hS) rfl ?_)
 rintro _ wx ⟨rfl, hw⟩
 obtain rfl := hw.symm
 refine AQ rfl (AC rfl (AE ?_))
 by_cases hkey : s ∈ keysL
 ·rw [decide_eq_true hkey]
  repeat' first | refine nx rfl ?_ | fail
  refine AA (AB (AC rfl ?_))
  repeat' first | refine nx rfl ?_ | fail
  exact AL rfl ⟨by rw [Ch, decide_eq_true hkey]; simp [upd, Nat.beq], k1⟩
 rw [decide_eq_false hkey]
 repeat' first | refine nx rfl ?_ | refine nf rfl ?_
 refine AA (AB (AI rfl ?_))
 repeat' first | refine nx rfl ?_ | fail
 refine BE (α := Nat) (fun k => [(0, AM s), (3, .int .i64 (k : Int))]) (fun k W => k ≤ s.length ∧ (∀ (i : Nat) (c : UInt8), i < k → s[i]? = some c → okAt i c = true) ∧ W = w1) (fun k => s.length - k) 0 ⟨rfl, rfl, trivial⟩ ⟨by omega, fun i c hi => by omega, rfl⟩ ?_
 rintro k w2 f2 ⟨hk, hok, rfl⟩
 repeat' first | refine nx rfl ?_ | fail
 by_cases hlt : k < s.length
 ·have hc0 : s[k]? = some s[k] := List.getElem?_eq_getElem hlt
  generalize s[k] = c at hc0
  have cb := c.toNat_lt
  have step : okAt k c = true → ∀ (i : Nat) (d : UInt8), i < k + 1 → s[i]? = some d → okAt i d = true := fun hkc i d hi hd => by
   by_cases hik : i = k
   ·subst hik; rw [hc0] at hd; cases hd; exact hkc
   ·exact hok i d (by omega) hd
  (refine AA (AI rfl (AT rfl (BH rfl ?_))) <;> (refine As rfl rfl (fun hc => ?_) (fun hc => ?_) <;> try omega))
  repeat' first | refine nx rfl ?_ | fail
  refine Bv (α := Unit) (fun _ => [(0, AM s), (3, .int .i64 (k : Int)), (4, .bool (BU c))]) (fun _ W => w2 = W) ?_ ?_
  ·by_cases ha : 97 ≤ c.toNat
   ·by_cases hb : c.toNat ≤ 122
    ·rw [show BU c = true by simp [BU, ha, hb]]
     (refine AA (AT rfl (AI rfl ?_)) <;> refine Ba rfl rfl (by assumption) ?_ <;> (refine Cu rfl rfl (fun hc => ?_) (fun hc => ?_) <;> try omega) <;> refine AC rfl (AF rfl (AT rfl (AF rfl (AI rfl (AF rfl ?_))))) <;> refine Ba rfl rfl (by assumption) ?_ <;> (refine AF rfl ?_; (refine Bf rfl rfl (fun hc => ?_) (fun hc => ?_) <;> try omega)) <;> refine AN rfl (AC rfl (AB (AC rfl (AE ?_)))))
     exact Am () ⟨rfl, rfl, rfl, trivial⟩ rfl
    ·rw [show BU c = false by simp [BU, ha, hb]]
     (refine AA (AT rfl (AI rfl ?_)) <;> refine Ba rfl rfl (by assumption) ?_ <;> (refine Cu rfl rfl (fun hc => ?_) (fun hc => ?_) <;> try omega) <;> refine AC rfl (AF rfl (AT rfl (AF rfl (AI rfl (AF rfl ?_))))) <;> refine Ba rfl rfl (by assumption) ?_ <;> (refine AF rfl ?_; (refine Bf rfl rfl (fun hc => ?_) (fun hc => ?_) <;> try omega)) <;> refine AN rfl (AC rfl (AB (AC rfl (AE ?_)))))
     exact Am () ⟨rfl, rfl, rfl, trivial⟩ rfl
   ·rw [show BU c = false by simp [BU, ha]]
    (refine AA (AT rfl (AI rfl ?_)) <;> refine Ba rfl rfl (by assumption) ?_ <;> (refine Cu rfl rfl (fun hc => ?_) (fun hc => ?_) <;> try omega) <;> refine AC rfl (AK rfl (AK rfl (AK rfl (AK rfl (AQ rfl (AC rfl (AB (AC rfl (AE ?_))))))))))
    exact Am () ⟨rfl, rfl, rfl, trivial⟩ rfl
  rintro _ _ f3 rfl
  repeat' first | refine nx rfl ?_ | fail
  refine Bv (α := Unit) (fun _ => [(0, AM s), (3, .int .i64 (k : Int)), (4, .bool (BU c)), (5, .bool (A3 c || decide (c.toNat = 95)))]) (fun _ W => w2 = W) ?_ ?_
  ·by_cases ha : 48 ≤ c.toNat
   ·by_cases hb : c.toNat ≤ 57
    ·rw [show (A3 c || decide (c.toNat = 95)) = true by simp [A3, ha, hb]]
     (refine AA (AT rfl (AI rfl ?_)) <;> refine Ba rfl rfl (by assumption) ?_ <;> (refine Cu rfl rfl (fun hc => ?_) (fun hc => ?_) <;> try omega) <;> refine AC rfl (AF rfl (AT rfl (AF rfl (AI rfl (AF rfl ?_))))) <;> refine Ba rfl rfl (by assumption) ?_ <;> (refine AF rfl ?_; (refine Bf rfl rfl (fun hc => ?_) (fun hc => ?_) <;> try omega)) <;> refine AN rfl (AC rfl (AC rfl (AK rfl (AK rfl (AK rfl (AK rfl (AN rfl (AC rfl (AB (AC rfl (AE ?_))))))))))))
     exact Am () ⟨rfl, rfl, rfl, rfl, trivial⟩ rfl
    ·by_cases hu : c.toNat = 95
     ·rw [show (A3 c || decide (c.toNat = 95)) = true by simp [hu]]
      (refine AA (AT rfl (AI rfl ?_)) <;> refine Ba rfl rfl (by assumption) ?_ <;> (refine Cu rfl rfl (fun hc => ?_) (fun hc => ?_) <;> try omega) <;> refine AC rfl (AF rfl (AT rfl (AF rfl (AI rfl (AF rfl ?_))))) <;> refine Ba rfl rfl (by assumption) ?_ <;> (refine AF rfl ?_; (refine Bf rfl rfl (fun hc => ?_) (fun hc => ?_) <;> try omega)) <;> refine AN rfl (AC rfl (AC rfl (AF rfl (AT rfl (AF rfl (AI rfl (AF rfl ?_))))))) <;> refine Ba rfl rfl (by assumption) ?_ <;> (refine AF rfl ?_; (refine AH rfl rfl (fun hc => ?_) (fun hc => ?_) <;> try omega)) <;> refine AQ rfl (AC rfl (AB (AC rfl (AE ?_)))))
      exact Am () ⟨rfl, rfl, rfl, rfl, trivial⟩ rfl
     ·rw [show (A3 c || decide (c.toNat = 95)) = false by simp [A3, hu, ha, hb]]
      (refine AA (AT rfl (AI rfl ?_)) <;> refine Ba rfl rfl (by assumption) ?_ <;> (refine Cu rfl rfl (fun hc => ?_) (fun hc => ?_) <;> try omega) <;> refine AC rfl (AF rfl (AT rfl (AF rfl (AI rfl (AF rfl ?_))))) <;> refine Ba rfl rfl (by assumption) ?_ <;> (refine AF rfl ?_; (refine Bf rfl rfl (fun hc => ?_) (fun hc => ?_) <;> try omega)) <;> refine AN rfl (AC rfl (AC rfl (AF rfl (AT rfl (AF rfl (AI rfl (AF rfl ?_))))))) <;> refine Ba rfl rfl (by assumption) ?_ <;> (refine AF rfl ?_; (refine AH rfl rfl (fun hc => ?_) (fun hc => ?_) <;> try omega)) <;> refine AQ rfl (AC rfl (AB (AC rfl (AE ?_)))))
      exact Am () ⟨rfl, rfl, rfl, rfl, trivial⟩ rfl
   ·rw [show (A3 c || decide (c.toNat = 95)) = false by simp [A3, ha]; omega]
    (refine AA (AT rfl (AI rfl ?_)) <;> refine Ba rfl rfl (by assumption) ?_ <;> (refine Cu rfl rfl (fun hc => ?_) (fun hc => ?_) <;> try omega) <;> refine AC rfl (AK rfl (AK rfl (AK rfl (AK rfl (AQ rfl (AC rfl (AC rfl (AF rfl (AT rfl (AF rfl (AI rfl (AF rfl ?_)))))))))))) <;> refine Ba rfl rfl (by assumption) ?_ <;> (refine AF rfl ?_; (refine AH rfl rfl (fun hc => ?_) (fun hc => ?_) <;> try omega)) <;> refine AQ rfl (AC rfl (AB (AC rfl (AE ?_)))))
    exact Am () ⟨rfl, rfl, rfl, rfl, trivial⟩ rfl
  rintro _ _ f4 rfl
  repeat' first | refine nx rfl ?_ | fail
  have hbad : okAt k c = false → BW s = false := fun h => by
   have hsh : shapeB s = false := by
    cases hsb : shapeB s with
    | false => rfl
    | true => rw [(shapeB_iff s (by omega)).1 hsb k c hc0] at h; cases h
   rw [Ch, hsh]; simp
  have hoke : okAt k c = (BU c || (decide (0 < k) && (A3 c || decide (c.toNat = 95)))) := rfl
  cases hsm : BU c with
  | true =>
   refine AA (AC rfl (A4 rfl (AC rfl (AK rfl (AK rfl (AK rfl (AK rfl (AK rfl (AK rfl (AQ rfl (AC rfl ?_)))))))))))
   repeat' first | refine nx rfl ?_ | refine nf rfl ?_
   (refine AA (AI rfl ?_) <;> refine BD rfl rfl (by first | exact Ah (by omega) (by omega) | exact Aq (by omega) (by omega) | exact Ai (by omega) (by omega)) ?_ <;> refine AB (AI rfl ?_))
   repeat' first | refine nx rfl ?_ | fail
   refine ⟨k + 1, ⟨rfl, ⟨rfl, ?_, trivial⟩, ⟨by omega, step (by rw [hoke, hsm]; rfl), rfl⟩⟩, by omega⟩
   show Value.int .i64 ((k : Int) + 1) = _
   rw [Int.natCast_add]; rfl
  | false =>
   by_cases hk0 : k = 0
   ·have hb := hbad (by rw [hoke, hsm, decide_eq_false (show ¬ 0 < k by omega)]; rfl)
    (refine AA (AC rfl (A4 rfl (AC rfl (AF rfl (AI rfl ?_))))) <;> (refine AF rfl ?_; (refine AH rfl rfl (fun hc => ?_) (fun hc => ?_) <;> try omega)) <;> refine AF rfl (AC rfl (AK rfl (AK rfl ?_))) <;> (refine AF rfl ?_; (refine AN rfl ?_; refine AC rfl ?_)) <;> refine AN rfl (AC rfl ?_))
    repeat' first | refine nx rfl ?_ | fail
    refine AA (AB (AC rfl ?_))
    repeat' first | refine nx rfl ?_ | fail
    exact AL rfl ⟨by rw [hb]; rfl, k1⟩
   ·cases hrs : (A3 c || decide (c.toNat = 95)) with
    | true =>
     (refine AA (AC rfl (A4 rfl (AC rfl (AF rfl (AI rfl ?_))))) <;> (refine AF rfl ?_; (refine AH rfl rfl (fun hc => ?_) (fun hc => ?_) <;> try omega)) <;> refine AF rfl (AC rfl (AF rfl (AC rfl (AF rfl (A4 rfl ?_))))) <;> (refine AF rfl ?_; (refine AQ rfl ?_; refine AC rfl ?_)) <;> refine AN rfl (AC rfl ?_))
     repeat' first | refine nx rfl ?_ | refine nf rfl ?_
     (refine AA (AI rfl ?_) <;> refine BD rfl rfl (by first | exact Ah (by omega) (by omega) | exact Aq (by omega) (by omega) | exact Ai (by omega) (by omega)) ?_ <;> refine AB (AI rfl ?_))
     repeat' first | refine nx rfl ?_ | fail
     refine ⟨k + 1, ⟨rfl, ⟨rfl, ?_, trivial⟩, ⟨by omega, step (by rw [hoke, hsm, hrs, decide_eq_true (show 0 < k by omega)]; rfl), rfl⟩⟩, by omega⟩
     show Value.int .i64 ((k : Int) + 1) = _
     rw [Int.natCast_add]; rfl
    | false =>
     have hb := hbad (by rw [hoke, hsm, hrs]; simp)
     (refine AA (AC rfl (A4 rfl (AC rfl (AF rfl (AI rfl ?_))))) <;> (refine AF rfl ?_; (refine AH rfl rfl (fun hc => ?_) (fun hc => ?_) <;> try omega)) <;> refine AF rfl (AC rfl (AF rfl (AC rfl (AF rfl (A4 rfl ?_))))) <;> (refine AF rfl ?_; (refine AQ rfl ?_; refine AC rfl ?_)) <;> refine AN rfl (AC rfl ?_))
     repeat' first | refine nx rfl ?_ | fail
     refine AA (AB (AC rfl ?_))
     repeat' first | refine nx rfl ?_ | fail
     exact AL rfl ⟨by rw [hb]; rfl, k1⟩
 ·obtain rfl : k = s.length := by omega
  have hsh : shapeB s = true := (shapeB_iff s (by omega)).2 fun i c hc => hok i c (List.getElem?_eq_some_iff.1 hc).1 hc
  (refine AA (AI rfl (AT rfl (BH rfl ?_))) <;> (refine As rfl rfl (fun hc => ?_) (fun hc => ?_) <;> try omega))
  repeat' first | refine nx rfl ?_ | refine nf rfl ?_
  refine AA (AB (AC rfl ?_))
  repeat' first | refine nx rfl ?_ | fail
  exact AL rfl ⟨by rw [Ch, hsh, decide_eq_false hkey, decide_eq_true (show 1 ≤ s.length by omega), decide_eq_true (show s.length ≤ 12 by omega)]; rfl, k1⟩
end Go.Proofs.YtfcgdbmoncnibaaGreatDoor
