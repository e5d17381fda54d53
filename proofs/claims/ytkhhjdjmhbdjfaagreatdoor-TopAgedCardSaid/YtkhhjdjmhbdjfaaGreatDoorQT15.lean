/- The references: names in formulas. The references: nodes of formulas. The references: nodes, core, Past, Layered, Depth. The references: Loose, Fits, Right. past.Nodes in the weak mode. The plain law: running the next formulas gives the aged one. The examples of the law, evaluated. Conditions: none. -/
import Derived.Test.YtkhhjdjmhbdjfaaGreatDoorQT14

namespace Go.Proofs.YtkhhjdjmhbdjfaaGreatDoor
open Go.RowKit
set_option linter.unusedVariables false
theorem keys3_ok (w : World) : Fn Tryz.prog 199 [] w fun v w' => Sl As w' v keysL.length (keysL.map An) ∧ Ext w w' := by
 refine AR Tryz.func199 rfl Tryz.ntmps199 (Nat.le_of_ble_eq_true rfl) (by kernel_rfl) ?_
 repeat refine nx rfl ?_
 refine AA (AC (AM rfl ?_))
 repeat refine nx rfl ?_
 refine AA ?_
 refine W_buildSlice1 (out := keysL.map An) rfl (by omega) rfl (by kernel_rfl) (fun w1 n1 => ?_)
 refine AC (AM rfl ?_)
 repeat refine nx rfl ?_
 exact AI rfl ⟨⟨_, _, rfl, by decide, by decide, (fun h => by cases h), .inr ⟨_, _, rfl, trivial, n1.blk.cells⟩⟩, n1.keep⟩
theorem name3_ok (s : List UInt8) (w : World) : Fn Tryz.prog 187 [An s] w fun v w' => ∃ b : Bool, v = .bool b ∧ Ext w w' ∧ (b = true → nameB s = true) := by
 refine AR Tryz.func187 rfl Tryz.ntmps187 (Nat.le_of_ble_eq_true rfl) (by kernel_rfl) ?_
 repeat refine nx rfl ?_
 refine AA (AC (AB rfl ?_))
 repeat refine nx rfl ?_
 by_cases h1 : s.length < 1
 ·refine AA (A1 rfl (Br rfl (At rfl rfl (by omega) (AB rfl (AL rfl (AL rfl (AL rfl (AK rfl (AB rfl (AB rfl (AL rfl (AL rfl (AL rfl (AK rfl (AB rfl (AB rfl (AL rfl (AL rfl (AL rfl (AK rfl (AB rfl ?_)))))))))))))))))))))
  repeat refine nx rfl ?_
  refine AA (AC (AB rfl ?_))
  repeat refine nx rfl ?_
  exact AI rfl ⟨false, rfl, Ext.refl _, fun h => by cases h⟩
 by_cases h12 : 12 < s.length
 ·refine AA (A1 rfl (Br rfl (Aj rfl rfl (by omega) (AB rfl (AE rfl (A1 rfl (AE rfl (Br rfl (AE rfl (Co rfl rfl (by omega) (AJ rfl (AB rfl (AB rfl (AL rfl (AL rfl (AL rfl (AK rfl (AB rfl (AB rfl (AL rfl (AL rfl (AL rfl (AK rfl (AB rfl ?_))))))))))))))))))))))))
  repeat refine nx rfl ?_
  refine AA (AC (AB rfl ?_))
  repeat refine nx rfl ?_
  exact AI rfl ⟨false, rfl, Ext.refl _, fun h => by cases h⟩
 obtain ⟨c0, hc0⟩ : ∃ c, s[0]? = some c := ⟨_, List.getElem?_eq_getElem (by omega)⟩
 have cb0 := c0.toNat_lt
 by_cases ha : c0.toNat < 97
 ·(refine AA (A1 rfl (Br rfl (Aj rfl rfl (by omega) (AB rfl (AE rfl (A1 rfl (AE rfl (Br rfl (AE rfl (B9 rfl rfl (by omega) (AJ rfl (AB rfl (AB rfl (AE rfl (A1 rfl (AE rfl (BK rfl rfl (by assumption) ?_))))))))))))))))) <;> refine AE rfl (At rfl rfl (by omega) (AJ rfl (AB rfl (AB rfl (AL rfl (AL rfl (AL rfl (AK rfl (AB rfl ?_))))))))))
  repeat refine nx rfl ?_
  refine AA (AC (AB rfl ?_))
  repeat refine nx rfl ?_
  exact AI rfl ⟨false, rfl, Ext.refl _, fun h => by cases h⟩
 by_cases hb : 122 < c0.toNat
 ·(refine AA (A1 rfl (Br rfl (Aj rfl rfl (by omega) (AB rfl (AE rfl (A1 rfl (AE rfl (Br rfl (AE rfl (B9 rfl rfl (by omega) (AJ rfl (AB rfl (AB rfl (AE rfl (A1 rfl (AE rfl (BK rfl rfl (by assumption) ?_))))))))))))))))) <;> refine AE rfl (Aj rfl rfl (by omega) (AJ rfl (AB rfl (AB rfl (AE rfl (A1 rfl (AE rfl (BK rfl rfl (by assumption) ?_)))))))) <;> refine AE rfl (Co rfl rfl (by omega) (AJ rfl (AB rfl ?_))))
  repeat refine nx rfl ?_
  refine AA (AC (AB rfl ?_))
  repeat refine nx rfl ?_
  exact AI rfl ⟨false, rfl, Ext.refl _, fun h => by cases h⟩
 (refine AA (A1 rfl (Br rfl (Aj rfl rfl (by omega) (AB rfl (AE rfl (A1 rfl (AE rfl (Br rfl (AE rfl (B9 rfl rfl (by omega) (AJ rfl (AB rfl (AB rfl (AE rfl (A1 rfl (AE rfl (BK rfl rfl (by assumption) ?_))))))))))))))))) <;> refine AE rfl (Aj rfl rfl (by omega) (AJ rfl (AB rfl (AB rfl (AE rfl (A1 rfl (AE rfl (BK rfl rfl (by assumption) ?_)))))))) <;> refine AE rfl (B9 rfl rfl (by omega) (AJ rfl (AB rfl ?_))))
 repeat first | refine nx rfl ?_ | refine nf rfl ?_
 refine AA (AC (AG rfl ?_))
 repeat refine nx rfl ?_
 refine A3 (α := Nat) (fun k => [(0, An s), (3, .int .i64 (k : Int))]) (fun k W => k ≤ s.length ∧ (∀ (i : Nat) (c : UInt8), i < k → s[i]? = some c → (Bg c || (isDig c || decide (c.toNat = 95))) = true) ∧ W = w) (fun k => s.length - k) 0 ⟨rfl, rfl, trivial⟩ ⟨by omega, fun i c hi => absurd hi (by omega), rfl⟩ ?_
 rintro k w2 f2 ⟨hk, hok, rfl⟩
 repeat refine nx rfl ?_
 by_cases hlt : k < s.length
 ·have hck : s[k]? = some s[k] := List.getElem?_eq_getElem hlt
  generalize s[k] = c at hck
  have cb := c.toNat_lt
  refine AA (AG rfl (A1 rfl (Br rfl (At rfl rfl (by omega) ?_))))
  repeat refine nx rfl ?_
  by_cases g1 : 97 ≤ c.toNat ∧ c.toNat ≤ 122
  ·(refine AA (A1 rfl (AG rfl (BK rfl rfl (by assumption) ?_))) <;> refine BC rfl rfl (by omega) (AB rfl (AE rfl (A1 rfl (AE rfl (AG rfl (AE rfl (BK rfl rfl (by assumption) ?_))))))) <;> refine AE rfl (BZ rfl rfl (by omega) (AK rfl (AB rfl (AB rfl (AL rfl (AL rfl (AL rfl (AL rfl (AL rfl (AL rfl (AL rfl (AL rfl (AL rfl (AL rfl (AK rfl (AB rfl (AB rfl (AL rfl (AL rfl (AL rfl (AL rfl (AK rfl (AB rfl (Ak rfl ?_)))))))))))))))))))))))))
   repeat first | refine nx rfl ?_ | refine nf rfl ?_
   (refine AA (AG rfl (Av rfl rfl (by first | exact AV (by omega) (by omega) | exact AY (by omega) (by omega) | exact AW (by omega) (by omega)) ?_)) <;> refine AC (AG rfl ?_))
   repeat refine nx rfl ?_
   refine ⟨k + 1, ⟨rfl, ⟨rfl, (by show Value.int .i64 ((k : Int) + 1) = _; rw [Int.natCast_add]; rfl), trivial⟩, ⟨by omega, fun i d hi hd => ?_, rfl⟩⟩, by omega⟩
   by_cases hik : i = k
   ·subst hik
    rw [hck] at hd
    cases hd
    simp [Bg, isDig]; omega
   ·exact hok i d (by omega) hd
  by_cases g2 : 48 ≤ c.toNat ∧ c.toNat ≤ 57
  ·(refine AA (A1 rfl (AG rfl (BK rfl rfl (by assumption) ?_))) <;> refine CD rfl rfl (by omega) (AB rfl (AL rfl (AL rfl (AL rfl (AL rfl (AJ rfl (AB rfl (AB rfl (AE rfl (A1 rfl (AE rfl (AG rfl (AE rfl (BK rfl rfl (by assumption) ?_)))))))))))))) <;> refine AE rfl (BC rfl rfl (by omega) (AE rfl (AB rfl (AE rfl (A1 rfl (AE rfl (AG rfl (AE rfl (BK rfl rfl (by assumption) ?_))))))))) <;> refine AE rfl (BZ rfl rfl (by omega) (AE rfl (AK rfl (AB rfl (AJ rfl (AB rfl (AB rfl (AL rfl (AL rfl (AL rfl (AL rfl (AK rfl (AB rfl (Ak rfl ?_)))))))))))))))
   repeat first | refine nx rfl ?_ | refine nf rfl ?_
   (refine AA (AG rfl (Av rfl rfl (by first | exact AV (by omega) (by omega) | exact AY (by omega) (by omega) | exact AW (by omega) (by omega)) ?_)) <;> refine AC (AG rfl ?_))
   repeat refine nx rfl ?_
   refine ⟨k + 1, ⟨rfl, ⟨rfl, (by show Value.int .i64 ((k : Int) + 1) = _; rw [Int.natCast_add]; rfl), trivial⟩, ⟨by omega, fun i d hi hd => ?_, rfl⟩⟩, by omega⟩
   by_cases hik : i = k
   ·subst hik
    rw [hck] at hd
    cases hd
    simp [Bg, isDig]; omega
   ·exact hok i d (by omega) hd
  by_cases g3 : c.toNat = 95
  ·(refine AA (A1 rfl (AG rfl (BK rfl rfl (by assumption) ?_))) <;> refine CD rfl rfl (by omega) (AB rfl (AL rfl (AL rfl (AL rfl (AL rfl (AJ rfl (AB rfl (AB rfl (AE rfl (A1 rfl (AE rfl (AG rfl (AE rfl (BK rfl rfl (by assumption) ?_)))))))))))))) <;> refine AE rfl (BC rfl rfl (by omega) (AE rfl (AB rfl (AE rfl (A1 rfl (AE rfl (AG rfl (AE rfl (BK rfl rfl (by assumption) ?_))))))))) <;> refine AE rfl (Bh rfl rfl (by omega) (AE rfl (AK rfl (AB rfl (AJ rfl (AB rfl (AB rfl (AE rfl (A1 rfl (AE rfl (AG rfl (AE rfl (BK rfl rfl (by assumption) ?_))))))))))))) <;> refine AE rfl (Ai rfl rfl (by omega) (AJ rfl (AB rfl (Ak rfl ?_)))))
   repeat first | refine nx rfl ?_ | refine nf rfl ?_
   (refine AA (AG rfl (Av rfl rfl (by first | exact AV (by omega) (by omega) | exact AY (by omega) (by omega) | exact AW (by omega) (by omega)) ?_)) <;> refine AC (AG rfl ?_))
   repeat refine nx rfl ?_
   refine ⟨k + 1, ⟨rfl, ⟨rfl, (by show Value.int .i64 ((k : Int) + 1) = _; rw [Int.natCast_add]; rfl), trivial⟩, ⟨by omega, fun i d hi hd => ?_, rfl⟩⟩, by omega⟩
   by_cases hik : i = k
   ·subst hik
    rw [hck] at hd
    cases hd
    simp [Bg, isDig]; omega
   ·exact hok i d (by omega) hd
  by_cases g4 : c.toNat < 48
  ·(refine AA (A1 rfl (AG rfl (BK rfl rfl (by assumption) ?_))) <;> refine CD rfl rfl (by omega) (AB rfl (AL rfl (AL rfl (AL rfl (AL rfl (AJ rfl (AB rfl (AB rfl (AE rfl (A1 rfl (AE rfl (AG rfl (AE rfl (BK rfl rfl (by assumption) ?_)))))))))))))) <;> refine AE rfl (CD rfl rfl (by omega) (AE rfl (AB rfl (AL rfl (AL rfl (AL rfl (AL rfl (AE rfl (AJ rfl (AB rfl (AJ rfl (AB rfl (AB rfl (AE rfl (A1 rfl (AE rfl (AG rfl (AE rfl (BK rfl rfl (by assumption) ?_))))))))))))))))))) <;> refine AE rfl (AT rfl rfl (by omega) (AJ rfl (AB rfl (Ak rfl ?_)))))
   repeat refine nx rfl ?_
   refine AA (AC (AB rfl ?_))
   repeat refine nx rfl ?_
   exact AI rfl ⟨false, rfl, Ext.refl _, fun h => by cases h⟩
  by_cases g5 : 122 < c.toNat
  ·(refine AA (A1 rfl (AG rfl (BK rfl rfl (by assumption) ?_))) <;> refine BC rfl rfl (by omega) (AB rfl (AE rfl (A1 rfl (AE rfl (AG rfl (AE rfl (BK rfl rfl (by assumption) ?_))))))) <;> refine AE rfl (Bh rfl rfl (by omega) (AK rfl (AB rfl (AB rfl (AE rfl (A1 rfl (AE rfl (AG rfl (AE rfl (BK rfl rfl (by assumption) ?_)))))))))) <;> refine AE rfl (BC rfl rfl (by omega) (AE rfl (AB rfl (AE rfl (A1 rfl (AE rfl (AG rfl (AE rfl (BK rfl rfl (by assumption) ?_))))))))) <;> refine AE rfl (Bh rfl rfl (by omega) (AE rfl (AK rfl (AB rfl (AJ rfl (AB rfl (AB rfl (AE rfl (A1 rfl (AE rfl (AG rfl (AE rfl (BK rfl rfl (by assumption) ?_))))))))))))) <;> refine AE rfl (AT rfl rfl (by omega) (AJ rfl (AB rfl (Ak rfl ?_)))))
   repeat refine nx rfl ?_
   refine AA (AC (AB rfl ?_))
   repeat refine nx rfl ?_
   exact AI rfl ⟨false, rfl, Ext.refl _, fun h => by cases h⟩
  by_cases g6 : c.toNat < 97
  ·(refine AA (A1 rfl (AG rfl (BK rfl rfl (by assumption) ?_))) <;> refine CD rfl rfl (by omega) (AB rfl (AL rfl (AL rfl (AL rfl (AL rfl (AJ rfl (AB rfl (AB rfl (AE rfl (A1 rfl (AE rfl (AG rfl (AE rfl (BK rfl rfl (by assumption) ?_)))))))))))))) <;> refine AE rfl (BC rfl rfl (by omega) (AE rfl (AB rfl (AE rfl (A1 rfl (AE rfl (AG rfl (AE rfl (BK rfl rfl (by assumption) ?_))))))))) <;> refine AE rfl (Bh rfl rfl (by omega) (AE rfl (AK rfl (AB rfl (AJ rfl (AB rfl (AB rfl (AE rfl (A1 rfl (AE rfl (AG rfl (AE rfl (BK rfl rfl (by assumption) ?_))))))))))))) <;> refine AE rfl (AT rfl rfl (by omega) (AJ rfl (AB rfl (Ak rfl ?_)))))
   repeat refine nx rfl ?_
   refine AA (AC (AB rfl ?_))
   repeat refine nx rfl ?_
   exact AI rfl ⟨false, rfl, Ext.refl _, fun h => by cases h⟩
  ·exact absurd ⟨by omega, by omega⟩ g1
 ·obtain rfl : k = s.length := by omega
  refine AA (AG rfl (A1 rfl (Br rfl (Aj rfl rfl (by omega) ?_))))
  repeat first | refine nx rfl ?_ | refine nf rfl ?_
  have hsh : shapeB s = true := (shapeB_iff s (by omega)).2 fun i c hc => by
   by_cases hi0 : i = 0
   ·subst hi0
    rw [hc0] at hc
    cases hc
    simp [okAt, Bg]; omega
   ·have := hok i c (List.getElem?_eq_some_iff.1 hc).1 hc
    simp only [okAt, decide_eq_true (show 0 < i by omega), Bool.true_and]
    exact this
  refine AA ?_
  refine AQ (keys3_ok w2) rfl ?_
  rintro v w1 ⟨hS, k1⟩
  obtain ⟨va, vc, rfl, hc1, hc2, _, hcc⟩ := id hS
  refine AC (AM rfl ?_)
  repeat refine nx rfl ?_
  refine AA (AC (AG rfl ?_))
  repeat refine nx rfl ?_
  refine A3 (α := Nat) (fun k => [(0, An s), (4, .slice va keysL.length vc), (5, .int .i64 (k : Int))]) (fun k W => k ≤ keysL.length ∧ s ∉ keysL.take k ∧ W = w1) (fun k => keysL.length - k) 0 ⟨rfl, rfl, rfl, trivial⟩ ⟨by omega, by simp, rfl⟩ ?_
  rintro k w3 f3 ⟨hk, hn, rfl⟩
  repeat refine nx rfl ?_
  have hkl : keysL.length ≤ 1000 := by decide
  by_cases hlt : k < keysL.length
  ·obtain ⟨b, o, rfl, _, hcell⟩ := hcc.resolve_left (by omega)
   obtain ⟨y, hy⟩ : ∃ y, keysL[k]? = some y := ⟨_, List.getElem?_eq_getElem hlt⟩
   have hyc : w3.cell? ⟨b, o + k, none⟩ = some (An y) := hcell k _ (by simp [hy])
   have ht1 : keysL.take (k + 1) = keysL.take k ++ [y] := by rw [List.take_add_one, hy]; rfl
   generalize keysL.length = nn at *
   refine AA (AG rfl (AM rfl (AZ rfl (At rfl rfl (by omega) ?_))))
   repeat refine nx rfl ?_
   by_cases hys : y = s
   ·(refine AA (AM rfl (AG rfl (BL rfl rfl rfl (by omega) (AF rfl (by assumption) ?_)))) <;> refine A1 rfl ?_ <;> refine Bs rfl rfl (fun hc => ?_) (fun hc => ?_) <;> refine AO ?_)
    case refine_2 => exact absurd hys (by assumption)
    repeat refine nx rfl ?_
    refine AA (AC (AB rfl ?_))
    repeat refine nx rfl ?_
    exact AI rfl ⟨false, rfl, k1, fun h => by cases h⟩
   ·(refine AA (AM rfl (AG rfl (BL rfl rfl rfl (by omega) (AF rfl (by assumption) ?_)))) <;> refine A1 rfl ?_ <;> refine Bs rfl rfl (fun hc => ?_) (fun hc => ?_) <;> refine AO ?_)
    case refine_1 => exact absurd (by assumption) hys
    repeat first | refine nx rfl ?_ | refine nf rfl ?_
    (refine AA (AG rfl (Av rfl rfl (by first | exact AV (by omega) (by omega) | exact AY (by omega) (by omega) | exact AW (by omega) (by omega)) ?_)) <;> refine AC (AG rfl ?_))
    repeat refine nx rfl ?_
    refine ⟨k + 1, ⟨rfl, ⟨rfl, rfl, ?_, trivial⟩, ⟨by omega, by rw [ht1]; simp [hn]; exact fun e => hys e.symm, rfl⟩⟩, by omega⟩
    show Value.int .i64 ((k : Int) + 1) = _
    rw [Int.natCast_add]; rfl
  ·have e : k = keysL.length := by omega
   rw [e, List.take_length] at hn
   generalize keysL.length = nn at *
   refine AA (AG rfl (AM rfl (AZ rfl (Aj rfl rfl (by omega) ?_))))
   repeat first | refine nx rfl ?_ | refine nf rfl ?_
   refine AA (AC (AB rfl ?_))
   repeat refine nx rfl ?_
   exact AI rfl ⟨true, rfl, k1, fun _ => by rw [CU, hsh, decide_eq_false hn, decide_eq_true (show 1 ≤ s.length by omega), decide_eq_true (show s.length ≤ 12 by omega)]; rfl⟩
end Go.Proofs.YtkhhjdjmhbdjfaaGreatDoor
namespace Go.Proofs.YtkhhjdjmhbdjfaaGreatDoor
open Go.RowKit
set_option linter.unusedVariables false
def shQ (f : Fml) : Prop := BX f.op f.name f.val f.bound f.args.length = true
theorem node_ok3 (w : World) (v : Value) (f : Fml) (hf : FAt As w v f) : Fn Tryz.prog 134 [v] w fun u w' => ∃ b : Bool, u = .bool b ∧ Ext w w' ∧ (b = true → shQ f) := by
 obtain ⟨av, rfl, L, hS, hFA⟩ := hf.form
 obtain ⟨a, c, rfl, hS'⟩ := id hS
 have hcap : f.args.length ≤ 9223372036854775807 := by obtain ⟨h1, h2, _⟩ := hS'; omega
 obtain ⟨op, nm, vl, bd, args⟩ := f
 simp only [Fml.op, Fml.name, Fml.val, Fml.bound, Fml.args, shQ] at *
 refine AR Tryz.func134 rfl Tryz.ntmps134 (Nat.le_of_ble_eq_true rfl) (by kernel_rfl) ?_
 repeat refine nx rfl ?_
 (refine AA ?_; refine A5 (L := fcC (.mk op nm vl bd args) (.slice a args.length c)) rfl (fun w1 n1 => ?_))
 have b1 := n1.blk
 have k1 := n1.keep
 have c0 : w1.cell? ⟨w.heap.size, 0 + 0, none⟩ = some (.int .i64 op) := b1.cell rfl
 have c1 : w1.cell? ⟨w.heap.size, 0 + 1, none⟩ = some (An nm) := b1.cell rfl
 have c2 : w1.cell? ⟨w.heap.size, 0 + 2, none⟩ = some (.int .i64 vl) := b1.cell rfl
 have c3 : w1.cell? ⟨w.heap.size, 0 + 3, none⟩ = some (.int .i64 bd) := b1.cell rfl
 have c4 : w1.cell? ⟨w.heap.size, 0 + 4, none⟩ = some (.slice a args.length c) := b1.cell rfl
 refine AC (AB rfl ?_)
 repeat refine nx rfl ?_
 refine AA (AD rfl (AF rfl (Blk.cell (by assumption) (by rfl)) ?_))
 refine AQ (count_ok3 w1 op) rfl ?_
 rintro _ w1 ⟨lo, hi, ok, rfl, rfl, hq⟩
 refine Cj rfl (BA rfl rfl (BA rfl rfl (BA rfl rfl (AC (AG rfl (AC (AG rfl (AC (AB rfl ?_)))))))))
 repeat refine nx rfl ?_
 clear b1 hS hFA n1 hS'
 cases ok with
 | false =>
  refine AA (AB rfl (Ak rfl (AB rfl (AL rfl (AL rfl (AL rfl (AL rfl (AL rfl (AK rfl (AB rfl (AB rfl (AL rfl (AL rfl (AL rfl (AL rfl (AL rfl (AL rfl (AL rfl (AL rfl (AL rfl (AK rfl (AB rfl ?_))))))))))))))))))))))
  repeat refine nx rfl ?_
  refine AA (AC (AB rfl ?_))
  repeat refine nx rfl ?_
  exact AI rfl ⟨false, rfl, k1, fun h => by cases h⟩
 | true =>
 obtain ⟨ho1, ho19, har⟩ := hq rfl
 by_cases hlo : (args.length : Int) < lo
 ·(refine AA (AB rfl (Ak rfl (AB rfl (AE rfl (AD rfl (AE rfl (AF rfl (by assumption) ?_))))))) <;> refine AE rfl (AZ rfl (AE rfl (AG rfl (AE rfl (At rfl rfl (by omega) (AJ rfl (AB rfl (AB rfl (AL rfl (AL rfl (AL rfl (AL rfl (AL rfl (AL rfl (AL rfl (AL rfl (AL rfl (AK rfl (AB rfl ?_))))))))))))))))))))
  repeat refine nx rfl ?_
  refine AA (AC (AB rfl ?_))
  repeat refine nx rfl ?_
  exact AI rfl ⟨false, rfl, k1, fun h => by cases h⟩
 by_cases hhi : 0 ≤ hi ∧ hi < args.length
 ·(refine AA (AB rfl (Ak rfl (AB rfl (AE rfl (AD rfl (AE rfl (AF rfl (by assumption) ?_))))))) <;> refine AE rfl (AZ rfl (AE rfl (AG rfl (AE rfl (Aj rfl rfl (by omega) (AJ rfl (AB rfl (AB rfl (AE rfl (AG rfl (AE rfl (BC rfl rfl (by omega) (AE rfl (AB rfl (AE rfl (AD rfl (AE rfl (AF rfl (by assumption) ?_)))))))))))))))))) <;> refine AE rfl (AZ rfl (AE rfl (AG rfl (AE rfl (Co rfl rfl (by omega) (AE rfl (AK rfl (AB rfl (AJ rfl (AB rfl ?_)))))))))))
  repeat refine nx rfl ?_
  refine AA (AC (AB rfl ?_))
  repeat refine nx rfl ?_
  exact AI rfl ⟨false, rfl, k1, fun h => by cases h⟩
 have har' := har args.length (by omega) (fun h => by omega)
 refine Cn (α := Unit) (fun _ => [(1, pt w.heap.size), (34, .bool false)]) (fun _ W => w1 = W) ?_ ?_
 ·by_cases hh : 0 ≤ hi
  ·(refine AA (AB rfl (Ak rfl (AB rfl (AE rfl (AD rfl (AE rfl (AF rfl (by assumption) ?_))))))) <;> refine AE rfl (AZ rfl (AE rfl (AG rfl (AE rfl (Aj rfl rfl (by omega) (AJ rfl (AB rfl (AB rfl (AE rfl (AG rfl (AE rfl (BC rfl rfl (by omega) (AE rfl (AB rfl (AE rfl (AD rfl (AE rfl (AF rfl (by assumption) ?_)))))))))))))))))) <;> refine AE rfl (AZ rfl (AE rfl (AG rfl (AE rfl (B9 rfl rfl (by omega) (AE rfl (AK rfl (AB rfl (AJ rfl (AB rfl (AO ?_))))))))))))
   exact A0 () ⟨rfl, rfl, trivial⟩ rfl
  ·(refine AA (AB rfl (Ak rfl (AB rfl (AE rfl (AD rfl (AE rfl (AF rfl (by assumption) ?_))))))) <;> refine AE rfl (AZ rfl (AE rfl (AG rfl (AE rfl (Aj rfl rfl (by omega) (AJ rfl (AB rfl (AB rfl (AE rfl (AG rfl (AE rfl (CD rfl rfl (by omega) (AE rfl (AB rfl (AL rfl (AL rfl (AL rfl (AL rfl (AL rfl (AE rfl (AJ rfl (AB rfl (AJ rfl (AB rfl (AO ?_))))))))))))))))))))))))))
   exact A0 () ⟨rfl, rfl, trivial⟩ rfl
 rintro _ _ f3 rfl
 repeat first | refine nx rfl ?_ | refine nf rfl ?_
 by_cases h3 : op = 3
 ·subst h3
  (refine AA (AD rfl (AF rfl (by assumption) ?_)) <;> refine Ai rfl rfl (by omega) ?_)
  repeat refine nx rfl ?_
  refine AA (AD rfl (AF rfl (by assumption) ?_))
  refine AQ (name3_ok nm w1) rfl ?_
  rintro _ w2 ⟨b, rfl, k2, hb⟩
  have e2 := k1.trans k2
  replace c2 := k2.cell c2 (by simp)
  replace c3 := k2.cell c3 (by simp)
  cases b with
  | false =>
   refine AB rfl (AL rfl (AL rfl (AL rfl (AJ rfl (AB rfl (AB rfl (AL rfl (AL rfl (AL rfl (AJ rfl (AB rfl (AB rfl (AL rfl (AL rfl (AL rfl (AJ rfl (AB rfl (AC (AB rfl ?_)))))))))))))))))))
   repeat refine nx rfl ?_
   exact AI rfl ⟨false, rfl, e2, fun h => by cases h⟩
  | true =>
  by_cases g1 : 0 ≤ vl
  case neg =>
   (refine AB rfl (AE rfl (AD rfl (AE rfl (AF rfl (by assumption) ?_)))) <;> refine AE rfl (CD rfl rfl (by omega) (AK rfl (AB rfl (AB rfl (AL rfl (AL rfl (AL rfl (AJ rfl (AB rfl (AB rfl (AL rfl (AL rfl (AL rfl (AJ rfl (AB rfl (AC (AB rfl ?_))))))))))))))))))
   repeat refine nx rfl ?_
   exact AI rfl ⟨false, rfl, e2, fun h => by cases h⟩
  by_cases g2 : vl ≤ 3
  case neg =>
   (refine AB rfl (AE rfl (AD rfl (AE rfl (AF rfl (by assumption) ?_)))) <;> refine AE rfl (BC rfl rfl (by omega) (AK rfl (AB rfl (AB rfl (AE rfl (AD rfl (AE rfl (AF rfl (by assumption) ?_)))))))) <;> refine AE rfl (Bh rfl rfl (by omega) (AK rfl (AB rfl (AB rfl (AL rfl (AL rfl (AL rfl (AJ rfl (AB rfl (AC (AB rfl ?_))))))))))))
   repeat refine nx rfl ?_
   exact AI rfl ⟨false, rfl, e2, fun h => by cases h⟩
  by_cases g3 : bd = 0
  ·(refine AB rfl (AE rfl (AD rfl (AE rfl (AF rfl (by assumption) ?_)))) <;> refine AE rfl (BC rfl rfl (by omega) (AK rfl (AB rfl (AB rfl (AE rfl (AD rfl (AE rfl (AF rfl (by assumption) ?_)))))))) <;> refine AE rfl (BZ rfl rfl (by omega) (AK rfl (AB rfl (AB rfl (AE rfl (AD rfl (AE rfl (AF rfl (by assumption) ?_)))))))) <;> refine AE rfl (Ai rfl rfl (by omega) (AK rfl (AB rfl (AC (AB rfl ?_))))))
   repeat refine nx rfl ?_
   refine AI rfl ⟨true, rfl, e2, fun _ => ?_⟩
   simp [BX, har', hb rfl, g1, g2, g3]
  ·(refine AB rfl (AE rfl (AD rfl (AE rfl (AF rfl (by assumption) ?_)))) <;> refine AE rfl (BC rfl rfl (by omega) (AK rfl (AB rfl (AB rfl (AE rfl (AD rfl (AE rfl (AF rfl (by assumption) ?_)))))))) <;> refine AE rfl (BZ rfl rfl (by omega) (AK rfl (AB rfl (AB rfl (AE rfl (AD rfl (AE rfl (AF rfl (by assumption) ?_)))))))) <;> refine AE rfl (AT rfl rfl (by omega) (AK rfl (AB rfl (AC (AB rfl ?_))))))
   repeat refine nx rfl ?_
   exact AI rfl ⟨false, rfl, e2, fun h => by cases h⟩
 (refine AA (AD rfl (AF rfl (by assumption) ?_)) <;> refine AT rfl rfl (by omega) ?_)
 repeat first | refine nx rfl ?_ | refine nf rfl ?_
 refine Cn (α := Bool) (fun b => [(1, pt w.heap.size), (6, .bool b)]) (fun b W => w1 = W ∧ (b = true ↔ op = 13 ∨ op = 14)) ?_ ?_
 ·by_cases g1 : op = 13
  ·(refine AA (AD rfl (AF rfl (by assumption) ?_)) <;> refine Ai rfl rfl (by omega) (AB rfl (AL rfl (AL rfl (AL rfl (AK rfl (AB rfl (AC (AB rfl (AO ?_))))))))))
   exact A0 true ⟨rfl, rfl, trivial⟩ ⟨rfl, by simp [g1]⟩
  ·by_cases g2 : op = 14
   ·(refine AA (AD rfl (AF rfl (by assumption) ?_)) <;> refine AT rfl rfl (by omega) (AB rfl (AE rfl (AD rfl (AE rfl (AF rfl (by assumption) ?_))))) <;> refine AE rfl (Ai rfl rfl (by omega) (AJ rfl (AB rfl (AC (AB rfl (AO ?_)))))))
    exact A0 true ⟨rfl, rfl, trivial⟩ ⟨rfl, by simp [g2]⟩
   ·(refine AA (AD rfl (AF rfl (by assumption) ?_)) <;> refine AT rfl rfl (by omega) (AB rfl (AE rfl (AD rfl (AE rfl (AF rfl (by assumption) ?_))))) <;> refine AE rfl (AT rfl rfl (by omega) (AJ rfl (AB rfl (AC (AB rfl (AO ?_)))))))
    exact A0 false ⟨rfl, rfl, trivial⟩ ⟨rfl, by simp [g1, g2]⟩
 rintro b6 _ f4 ⟨rfl, h6⟩
 repeat refine nx rfl ?_
 refine Cn (α := Bool) (fun b => [(1, pt w.heap.size), (6, .bool b6), (7, .bool b)]) (fun b W => w1 = W ∧ (b = true ↔ op = 15 ∨ op = 16 ∨ op = 17)) ?_ ?_
 ·by_cases g1 : op = 15
  ·(refine AA (AD rfl (AF rfl (by assumption) ?_)) <;> refine Ai rfl rfl (by omega) (AB rfl (AL rfl (AL rfl (AL rfl (AK rfl (AB rfl (AB rfl (AL rfl (AL rfl (AL rfl (AK rfl (AB rfl (AC (AB rfl (AO ?_))))))))))))))))
   exact A0 true ⟨rfl, rfl, rfl, trivial⟩ ⟨rfl, by simp [g1]⟩
  ·by_cases g2 : op = 16
   ·(refine AA (AD rfl (AF rfl (by assumption) ?_)) <;> refine AT rfl rfl (by omega) (AB rfl (AE rfl (AD rfl (AE rfl (AF rfl (by assumption) ?_))))) <;> refine AE rfl (Ai rfl rfl (by omega) (AJ rfl (AB rfl (AB rfl (AL rfl (AL rfl (AL rfl (AK rfl (AB rfl (AC (AB rfl (AO ?_)))))))))))))
    exact A0 true ⟨rfl, rfl, rfl, trivial⟩ ⟨rfl, by simp [g2]⟩
   ·by_cases g3 : op = 17
    ·(refine AA (AD rfl (AF rfl (by assumption) ?_)) <;> refine AT rfl rfl (by omega) (AB rfl (AE rfl (AD rfl (AE rfl (AF rfl (by assumption) ?_))))) <;> refine AE rfl (AT rfl rfl (by omega) (AJ rfl (AB rfl (AB rfl (AE rfl (AD rfl (AE rfl (AF rfl (by assumption) ?_)))))))) <;> refine AE rfl (Ai rfl rfl (by omega) (AJ rfl (AB rfl (AC (AB rfl (AO ?_)))))))
     exact A0 true ⟨rfl, rfl, rfl, trivial⟩ ⟨rfl, by simp [g3]⟩
    ·(refine AA (AD rfl (AF rfl (by assumption) ?_)) <;> refine AT rfl rfl (by omega) (AB rfl (AE rfl (AD rfl (AE rfl (AF rfl (by assumption) ?_))))) <;> refine AE rfl (AT rfl rfl (by omega) (AJ rfl (AB rfl (AB rfl (AE rfl (AD rfl (AE rfl (AF rfl (by assumption) ?_)))))))) <;> refine AE rfl (AT rfl rfl (by omega) (AJ rfl (AB rfl (AC (AB rfl (AO ?_)))))))
     exact A0 false ⟨rfl, rfl, rfl, trivial⟩ ⟨rfl, by simp [g1, g2, g3]⟩
 rintro b7 _ f5 ⟨rfl, h7⟩
 repeat refine nx rfl ?_
 by_cases g0 : nm = []
 case neg =>
  refine AA (AD rfl (AF rfl (by assumption) ?_))
  refine Bs rfl rfl (fun hc => absurd hc g0) (fun hc => ?_)
  refine AB rfl (AL rfl (AL rfl (AL rfl (AJ rfl (AB rfl (AB rfl (AL rfl (AL rfl (AL rfl (AJ rfl (AB rfl (AB rfl (AL rfl (AL rfl (AL rfl (AL rfl (AL rfl (AL rfl (AJ rfl (AB rfl (AB rfl (AL rfl (AL rfl (AL rfl (AJ rfl (AB rfl (AB rfl (AL rfl (AL rfl (AL rfl (AJ rfl (AB rfl (AB rfl (AL rfl (AL rfl (AL rfl (AL rfl (AL rfl (AL rfl (AJ rfl (AB rfl (AC (AB rfl ?_)))))))))))))))))))))))))))))))))))))))))))
  repeat refine nx rfl ?_
  exact AI rfl ⟨false, rfl, k1, fun h => by cases h⟩
 by_cases g1 : 0 ≤ vl
 case neg =>
  refine AA (AD rfl (AF rfl (by assumption) ?_))
  refine Bs rfl rfl (fun hc => ?_) (fun hc => absurd g0 hc)
  (refine AB rfl (AE rfl (AD rfl (AE rfl (AF rfl (by assumption) ?_)))) <;> refine AE rfl (CD rfl rfl (by omega) (AK rfl (AB rfl (AB rfl (AL rfl (AL rfl (AL rfl (AJ rfl (AB rfl (AB rfl (AL rfl (AL rfl (AL rfl (AL rfl (AL rfl (AL rfl (AJ rfl (AB rfl (AB rfl (AL rfl (AL rfl (AL rfl (AJ rfl (AB rfl (AB rfl (AL rfl (AL rfl (AL rfl (AJ rfl (AB rfl (AB rfl (AL rfl (AL rfl (AL rfl (AL rfl (AL rfl (AL rfl (AJ rfl (AB rfl (AC (AB rfl ?_))))))))))))))))))))))))))))))))))))))))))
  repeat refine nx rfl ?_
  exact AI rfl ⟨false, rfl, k1, fun h => by cases h⟩
 by_cases g2 : vl ≤ 1
 case neg =>
  refine AA (AD rfl (AF rfl (by assumption) ?_))
  refine Bs rfl rfl (fun hc => ?_) (fun hc => absurd g0 hc)
  (refine AB rfl (AE rfl (AD rfl (AE rfl (AF rfl (by assumption) ?_)))) <;> refine AE rfl (BC rfl rfl (by omega) (AK rfl (AB rfl (AB rfl (AE rfl (AD rfl (AE rfl (AF rfl (by assumption) ?_)))))))) <;> refine AE rfl (Bh rfl rfl (by omega) (AK rfl (AB rfl (AB rfl (AL rfl (AL rfl (AL rfl (AL rfl (AL rfl (AL rfl (AJ rfl (AB rfl (AB rfl (AL rfl (AL rfl (AL rfl (AJ rfl (AB rfl (AB rfl (AL rfl (AL rfl (AL rfl (AJ rfl (AB rfl (AB rfl (AL rfl (AL rfl (AL rfl (AL rfl (AL rfl (AL rfl (AJ rfl (AB rfl (AC (AB rfl ?_))))))))))))))))))))))))))))))))))))
  repeat refine nx rfl ?_
  exact AI rfl ⟨false, rfl, k1, fun h => by cases h⟩
 by_cases g3 : b7 = true ∨ vl = 0
 case neg =>
  have e7 : b7 = false := by cases b7 <;> simp_all
  subst e7
  have g3' : vl ≠ 0 := fun h => g3 (.inr h)
  refine AA (AD rfl (AF rfl (by assumption) ?_))
  refine Bs rfl rfl (fun hc => ?_) (fun hc => absurd g0 hc)
  (refine AB rfl (AE rfl (AD rfl (AE rfl (AF rfl (by assumption) ?_)))) <;> refine AE rfl (BC rfl rfl (by omega) (AK rfl (AB rfl (AB rfl (AE rfl (AD rfl (AE rfl (AF rfl (by assumption) ?_)))))))) <;> refine AE rfl (BZ rfl rfl (by omega) (AK rfl (AB rfl (AB rfl (AE rfl (AB rfl (AE rfl (AB rfl (AE rfl (AD rfl (AE rfl (AF rfl (by assumption) ?_)))))))))))) <;> refine AE rfl (AT rfl rfl (by omega) (AE rfl (AJ rfl (AB rfl (AK rfl (AB rfl (AB rfl (AL rfl (AL rfl (AL rfl (AJ rfl (AB rfl (AB rfl (AL rfl (AL rfl (AL rfl (AJ rfl (AB rfl (AB rfl (AL rfl (AL rfl (AL rfl (AL rfl (AL rfl (AL rfl (AJ rfl (AB rfl (AC (AB rfl ?_))))))))))))))))))))))))))))))
  repeat refine nx rfl ?_
  exact AI rfl ⟨false, rfl, k1, fun h => by cases h⟩
 by_cases g4 : 0 ≤ bd
 case neg =>
  cases b7 with
  | true =>
   refine AA (AD rfl (AF rfl (by assumption) ?_))
   refine Bs rfl rfl (fun hc => ?_) (fun hc => absurd g0 hc)
   (refine AB rfl (AE rfl (AD rfl (AE rfl (AF rfl (by assumption) ?_)))) <;> refine AE rfl (BC rfl rfl (by omega) (AK rfl (AB rfl (AB rfl (AE rfl (AD rfl (AE rfl (AF rfl (by assumption) ?_)))))))) <;> refine AE rfl (BZ rfl rfl (by omega) (AK rfl (AB rfl (AB rfl (AE rfl (AB rfl (AE rfl (AB rfl (AL rfl (AL rfl (AL rfl (AE rfl (AK rfl (AB rfl (AK rfl (AB rfl (AB rfl (AE rfl (AD rfl (AE rfl (AF rfl (by assumption) ?_))))))))))))))))))))) <;> refine AE rfl (CD rfl rfl (by omega) (AK rfl (AB rfl (AB rfl (AL rfl (AL rfl (AL rfl (AJ rfl (AB rfl (AB rfl (AL rfl (AL rfl (AL rfl (AL rfl (AL rfl (AL rfl (AJ rfl (AB rfl (AC (AB rfl ?_)))))))))))))))))))))
   repeat refine nx rfl ?_
   exact AI rfl ⟨false, rfl, k1, fun h => by cases h⟩
  | false =>
   have g3' : vl = 0 := by simpa using g3
   refine AA (AD rfl (AF rfl (by assumption) ?_))
   refine Bs rfl rfl (fun hc => ?_) (fun hc => absurd g0 hc)
   (refine AB rfl (AE rfl (AD rfl (AE rfl (AF rfl (by assumption) ?_)))) <;> refine AE rfl (BC rfl rfl (by omega) (AK rfl (AB rfl (AB rfl (AE rfl (AD rfl (AE rfl (AF rfl (by assumption) ?_)))))))) <;> refine AE rfl (BZ rfl rfl (by omega) (AK rfl (AB rfl (AB rfl (AE rfl (AB rfl (AE rfl (AB rfl (AE rfl (AD rfl (AE rfl (AF rfl (by assumption) ?_)))))))))))) <;> refine AE rfl (Ai rfl rfl (by omega) (AE rfl (AJ rfl (AB rfl (AK rfl (AB rfl (AB rfl (AE rfl (AD rfl (AE rfl (AF rfl (by assumption) ?_))))))))))) <;> refine AE rfl (CD rfl rfl (by omega) (AK rfl (AB rfl (AB rfl (AL rfl (AL rfl (AL rfl (AJ rfl (AB rfl (AB rfl (AL rfl (AL rfl (AL rfl (AL rfl (AL rfl (AL rfl (AJ rfl (AB rfl (AC (AB rfl ?_)))))))))))))))))))))
   repeat refine nx rfl ?_
   exact AI rfl ⟨false, rfl, k1, fun h => by cases h⟩
 by_cases g5 : bd ≤ 9
 case neg =>
  cases b7 with
  | true =>
   refine AA (AD rfl (AF rfl (by assumption) ?_))
   refine Bs rfl rfl (fun hc => ?_) (fun hc => absurd g0 hc)
   (refine AB rfl (AE rfl (AD rfl (AE rfl (AF rfl (by assumption) ?_)))) <;> refine AE rfl (BC rfl rfl (by omega) (AK rfl (AB rfl (AB rfl (AE rfl (AD rfl (AE rfl (AF rfl (by assumption) ?_)))))))) <;> refine AE rfl (BZ rfl rfl (by omega) (AK rfl (AB rfl (AB rfl (AE rfl (AB rfl (AE rfl (AB rfl (AL rfl (AL rfl (AL rfl (AE rfl (AK rfl (AB rfl (AK rfl (AB rfl (AB rfl (AE rfl (AD rfl (AE rfl (AF rfl (by assumption) ?_))))))))))))))))))))) <;> refine AE rfl (BC rfl rfl (by omega) (AK rfl (AB rfl (AB rfl (AE rfl (AD rfl (AE rfl (AF rfl (by assumption) ?_)))))))) <;> refine AE rfl (Bh rfl rfl (by omega) (AK rfl (AB rfl (AB rfl (AL rfl (AL rfl (AL rfl (AL rfl (AL rfl (AL rfl (AJ rfl (AB rfl (AC (AB rfl ?_)))))))))))))))
   repeat refine nx rfl ?_
   exact AI rfl ⟨false, rfl, k1, fun h => by cases h⟩
  | false =>
   have g3' : vl = 0 := by simpa using g3
   refine AA (AD rfl (AF rfl (by assumption) ?_))
   refine Bs rfl rfl (fun hc => ?_) (fun hc => absurd g0 hc)
   (refine AB rfl (AE rfl (AD rfl (AE rfl (AF rfl (by assumption) ?_)))) <;> refine AE rfl (BC rfl rfl (by omega) (AK rfl (AB rfl (AB rfl (AE rfl (AD rfl (AE rfl (AF rfl (by assumption) ?_)))))))) <;> refine AE rfl (BZ rfl rfl (by omega) (AK rfl (AB rfl (AB rfl (AE rfl (AB rfl (AE rfl (AB rfl (AE rfl (AD rfl (AE rfl (AF rfl (by assumption) ?_)))))))))))) <;> refine AE rfl (Ai rfl rfl (by omega) (AE rfl (AJ rfl (AB rfl (AK rfl (AB rfl (AB rfl (AE rfl (AD rfl (AE rfl (AF rfl (by assumption) ?_))))))))))) <;> refine AE rfl (BC rfl rfl (by omega) (AK rfl (AB rfl (AB rfl (AE rfl (AD rfl (AE rfl (AF rfl (by assumption) ?_)))))))) <;> refine AE rfl (Bh rfl rfl (by omega) (AK rfl (AB rfl (AB rfl (AL rfl (AL rfl (AL rfl (AL rfl (AL rfl (AL rfl (AJ rfl (AB rfl (AC (AB rfl ?_)))))))))))))))
   repeat refine nx rfl ?_
   exact AI rfl ⟨false, rfl, k1, fun h => by cases h⟩
 by_cases g6 : b6 = true ∨ bd = 0
 case neg =>
  have e6 : b6 = false := by cases b6 <;> simp_all
  subst e6
  have g6' : bd ≠ 0 := fun h => g6 (.inr h)
  cases b7 with
  | true =>
   refine AA (AD rfl (AF rfl (by assumption) ?_))
   refine Bs rfl rfl (fun hc => ?_) (fun hc => absurd g0 hc)
   (refine AB rfl (AE rfl (AD rfl (AE rfl (AF rfl (by assumption) ?_)))) <;> refine AE rfl (BC rfl rfl (by omega) (AK rfl (AB rfl (AB rfl (AE rfl (AD rfl (AE rfl (AF rfl (by assumption) ?_)))))))) <;> refine AE rfl (BZ rfl rfl (by omega) (AK rfl (AB rfl (AB rfl (AE rfl (AB rfl (AE rfl (AB rfl (AL rfl (AL rfl (AL rfl (AE rfl (AK rfl (AB rfl (AK rfl (AB rfl (AB rfl (AE rfl (AD rfl (AE rfl (AF rfl (by assumption) ?_))))))))))))))))))))) <;> refine AE rfl (BC rfl rfl (by omega) (AK rfl (AB rfl (AB rfl (AE rfl (AD rfl (AE rfl (AF rfl (by assumption) ?_)))))))) <;> refine AE rfl (BZ rfl rfl (by omega) (AK rfl (AB rfl (AB rfl (AE rfl (AB rfl (AE rfl (AB rfl (AE rfl (AD rfl (AE rfl (AF rfl (by assumption) ?_)))))))))))) <;> refine AE rfl (AT rfl rfl (by omega) (AE rfl (AJ rfl (AB rfl (AK rfl (AB rfl (AC (AB rfl ?_)))))))))
   repeat refine nx rfl ?_
   exact AI rfl ⟨false, rfl, k1, fun h => by cases h⟩
  | false =>
   have g3' : vl = 0 := by simpa using g3
   refine AA (AD rfl (AF rfl (by assumption) ?_))
   refine Bs rfl rfl (fun hc => ?_) (fun hc => absurd g0 hc)
   (refine AB rfl (AE rfl (AD rfl (AE rfl (AF rfl (by assumption) ?_)))) <;> refine AE rfl (BC rfl rfl (by omega) (AK rfl (AB rfl (AB rfl (AE rfl (AD rfl (AE rfl (AF rfl (by assumption) ?_)))))))) <;> refine AE rfl (BZ rfl rfl (by omega) (AK rfl (AB rfl (AB rfl (AE rfl (AB rfl (AE rfl (AB rfl (AE rfl (AD rfl (AE rfl (AF rfl (by assumption) ?_)))))))))))) <;> refine AE rfl (Ai rfl rfl (by omega) (AE rfl (AJ rfl (AB rfl (AK rfl (AB rfl (AB rfl (AE rfl (AD rfl (AE rfl (AF rfl (by assumption) ?_))))))))))) <;> refine AE rfl (BC rfl rfl (by omega) (AK rfl (AB rfl (AB rfl (AE rfl (AD rfl (AE rfl (AF rfl (by assumption) ?_)))))))) <;> refine AE rfl (BZ rfl rfl (by omega) (AK rfl (AB rfl (AB rfl (AE rfl (AB rfl (AE rfl (AB rfl (AE rfl (AD rfl (AE rfl (AF rfl (by assumption) ?_)))))))))))) <;> refine AE rfl (AT rfl rfl (by omega) (AE rfl (AJ rfl (AB rfl (AK rfl (AB rfl (AC (AB rfl ?_)))))))))
   repeat refine nx rfl ?_
   exact AI rfl ⟨false, rfl, k1, fun h => by cases h⟩
 cases b6 with
 | true =>
  have h6' := h6.1 rfl
  cases b7 with
  | true => exfalso; have := h7.1 rfl; omega
  | false =>
   have g3' : vl = 0 := by simpa using g3
   refine AA (AD rfl (AF rfl (by assumption) ?_))
   refine Bs rfl rfl (fun hc => ?_) (fun hc => absurd g0 hc)
   (refine AB rfl (AE rfl (AD rfl (AE rfl (AF rfl (by assumption) ?_)))) <;> refine AE rfl (BC rfl rfl (by omega) (AK rfl (AB rfl (AB rfl (AE rfl (AD rfl (AE rfl (AF rfl (by assumption) ?_)))))))) <;> refine AE rfl (BZ rfl rfl (by omega) (AK rfl (AB rfl (AB rfl (AE rfl (AB rfl (AE rfl (AB rfl (AE rfl (AD rfl (AE rfl (AF rfl (by assumption) ?_)))))))))))) <;> refine AE rfl (Ai rfl rfl (by omega) (AE rfl (AJ rfl (AB rfl (AK rfl (AB rfl (AB rfl (AE rfl (AD rfl (AE rfl (AF rfl (by assumption) ?_))))))))))) <;> refine AE rfl (BC rfl rfl (by omega) (AK rfl (AB rfl (AB rfl (AE rfl (AD rfl (AE rfl (AF rfl (by assumption) ?_)))))))) <;> refine AE rfl (BZ rfl rfl (by omega) (AK rfl (AB rfl (AB rfl (AE rfl (AB rfl (AE rfl (AB rfl (AL rfl (AL rfl (AL rfl (AE rfl (AK rfl (AB rfl (AK rfl (AB rfl (AC (AB rfl ?_)))))))))))))))))))
   repeat refine nx rfl ?_
   refine AI rfl ⟨true, rfl, k1, fun _ => ?_⟩
   simp only [BX, har', g0, if_neg h3, Bool.and_eq_true, decide_eq_true_eq, List.isEmpty_nil]
   refine ⟨⟨⟨⟨⟨⟨⟨ho1, ho19⟩, trivial⟩, g1⟩, ?_⟩, g4⟩, ?_⟩, trivial⟩
   ·split <;> omega
   ·split <;> omega
 | false =>
  have g6' : bd = 0 := by simpa using g6
  cases b7 with
  | true =>
   have h7' := h7.1 rfl
   refine AA (AD rfl (AF rfl (by assumption) ?_))
   refine Bs rfl rfl (fun hc => ?_) (fun hc => absurd g0 hc)
   (refine AB rfl (AE rfl (AD rfl (AE rfl (AF rfl (by assumption) ?_)))) <;> refine AE rfl (BC rfl rfl (by omega) (AK rfl (AB rfl (AB rfl (AE rfl (AD rfl (AE rfl (AF rfl (by assumption) ?_)))))))) <;> refine AE rfl (BZ rfl rfl (by omega) (AK rfl (AB rfl (AB rfl (AE rfl (AB rfl (AE rfl (AB rfl (AL rfl (AL rfl (AL rfl (AE rfl (AK rfl (AB rfl (AK rfl (AB rfl (AB rfl (AE rfl (AD rfl (AE rfl (AF rfl (by assumption) ?_))))))))))))))))))))) <;> refine AE rfl (BC rfl rfl (by omega) (AK rfl (AB rfl (AB rfl (AE rfl (AD rfl (AE rfl (AF rfl (by assumption) ?_)))))))) <;> refine AE rfl (BZ rfl rfl (by omega) (AK rfl (AB rfl (AB rfl (AE rfl (AB rfl (AE rfl (AB rfl (AE rfl (AD rfl (AE rfl (AF rfl (by assumption) ?_)))))))))))) <;> refine AE rfl (Ai rfl rfl (by omega) (AE rfl (AJ rfl (AB rfl (AK rfl (AB rfl (AC (AB rfl ?_)))))))))
   repeat refine nx rfl ?_
   refine AI rfl ⟨true, rfl, k1, fun _ => ?_⟩
   simp only [BX, har', g0, if_neg h3, Bool.and_eq_true, decide_eq_true_eq, List.isEmpty_nil]
   refine ⟨⟨⟨⟨⟨⟨⟨ho1, ho19⟩, trivial⟩, g1⟩, ?_⟩, g4⟩, ?_⟩, trivial⟩
   ·split <;> omega
   ·split <;> omega
  | false =>
   have g3' : vl = 0 := by simpa using g3
   refine AA (AD rfl (AF rfl (by assumption) ?_))
   refine Bs rfl rfl (fun hc => ?_) (fun hc => absurd g0 hc)
   (refine AB rfl (AE rfl (AD rfl (AE rfl (AF rfl (by assumption) ?_)))) <;> refine AE rfl (BC rfl rfl (by omega) (AK rfl (AB rfl (AB rfl (AE rfl (AD rfl (AE rfl (AF rfl (by assumption) ?_)))))))) <;> refine AE rfl (BZ rfl rfl (by omega) (AK rfl (AB rfl (AB rfl (AE rfl (AB rfl (AE rfl (AB rfl (AE rfl (AD rfl (AE rfl (AF rfl (by assumption) ?_)))))))))))) <;> refine AE rfl (Ai rfl rfl (by omega) (AE rfl (AJ rfl (AB rfl (AK rfl (AB rfl (AB rfl (AE rfl (AD rfl (AE rfl (AF rfl (by assumption) ?_))))))))))) <;> refine AE rfl (BC rfl rfl (by omega) (AK rfl (AB rfl (AB rfl (AE rfl (AD rfl (AE rfl (AF rfl (by assumption) ?_)))))))) <;> refine AE rfl (BZ rfl rfl (by omega) (AK rfl (AB rfl (AB rfl (AE rfl (AB rfl (AE rfl (AB rfl (AE rfl (AD rfl (AE rfl (AF rfl (by assumption) ?_)))))))))))) <;> refine AE rfl (Ai rfl rfl (by omega) (AE rfl (AJ rfl (AB rfl (AK rfl (AB rfl (AC (AB rfl ?_)))))))))
   repeat refine nx rfl ?_
   refine AI rfl ⟨true, rfl, k1, fun _ => ?_⟩
   simp only [BX, har', g0, if_neg h3, Bool.and_eq_true, decide_eq_true_eq, List.isEmpty_nil]
   refine ⟨⟨⟨⟨⟨⟨⟨ho1, ho19⟩, trivial⟩, g1⟩, ?_⟩, g4⟩, ?_⟩, trivial⟩
   ·split <;> omega
   ·split <;> omega
end Go.Proofs.YtkhhjdjmhbdjfaaGreatDoor
namespace Go.Proofs.YtkhhjdjmhbdjfaaGreatDoor
open Go.RowKit
set_option linter.unusedVariables false
theorem nodes3_ok : ∀ (N : Nat) (f : Fml), szF f ≤ N → ∀ (w : World) (v : Value), FAt As w v f → Fn Tryz.prog 101 [v] w fun u w' => ∃ b : Bool, u = .bool b ∧ Ext w w' ∧ (b = true → Cw shQ f) := by
 intro N
 induction N with
 | zero => intro f hN; have := szF_pos f; omega
 | succ N ih =>
 intro f hN w v hf
 obtain ⟨av, rfl, L, hS, hFA⟩ := hf.form
 obtain ⟨a, c, rfl, hS'⟩ := id hS
 have hcap : f.args.length ≤ 9223372036854775807 := by obtain ⟨h1, h2, _⟩ := hS'; omega
 clear hS'
 have hsz := BW f
 refine AR Tryz.func101 rfl Tryz.ntmps101 (Nat.le_of_ble_eq_true rfl) (by kernel_rfl) ?_
 repeat refine nx rfl ?_
 (refine AA ?_; refine A5 (L := fcC f (.slice a f.args.length c)) rfl (fun w1 n1 => ?_))
 have b1 := n1.blk
 have k1 := n1.keep
 refine AC (AB rfl ?_)
 repeat refine nx rfl ?_
 refine AA ?_
 refine Ac (L := fcC f (.slice a f.args.length c)) rfl b1 rfl ?_
 refine AQ (node_ok3 w1 _ f (hf.ext k1)) rfl ?_
 rintro _ w5 ⟨b, rfl, k5, hq⟩
 have e5 := k1.trans k5
 have b5 := b1.keep k5 (by simp)
 cases b with
 | false =>
  refine Ak rfl ?_
  repeat refine nx rfl ?_
  refine AA (AC (AB rfl ?_))
  repeat refine nx rfl ?_
  exact AI rfl ⟨false, rfl, e5, fun h => by cases h⟩
 | true =>
 refine Ak rfl ?_
 repeat first | refine nx rfl ?_ | refine nf rfl ?_
 refine AA (AC (AG rfl ?_))
 repeat refine nx rfl ?_
 refine A3 (α := Nat) (fun k => [(1, pt w.heap.size), (3, .int .i64 (k : Int))]) (fun k W => k ≤ f.args.length ∧ Ext w5 W ∧ ∀ (i : Nat) (y : Fml), i < k → f.args[i]? = some y → Cw shQ y) (fun k => f.args.length - k) 0 (by repeat (first | exact trivial | refine ⟨rfl, ?_⟩)) ⟨by omega, Ext.refl _, fun i y hi => absurd hi (by omega)⟩ ?_
 rintro k W fr ⟨hk, kW, hbef⟩
 have kw := e5.trans kW
 have c4 : W.cell? ⟨w.heap.size, 0 + 4, none⟩ = some (.slice a f.args.length c) := kW.cell (b5.cell rfl) (by simp)
 repeat refine nx rfl ?_
 by_cases hlt : k < f.args.length
 ·(refine AA (AG rfl (AD rfl (AF rfl (by assumption) ?_))) <;> refine AZ rfl (At rfl rfl (by omega) ?_))
  repeat refine nx rfl ?_
  obtain ⟨x, hx⟩ : ∃ x, f.args[k]? = some x := ⟨_, List.getElem?_eq_getElem hlt⟩
  obtain ⟨cx, hcx⟩ : ∃ cx, L[k]? = some cx := ⟨_, List.getElem?_eq_getElem (by rw [hFA.1]; exact hlt)⟩
  obtain ⟨ba, oa, rfl, hba, hcellx⟩ := hS.fml hFA.2.1 hcx hlt
  have hxm := BY (List.mem_of_getElem? hx)
  have hfx : FAt As W (.agg cx.toArray) x := (hFA.2.2 k cx x hcx hx).ext kw
  have hcx2 := hcellx.keep kw (by simp)
  (refine AA (AD rfl (AF rfl (by assumption) ?_)) <;> refine AG rfl ?_)
  refine Au (k := k) rfl rfl rfl (by omega) ?_
  refine Ao (L := cx) rfl (hFA.2.1 cx (List.mem_of_getElem? hcx)) hcx2 ?_
  refine AQ (ih x (by omega) W _ hfx) rfl ?_
  rintro _ w4 ⟨b, rfl, k4, hq⟩
  cases b with
  | true =>
   refine Ak rfl ?_
   repeat first | refine nx rfl ?_ | refine nf rfl ?_
   (refine AA (AG rfl (Av rfl rfl (by first | exact AV (by omega) (by omega) | exact AY (by omega) (by omega) | exact AW (by omega) (by omega)) ?_)) <;> refine AC (AG rfl ?_))
   repeat refine nx rfl ?_
   refine ⟨k + 1, ⟨rfl, ⟨(by repeat (first | exact trivial | refine ⟨rfl, ?_⟩)), ⟨by omega, kW.trans k4, fun i z hi hz => ?_⟩⟩⟩, by omega⟩
   by_cases hik : i = k
   ·subst hik; rw [hx] at hz; cases hz; exact hq rfl
   ·exact hbef i z (by omega) hz
  | false =>
   refine Ak rfl ?_
   repeat refine nx rfl ?_
   refine AA (AC (AB rfl ?_))
   repeat refine nx rfl ?_
   exact AI rfl ⟨false, rfl, kw.trans k4, fun h => by cases h⟩
 ·(refine AA (AG rfl (AD rfl (AF rfl (by assumption) ?_))) <;> refine AZ rfl (Aj rfl rfl (by omega) ?_))
  repeat first | refine nx rfl ?_ | refine nf rfl ?_
  refine AA (AC (AB rfl ?_))
  repeat refine nx rfl ?_
  have hall : ∀ y ∈ f.args, Cw shQ y := fun y hy => by
   obtain ⟨i, hi⟩ := List.getElem?_of_mem hy
   exact hbef i y (by have := (List.getElem?_eq_some_iff.1 hi).1; omega) hi
  exact AI rfl ⟨true, rfl, kw, fun _ => allF_iff.2 ⟨hq rfl, hall⟩⟩
def futQ (f : Fml) : Prop := futB f.op = false
theorem past3_ok : ∀ (N : Nat) (f : Fml), szF f ≤ N → ∀ (w : World) (v : Value), FAt As w v f → Fn Tryz.prog 135 [v] w fun u w' => ∃ b : Bool, u = .bool b ∧ Ext w w' ∧ (b = true → Cw futQ f) := by
 intro N
 induction N with
 | zero => intro f hN; have := szF_pos f; omega
 | succ N ih =>
 intro f hN w v hf
 obtain ⟨av, rfl, L, hS, hFA⟩ := hf.form
 obtain ⟨a, c, rfl, hS'⟩ := id hS
 have hcap : f.args.length ≤ 9223372036854775807 := by obtain ⟨h1, h2, _⟩ := hS'; omega
 clear hS'
 have hsz := BW f
 refine AR Tryz.func135 rfl Tryz.ntmps135 (Nat.le_of_ble_eq_true rfl) (by kernel_rfl) ?_
 repeat refine nx rfl ?_
 (refine AA ?_; refine A5 (L := fcC f (.slice a f.args.length c)) rfl (fun w1 n1 => ?_))
 have b1 := n1.blk
 have k1 := n1.keep
 refine AC (AB rfl ?_)
 repeat refine nx rfl ?_
 have c0 : w1.cell? ⟨w.heap.size, 0 + 0, none⟩ = some (.int .i64 f.op) := b1.cell rfl
 by_cases h8 : 8 ≤ f.op ∧ f.op ≤ 14
 ·obtain ⟨h8, h14⟩ := h8
  (refine AA (AD rfl (AF rfl (Blk.cell (by assumption) (by rfl)) ?_)) <;> refine BC rfl rfl (by omega) (AB rfl (AE rfl (AD rfl (AE rfl (AF rfl (Blk.cell (by assumption) (by rfl)) ?_))))) <;> refine AE rfl (BZ rfl rfl (by omega) (AK rfl (AB rfl ?_))))
  repeat refine nx rfl ?_
  refine AA (AC (AB rfl ?_))
  repeat refine nx rfl ?_
  exact AI rfl ⟨false, rfl, k1, fun h => by cases h⟩
 have hfq : futQ f := by
  unfold futQ futB
  rw [Bool.and_eq_false_iff, decide_eq_false_iff_not, decide_eq_false_iff_not]
  omega
 refine Cn (α := Unit) (fun _ => [(1, pt w.heap.size), (11, .bool false)]) (fun _ W => Ext w W ∧ Blk W w.heap.size 25 (fcC f (.slice a f.args.length c))) ?_ ?_
 ·by_cases g8 : 8 ≤ f.op
  ·(refine AA (AD rfl (AF rfl (Blk.cell (by assumption) (by rfl)) ?_)) <;> refine BC rfl rfl (by omega) (AB rfl (AE rfl (AD rfl (AE rfl (AF rfl (Blk.cell (by assumption) (by rfl)) ?_))))) <;> refine AE rfl (Bh rfl rfl (by omega) (AK rfl (AB rfl (AO ?_)))))
   exact A0 () ⟨rfl, rfl, trivial⟩ ⟨k1, b1⟩
  ·(refine AA (AD rfl (AF rfl (Blk.cell (by assumption) (by rfl)) ?_)) <;> refine CD rfl rfl (by omega) (AB rfl (AL rfl (AL rfl (AL rfl (AJ rfl (AB rfl (AO ?_))))))))
   exact A0 () ⟨rfl, rfl, trivial⟩ ⟨k1, b1⟩
 rintro _ w5 f3 ⟨e5, b5⟩
 repeat first | refine nx rfl ?_ | refine nf rfl ?_
 refine AA (AC (AG rfl ?_))
 repeat refine nx rfl ?_
 refine A3 (α := Nat) (fun k => [(1, pt w.heap.size), (3, .int .i64 (k : Int))]) (fun k W => k ≤ f.args.length ∧ Ext w5 W ∧ ∀ (i : Nat) (y : Fml), i < k → f.args[i]? = some y → Cw futQ y) (fun k => f.args.length - k) 0 (by repeat (first | exact trivial | refine ⟨rfl, ?_⟩)) ⟨by omega, Ext.refl _, fun i y hi => absurd hi (by omega)⟩ ?_
 rintro k W fr ⟨hk, kW, hbef⟩
 have kw := e5.trans kW
 have c4 : W.cell? ⟨w.heap.size, 0 + 4, none⟩ = some (.slice a f.args.length c) := kW.cell (b5.cell rfl) (by simp)
 repeat refine nx rfl ?_
 by_cases hlt : k < f.args.length
 ·(refine AA (AG rfl (AD rfl (AF rfl (by assumption) ?_))) <;> refine AZ rfl (At rfl rfl (by omega) ?_))
  repeat refine nx rfl ?_
  obtain ⟨x, hx⟩ : ∃ x, f.args[k]? = some x := ⟨_, List.getElem?_eq_getElem hlt⟩
  obtain ⟨cx, hcx⟩ : ∃ cx, L[k]? = some cx := ⟨_, List.getElem?_eq_getElem (by rw [hFA.1]; exact hlt)⟩
  obtain ⟨ba, oa, rfl, hba, hcellx⟩ := hS.fml hFA.2.1 hcx hlt
  have hxm := BY (List.mem_of_getElem? hx)
  have hfx : FAt As W (.agg cx.toArray) x := (hFA.2.2 k cx x hcx hx).ext kw
  have hcx2 := hcellx.keep kw (by simp)
  (refine AA (AD rfl (AF rfl (by assumption) ?_)) <;> refine AG rfl ?_)
  refine Au (k := k) rfl rfl rfl (by omega) ?_
  refine Ao (L := cx) rfl (hFA.2.1 cx (List.mem_of_getElem? hcx)) hcx2 ?_
  refine AQ (ih x (by omega) W _ hfx) rfl ?_
  rintro _ w4 ⟨b, rfl, k4, hq⟩
  cases b with
  | true =>
   refine Ak rfl ?_
   repeat first | refine nx rfl ?_ | refine nf rfl ?_
   (refine AA (AG rfl (Av rfl rfl (by first | exact AV (by omega) (by omega) | exact AY (by omega) (by omega) | exact AW (by omega) (by omega)) ?_)) <;> refine AC (AG rfl ?_))
   repeat refine nx rfl ?_
   refine ⟨k + 1, ⟨rfl, ⟨(by repeat (first | exact trivial | refine ⟨rfl, ?_⟩)), ⟨by omega, kW.trans k4, fun i z hi hz => ?_⟩⟩⟩, by omega⟩
   by_cases hik : i = k
   ·subst hik; rw [hx] at hz; cases hz; exact hq rfl
   ·exact hbef i z (by omega) hz
  | false =>
   refine Ak rfl ?_
   repeat refine nx rfl ?_
   refine AA (AC (AB rfl ?_))
   repeat refine nx rfl ?_
   exact AI rfl ⟨false, rfl, kw.trans k4, fun h => by cases h⟩
 ·(refine AA (AG rfl (AD rfl (AF rfl (by assumption) ?_))) <;> refine AZ rfl (Aj rfl rfl (by omega) ?_))
  repeat first | refine nx rfl ?_ | refine nf rfl ?_
  refine AA (AC (AB rfl ?_))
  repeat refine nx rfl ?_
  have hall : ∀ y ∈ f.args, Cw futQ y := fun y hy => by
   obtain ⟨i, hi⟩ := List.getElem?_of_mem hy
   exact hbef i y (by have := (List.getElem?_eq_some_iff.1 hi).1; omega) hi
  exact AI rfl ⟨true, rfl, kw, fun _ => allF_iff.2 ⟨hfq, hall⟩⟩
def coreQ (f : Fml) : Prop := C2 f.op = true ∧ (f.op = 4 → negOk f = true)
theorem lo_of {op : Int} (h : (1 ≤ op ∧ op ≤ 6) ∨ (8 ≤ op ∧ op ≤ 10) ∨ (15 ≤ op ∧ op ≤ 17)) : C2 op = true := by
 simp only [C2, Bool.or_eq_true, Bool.and_eq_true, decide_eq_true_eq]
 omega
theorem core3_ok : ∀ (N : Nat) (f : Fml), szF f ≤ N → ∀ (w : World) (v : Value), FAt As w v f → Cw shQ f → Fn Tryz.prog 102 [v] w fun u w' => ∃ b : Bool, u = .bool b ∧ Ext w w' ∧ (b = true → Cw coreQ f) := by
 intro N
 induction N with
 | zero => intro f hN; have := szF_pos f; omega
 | succ N ih =>
 intro f hN w v hf hsh
 obtain ⟨hs0, hsa⟩ := allF_iff.1 hsh
 obtain ⟨av, rfl, L, hS, hFA⟩ := hf.form
 obtain ⟨a, c, rfl, hS'⟩ := id hS
 have hcap : f.args.length ≤ 9223372036854775807 := by obtain ⟨h1, h2, _⟩ := hS'; omega
 clear hS'
 have hsz := BW f
 refine AR Tryz.func102 rfl Tryz.ntmps102 (Nat.le_of_ble_eq_true rfl) (by kernel_rfl) ?_
 repeat refine nx rfl ?_
 (refine AA ?_; refine A5 (L := fcC f (.slice a f.args.length c)) rfl (fun w1 n1 => ?_))
 have b1 := n1.blk
 have k1 := n1.keep
 refine AC (AB rfl ?_)
 repeat refine nx rfl ?_
 have c0 : w1.cell? ⟨w.heap.size, 0 + 0, none⟩ = some (.int .i64 f.op) := b1.cell rfl
 refine Cn (α := Bool) (fun b => [(1, pt w.heap.size), (3, .bool b)]) (fun b W => Ext w W ∧ Blk W w.heap.size 25 (fcC f (.slice a f.args.length c)) ∧ (b = true → C2 f.op = true)) ?_ ?_
 ·by_cases g1 : 1 ≤ f.op
  case neg =>
   (refine AA (AD rfl (AF rfl (Blk.cell (by assumption) (by rfl)) ?_)) <;> refine CD rfl rfl (by omega) (AB rfl (AL rfl (AL rfl (AL rfl (AJ rfl (AB rfl (AB rfl (AE rfl (AD rfl (AE rfl (AF rfl (Blk.cell (by assumption) (by rfl)) ?_))))))))))) <;> refine AE rfl (AT rfl rfl (by omega) (AJ rfl (AB rfl (AB rfl (AE rfl (AD rfl (AE rfl (AF rfl (Blk.cell (by assumption) (by rfl)) ?_)))))))) <;> refine AE rfl (AT rfl rfl (by omega) (AJ rfl (AB rfl (AB rfl (AE rfl (AD rfl (AE rfl (AF rfl (Blk.cell (by assumption) (by rfl)) ?_)))))))) <;> refine AE rfl (AT rfl rfl (by omega) (AJ rfl (AB rfl (AB rfl (AE rfl (AD rfl (AE rfl (AF rfl (Blk.cell (by assumption) (by rfl)) ?_)))))))) <;> refine AE rfl (AT rfl rfl (by omega) (AJ rfl (AB rfl (AB rfl (AE rfl (AD rfl (AE rfl (AF rfl (Blk.cell (by assumption) (by rfl)) ?_)))))))) <;> refine AE rfl (AT rfl rfl (by omega) (AJ rfl (AB rfl (AB rfl (AE rfl (AD rfl (AE rfl (AF rfl (Blk.cell (by assumption) (by rfl)) ?_)))))))) <;> refine AE rfl (AT rfl rfl (by omega) (AJ rfl (AB rfl (AC (AB rfl (AO ?_)))))))
   exact A0 false ⟨rfl, rfl, trivial⟩ ⟨k1, b1, fun h => by cases h⟩
  by_cases g6 : f.op ≤ 6
  ·(refine AA (AD rfl (AF rfl (Blk.cell (by assumption) (by rfl)) ?_)) <;> refine BC rfl rfl (by omega) (AB rfl (AE rfl (AD rfl (AE rfl (AF rfl (Blk.cell (by assumption) (by rfl)) ?_))))) <;> refine AE rfl (BZ rfl rfl (by omega) (AK rfl (AB rfl (AB rfl (AL rfl (AL rfl (AL rfl (AK rfl (AB rfl (AB rfl (AL rfl (AL rfl (AL rfl (AK rfl (AB rfl (AB rfl (AL rfl (AL rfl (AL rfl (AK rfl (AB rfl (AB rfl (AL rfl (AL rfl (AL rfl (AK rfl (AB rfl (AB rfl (AL rfl (AL rfl (AL rfl (AK rfl (AB rfl (AB rfl (AL rfl (AL rfl (AL rfl (AK rfl (AB rfl (AC (AB rfl (AO ?_)))))))))))))))))))))))))))))))))))))))))))
   exact A0 true ⟨rfl, rfl, trivial⟩ ⟨k1, b1, fun _ => lo_of (by omega)⟩
  by_cases g8 : f.op = 8
  ·(refine AA (AD rfl (AF rfl (Blk.cell (by assumption) (by rfl)) ?_)) <;> refine BC rfl rfl (by omega) (AB rfl (AE rfl (AD rfl (AE rfl (AF rfl (Blk.cell (by assumption) (by rfl)) ?_))))) <;> refine AE rfl (Bh rfl rfl (by omega) (AK rfl (AB rfl (AB rfl (AE rfl (AD rfl (AE rfl (AF rfl (Blk.cell (by assumption) (by rfl)) ?_)))))))) <;> refine AE rfl (Ai rfl rfl (by omega) (AJ rfl (AB rfl (AB rfl (AL rfl (AL rfl (AL rfl (AK rfl (AB rfl (AB rfl (AL rfl (AL rfl (AL rfl (AK rfl (AB rfl (AB rfl (AL rfl (AL rfl (AL rfl (AK rfl (AB rfl (AB rfl (AL rfl (AL rfl (AL rfl (AK rfl (AB rfl (AB rfl (AL rfl (AL rfl (AL rfl (AK rfl (AB rfl (AC (AB rfl (AO ?_)))))))))))))))))))))))))))))))))))))
   exact A0 true ⟨rfl, rfl, trivial⟩ ⟨k1, b1, fun _ => lo_of (by omega)⟩
  by_cases g9 : f.op = 9
  ·(refine AA (AD rfl (AF rfl (Blk.cell (by assumption) (by rfl)) ?_)) <;> refine BC rfl rfl (by omega) (AB rfl (AE rfl (AD rfl (AE rfl (AF rfl (Blk.cell (by assumption) (by rfl)) ?_))))) <;> refine AE rfl (Bh rfl rfl (by omega) (AK rfl (AB rfl (AB rfl (AE rfl (AD rfl (AE rfl (AF rfl (Blk.cell (by assumption) (by rfl)) ?_)))))))) <;> refine AE rfl (AT rfl rfl (by omega) (AJ rfl (AB rfl (AB rfl (AE rfl (AD rfl (AE rfl (AF rfl (Blk.cell (by assumption) (by rfl)) ?_)))))))) <;> refine AE rfl (Ai rfl rfl (by omega) (AJ rfl (AB rfl (AB rfl (AL rfl (AL rfl (AL rfl (AK rfl (AB rfl (AB rfl (AL rfl (AL rfl (AL rfl (AK rfl (AB rfl (AB rfl (AL rfl (AL rfl (AL rfl (AK rfl (AB rfl (AB rfl (AL rfl (AL rfl (AL rfl (AK rfl (AB rfl (AC (AB rfl (AO ?_)))))))))))))))))))))))))))))))
   exact A0 true ⟨rfl, rfl, trivial⟩ ⟨k1, b1, fun _ => lo_of (by omega)⟩
  by_cases g10 : f.op = 10
  ·(refine AA (AD rfl (AF rfl (Blk.cell (by assumption) (by rfl)) ?_)) <;> refine BC rfl rfl (by omega) (AB rfl (AE rfl (AD rfl (AE rfl (AF rfl (Blk.cell (by assumption) (by rfl)) ?_))))) <;> refine AE rfl (Bh rfl rfl (by omega) (AK rfl (AB rfl (AB rfl (AE rfl (AD rfl (AE rfl (AF rfl (Blk.cell (by assumption) (by rfl)) ?_)))))))) <;> refine AE rfl (AT rfl rfl (by omega) (AJ rfl (AB rfl (AB rfl (AE rfl (AD rfl (AE rfl (AF rfl (Blk.cell (by assumption) (by rfl)) ?_)))))))) <;> refine AE rfl (AT rfl rfl (by omega) (AJ rfl (AB rfl (AB rfl (AE rfl (AD rfl (AE rfl (AF rfl (Blk.cell (by assumption) (by rfl)) ?_)))))))) <;> refine AE rfl (Ai rfl rfl (by omega) (AJ rfl (AB rfl (AB rfl (AL rfl (AL rfl (AL rfl (AK rfl (AB rfl (AB rfl (AL rfl (AL rfl (AL rfl (AK rfl (AB rfl (AB rfl (AL rfl (AL rfl (AL rfl (AK rfl (AB rfl (AC (AB rfl (AO ?_)))))))))))))))))))))))))
   exact A0 true ⟨rfl, rfl, trivial⟩ ⟨k1, b1, fun _ => lo_of (by omega)⟩
  by_cases g15 : f.op = 15
  ·(refine AA (AD rfl (AF rfl (Blk.cell (by assumption) (by rfl)) ?_)) <;> refine BC rfl rfl (by omega) (AB rfl (AE rfl (AD rfl (AE rfl (AF rfl (Blk.cell (by assumption) (by rfl)) ?_))))) <;> refine AE rfl (Bh rfl rfl (by omega) (AK rfl (AB rfl (AB rfl (AE rfl (AD rfl (AE rfl (AF rfl (Blk.cell (by assumption) (by rfl)) ?_)))))))) <;> refine AE rfl (AT rfl rfl (by omega) (AJ rfl (AB rfl (AB rfl (AE rfl (AD rfl (AE rfl (AF rfl (Blk.cell (by assumption) (by rfl)) ?_)))))))) <;> refine AE rfl (AT rfl rfl (by omega) (AJ rfl (AB rfl (AB rfl (AE rfl (AD rfl (AE rfl (AF rfl (Blk.cell (by assumption) (by rfl)) ?_)))))))) <;> refine AE rfl (AT rfl rfl (by omega) (AJ rfl (AB rfl (AB rfl (AE rfl (AD rfl (AE rfl (AF rfl (Blk.cell (by assumption) (by rfl)) ?_)))))))) <;> refine AE rfl (Ai rfl rfl (by omega) (AJ rfl (AB rfl (AB rfl (AL rfl (AL rfl (AL rfl (AK rfl (AB rfl (AB rfl (AL rfl (AL rfl (AL rfl (AK rfl (AB rfl (AC (AB rfl (AO ?_)))))))))))))))))))
   exact A0 true ⟨rfl, rfl, trivial⟩ ⟨k1, b1, fun _ => lo_of (by omega)⟩
  by_cases g16 : f.op = 16
  ·(refine AA (AD rfl (AF rfl (Blk.cell (by assumption) (by rfl)) ?_)) <;> refine BC rfl rfl (by omega) (AB rfl (AE rfl (AD rfl (AE rfl (AF rfl (Blk.cell (by assumption) (by rfl)) ?_))))) <;> refine AE rfl (Bh rfl rfl (by omega) (AK rfl (AB rfl (AB rfl (AE rfl (AD rfl (AE rfl (AF rfl (Blk.cell (by assumption) (by rfl)) ?_)))))))) <;> refine AE rfl (AT rfl rfl (by omega) (AJ rfl (AB rfl (AB rfl (AE rfl (AD rfl (AE rfl (AF rfl (Blk.cell (by assumption) (by rfl)) ?_)))))))) <;> refine AE rfl (AT rfl rfl (by omega) (AJ rfl (AB rfl (AB rfl (AE rfl (AD rfl (AE rfl (AF rfl (Blk.cell (by assumption) (by rfl)) ?_)))))))) <;> refine AE rfl (AT rfl rfl (by omega) (AJ rfl (AB rfl (AB rfl (AE rfl (AD rfl (AE rfl (AF rfl (Blk.cell (by assumption) (by rfl)) ?_)))))))) <;> refine AE rfl (AT rfl rfl (by omega) (AJ rfl (AB rfl (AB rfl (AE rfl (AD rfl (AE rfl (AF rfl (Blk.cell (by assumption) (by rfl)) ?_)))))))) <;> refine AE rfl (Ai rfl rfl (by omega) (AJ rfl (AB rfl (AB rfl (AL rfl (AL rfl (AL rfl (AK rfl (AB rfl (AC (AB rfl (AO ?_)))))))))))))
   exact A0 true ⟨rfl, rfl, trivial⟩ ⟨k1, b1, fun _ => lo_of (by omega)⟩
  by_cases g17 : f.op = 17
  ·(refine AA (AD rfl (AF rfl (Blk.cell (by assumption) (by rfl)) ?_)) <;> refine BC rfl rfl (by omega) (AB rfl (AE rfl (AD rfl (AE rfl (AF rfl (Blk.cell (by assumption) (by rfl)) ?_))))) <;> refine AE rfl (Bh rfl rfl (by omega) (AK rfl (AB rfl (AB rfl (AE rfl (AD rfl (AE rfl (AF rfl (Blk.cell (by assumption) (by rfl)) ?_)))))))) <;> refine AE rfl (AT rfl rfl (by omega) (AJ rfl (AB rfl (AB rfl (AE rfl (AD rfl (AE rfl (AF rfl (Blk.cell (by assumption) (by rfl)) ?_)))))))) <;> refine AE rfl (AT rfl rfl (by omega) (AJ rfl (AB rfl (AB rfl (AE rfl (AD rfl (AE rfl (AF rfl (Blk.cell (by assumption) (by rfl)) ?_)))))))) <;> refine AE rfl (AT rfl rfl (by omega) (AJ rfl (AB rfl (AB rfl (AE rfl (AD rfl (AE rfl (AF rfl (Blk.cell (by assumption) (by rfl)) ?_)))))))) <;> refine AE rfl (AT rfl rfl (by omega) (AJ rfl (AB rfl (AB rfl (AE rfl (AD rfl (AE rfl (AF rfl (Blk.cell (by assumption) (by rfl)) ?_)))))))) <;> refine AE rfl (AT rfl rfl (by omega) (AJ rfl (AB rfl (AB rfl (AE rfl (AD rfl (AE rfl (AF rfl (Blk.cell (by assumption) (by rfl)) ?_)))))))) <;> refine AE rfl (Ai rfl rfl (by omega) (AJ rfl (AB rfl (AC (AB rfl (AO ?_)))))))
   exact A0 true ⟨rfl, rfl, trivial⟩ ⟨k1, b1, fun _ => lo_of (by omega)⟩
  ·(refine AA (AD rfl (AF rfl (Blk.cell (by assumption) (by rfl)) ?_)) <;> refine BC rfl rfl (by omega) (AB rfl (AE rfl (AD rfl (AE rfl (AF rfl (Blk.cell (by assumption) (by rfl)) ?_))))) <;> refine AE rfl (Bh rfl rfl (by omega) (AK rfl (AB rfl (AB rfl (AE rfl (AD rfl (AE rfl (AF rfl (Blk.cell (by assumption) (by rfl)) ?_)))))))) <;> refine AE rfl (AT rfl rfl (by omega) (AJ rfl (AB rfl (AB rfl (AE rfl (AD rfl (AE rfl (AF rfl (Blk.cell (by assumption) (by rfl)) ?_)))))))) <;> refine AE rfl (AT rfl rfl (by omega) (AJ rfl (AB rfl (AB rfl (AE rfl (AD rfl (AE rfl (AF rfl (Blk.cell (by assumption) (by rfl)) ?_)))))))) <;> refine AE rfl (AT rfl rfl (by omega) (AJ rfl (AB rfl (AB rfl (AE rfl (AD rfl (AE rfl (AF rfl (Blk.cell (by assumption) (by rfl)) ?_)))))))) <;> refine AE rfl (AT rfl rfl (by omega) (AJ rfl (AB rfl (AB rfl (AE rfl (AD rfl (AE rfl (AF rfl (Blk.cell (by assumption) (by rfl)) ?_)))))))) <;> refine AE rfl (AT rfl rfl (by omega) (AJ rfl (AB rfl (AB rfl (AE rfl (AD rfl (AE rfl (AF rfl (Blk.cell (by assumption) (by rfl)) ?_)))))))) <;> refine AE rfl (AT rfl rfl (by omega) (AJ rfl (AB rfl (AC (AB rfl (AO ?_)))))))
   exact A0 false ⟨rfl, rfl, trivial⟩ ⟨k1, b1, fun h => by cases h⟩
 rintro b w5 f3 ⟨e5, b5, hlo⟩
 have c05 : w5.cell? ⟨w.heap.size, 0 + 0, none⟩ = some (.int .i64 f.op) := b5.cell rfl
 have c45 : w5.cell? ⟨w.heap.size, 0 + 4, none⟩ = some (.slice a f.args.length c) := b5.cell rfl
 repeat refine nx rfl ?_
 cases b with
 | false =>
  refine AA (AB rfl (Ak rfl (AB rfl (AL rfl (AL rfl (AL rfl (AL rfl (AL rfl (AL rfl (AL rfl (AL rfl (AL rfl (AL rfl (AL rfl (AK rfl (AB rfl ?_))))))))))))))))
  repeat refine nx rfl ?_
  refine AA (AC (AB rfl ?_))
  repeat refine nx rfl ?_
  exact AI rfl ⟨false, rfl, e5, fun h => by cases h⟩
 | true =>
 have hx4 : f.op = 4 → ∃ x ba oa, f.args = [x] ∧ a = some ⟨ba, oa, none⟩ ∧ w5.cell? ⟨ba, oa + 0 * 5 + 0, none⟩ = some (.int .i64 x.op) := by
  intro h4
  have hl1 : f.args.length = 1 := by
   have h1 := Bk hs0
   rw [h4] at h1
   simpa [A8] using h1
  obtain ⟨x, hx⟩ := Ck hl1
  have hx0 : f.args[0]? = some x := by rw [hx]; rfl
  obtain ⟨cx, hcx⟩ : ∃ cx, L[0]? = some cx := ⟨_, List.getElem?_eq_getElem (by rw [hFA.1]; omega)⟩
  obtain ⟨ba, oa, ha, hba, hcellx⟩ := hS.fml hFA.2.1 hcx (by omega)
  obtain ⟨xv, ex, _⟩ := (hFA.2.2 0 cx x hcx hx0).form
  have ecx : cx = fcC x xv := by
   have := congrArg (fun v => match v with | Value.agg c => c.toList | _ => []) ex
   have e : cx = [.int .i64 x.op, An x.name, .int .i64 x.val, .int .i64 x.bound, xv] := by simpa using this
   exact e
  refine ⟨x, ba, oa, hx, ha, ?_⟩
  exact e5.cell (hcellx 0 _ (by rw [ecx]; rfl)) (by simp)
 by_cases hbad : f.op = 4 ∧ negOk f = false
 ·obtain ⟨h4, hn⟩ := hbad
  obtain ⟨x, ba, oa, hx, rfl, hxo⟩ := hx4 h4
  have hx3 : x.op ≠ 3 := by
   intro h
   unfold negOk at hn
   rw [hx] at hn
   simp [h] at hn
  have hl1 : f.args.length = 1 := by rw [hx]; rfl
  (refine AA (AB rfl (Ak rfl (AB rfl (AE rfl (AD rfl (AE rfl (AF rfl (Blk.cell (by assumption) (by rfl)) ?_))))))) <;> refine AE rfl (Ai rfl rfl (by omega) (AE rfl (AB rfl (AE rfl (AD rfl (AE rfl (AF rfl (Blk.cell (by assumption) (by rfl)) ?_))))))) <;> refine AE rfl (Aq rfl rfl (by omega) (by omega) (AE rfl (AD rfl (AE rfl (AF rfl (by assumption) ?_))))) <;> refine AE rfl (W_neqT rfl rfl (by omega) (AE rfl (AK rfl (AB rfl (AJ rfl (AB rfl ?_)))))))
  repeat refine nx rfl ?_
  refine AA (AC (AB rfl ?_))
  repeat refine nx rfl ?_
  exact AI rfl ⟨false, rfl, e5, fun h => by cases h⟩
 refine Cn (α := Unit) (fun _ => [(1, pt w.heap.size), (57, .bool false)]) (fun _ W => Ext w W ∧ Blk W w.heap.size 25 (fcC f (.slice a f.args.length c)) ∧ coreQ f) ?_ ?_
 ·by_cases h4 : f.op = 4
  ·have hn : negOk f = true := by
    cases hn : negOk f with
    | true => rfl
    | false => exact absurd ⟨h4, hn⟩ hbad
   obtain ⟨x, ba, oa, hx, rfl, hxo⟩ := hx4 h4
   have hx3 : x.op = 3 := by
    unfold negOk at hn
    rw [hx] at hn
    simpa using hn
   have hl1 : f.args.length = 1 := by rw [hx]; rfl
   (refine AA (AB rfl (Ak rfl (AB rfl (AE rfl (AD rfl (AE rfl (AF rfl (Blk.cell (by assumption) (by rfl)) ?_))))))) <;> refine AE rfl (Ai rfl rfl (by omega) (AE rfl (AB rfl (AE rfl (AD rfl (AE rfl (AF rfl (Blk.cell (by assumption) (by rfl)) ?_))))))) <;> refine AE rfl (Aq rfl rfl (by omega) (by omega) (AE rfl (AD rfl (AE rfl (AF rfl (by assumption) ?_))))) <;> refine AE rfl (W_neqF rfl rfl (by omega) (AE rfl (AK rfl (AB rfl (AJ rfl (AB rfl (AO ?_))))))))
   exact A0 () ⟨rfl, rfl, trivial⟩ ⟨e5, b5, hlo rfl, fun _ => hn⟩
  ·(refine AA (AB rfl (Ak rfl (AB rfl (AE rfl (AD rfl (AE rfl (AF rfl (Blk.cell (by assumption) (by rfl)) ?_))))))) <;> refine AE rfl (AT rfl rfl (by omega) (AE rfl (AB rfl (AL rfl (AL rfl (AL rfl (AL rfl (AL rfl (AL rfl (AE rfl (AJ rfl (AB rfl (AJ rfl (AB rfl (AO ?_))))))))))))))))
   exact A0 () ⟨rfl, rfl, trivial⟩ ⟨e5, b5, hlo rfl, fun h => absurd h h4⟩
 clear c05 c45 b5 e5 hlo hx4
 rintro _ w5 f3 ⟨e5, b5, hq⟩
 repeat first | refine nx rfl ?_ | refine nf rfl ?_
 refine AA (AC (AG rfl ?_))
 repeat refine nx rfl ?_
 refine A3 (α := Nat) (fun k => [(1, pt w.heap.size), (4, .int .i64 (k : Int))]) (fun k W => k ≤ f.args.length ∧ Ext w5 W ∧ ∀ (i : Nat) (y : Fml), i < k → f.args[i]? = some y → Cw coreQ y) (fun k => f.args.length - k) 0 (by repeat (first | exact trivial | refine ⟨rfl, ?_⟩)) ⟨by omega, Ext.refl _, fun i y hi => absurd hi (by omega)⟩ ?_
 rintro k W fr ⟨hk, kW, hbef⟩
 have kw := e5.trans kW
 have c4 : W.cell? ⟨w.heap.size, 0 + 4, none⟩ = some (.slice a f.args.length c) := kW.cell (b5.cell rfl) (by simp)
 repeat refine nx rfl ?_
 by_cases hlt : k < f.args.length
 ·(refine AA (AG rfl (AD rfl (AF rfl (by assumption) ?_))) <;> refine AZ rfl (At rfl rfl (by omega) ?_))
  repeat refine nx rfl ?_
  obtain ⟨x, hx⟩ : ∃ x, f.args[k]? = some x := ⟨_, List.getElem?_eq_getElem hlt⟩
  obtain ⟨cx, hcx⟩ : ∃ cx, L[k]? = some cx := ⟨_, List.getElem?_eq_getElem (by rw [hFA.1]; exact hlt)⟩
  obtain ⟨ba, oa, rfl, hba, hcellx⟩ := hS.fml hFA.2.1 hcx hlt
  have hxm := BY (List.mem_of_getElem? hx)
  have hfx : FAt As W (.agg cx.toArray) x := (hFA.2.2 k cx x hcx hx).ext kw
  have hcx2 := hcellx.keep kw (by simp)
  (refine AA (AD rfl (AF rfl (by assumption) ?_)) <;> refine AG rfl ?_)
  refine Au (k := k) rfl rfl rfl (by omega) ?_
  refine Ao (L := cx) rfl (hFA.2.1 cx (List.mem_of_getElem? hcx)) hcx2 ?_
  refine AQ (ih x (by omega) W _ hfx (hsa x (List.mem_of_getElem? hx))) rfl ?_
  rintro _ w4 ⟨b, rfl, k4, hq⟩
  cases b with
  | true =>
   refine Ak rfl ?_
   repeat first | refine nx rfl ?_ | refine nf rfl ?_
   (refine AA (AG rfl (Av rfl rfl (by first | exact AV (by omega) (by omega) | exact AY (by omega) (by omega) | exact AW (by omega) (by omega)) ?_)) <;> refine AC (AG rfl ?_))
   repeat refine nx rfl ?_
   refine ⟨k + 1, ⟨rfl, ⟨(by repeat (first | exact trivial | refine ⟨rfl, ?_⟩)), ⟨by omega, kW.trans k4, fun i z hi hz => ?_⟩⟩⟩, by omega⟩
   by_cases hik : i = k
   ·subst hik; rw [hx] at hz; cases hz; exact hq rfl
   ·exact hbef i z (by omega) hz
  | false =>
   refine Ak rfl ?_
   repeat refine nx rfl ?_
   refine AA (AC (AB rfl ?_))
   repeat refine nx rfl ?_
   exact AI rfl ⟨false, rfl, kw.trans k4, fun h => by cases h⟩
 ·(refine AA (AG rfl (AD rfl (AF rfl (by assumption) ?_))) <;> refine AZ rfl (Aj rfl rfl (by omega) ?_))
  repeat first | refine nx rfl ?_ | refine nf rfl ?_
  refine AA (AC (AB rfl ?_))
  repeat refine nx rfl ?_
  have hall : ∀ y ∈ f.args, Cw coreQ y := fun y hy => by
   obtain ⟨i, hi⟩ := List.getElem?_of_mem hy
   exact hbef i y (by have := (List.getElem?_eq_some_iff.1 hi).1; omega) hi
  exact AI rfl ⟨true, rfl, kw, fun _ => allF_iff.2 ⟨hq, hall⟩⟩
def layQ (f : Fml) : Prop := pstB f.op = true → ∀ a ∈ f.args, Cw futQ a
theorem lay3_ok : ∀ (N : Nat) (f : Fml), szF f ≤ N → ∀ (w : World) (v : Value), FAt As w v f → Fn Tryz.prog 103 [v] w fun u w' => ∃ b : Bool, u = .bool b ∧ Ext w w' ∧ (b = true → Cw layQ f) := by
 intro N
 induction N with
 | zero => intro f hN; have := szF_pos f; omega
 | succ N ih =>
 intro f hN w v hf
 obtain ⟨av, rfl, L, hS, hFA⟩ := hf.form
 obtain ⟨a, c, rfl, hS'⟩ := id hS
 have hcap : f.args.length ≤ 9223372036854775807 := by obtain ⟨h1, h2, _⟩ := hS'; omega
 clear hS'
 have hsz := BW f
 refine AR Tryz.func103 rfl Tryz.ntmps103 (Nat.le_of_ble_eq_true rfl) (by kernel_rfl) ?_
 repeat refine nx rfl ?_
 (refine AA ?_; refine A5 (L := fcC f (.slice a f.args.length c)) rfl (fun w1 n1 => ?_))
 have b1 := n1.blk
 have k1 := n1.keep
 refine AC (AB rfl ?_)
 repeat refine nx rfl ?_
 refine AA (AC (AG rfl ?_))
 repeat refine nx rfl ?_
 refine A3 (α := Nat) (fun k => [(1, pt w.heap.size), (3, .int .i64 (k : Int))]) (fun k W => k ≤ f.args.length ∧ Ext w1 W ∧ ∀ (i : Nat) (y : Fml), i < k → f.args[i]? = some y → Cw layQ y ∧ (pstB f.op = true → Cw futQ y)) (fun k => f.args.length - k) 0 ⟨rfl, rfl, trivial⟩ ⟨by omega, Ext.refl _, fun i y hi => absurd hi (by omega)⟩ ?_
 rintro k W fr ⟨hk, kW, hbef⟩
 have kw := k1.trans kW
 have bW := b1.keep kW (by simp)
 have c4 : W.cell? ⟨w.heap.size, 0 + 4, none⟩ = some (.slice a f.args.length c) := bW.cell rfl
 repeat refine nx rfl ?_
 by_cases hlt : k < f.args.length
 ·(refine AA (AG rfl (AD rfl (AF rfl (Blk.cell (by assumption) (by rfl)) ?_))) <;> refine AZ rfl (At rfl rfl (by omega) ?_))
  repeat refine nx rfl ?_
  obtain ⟨x, hx⟩ : ∃ x, f.args[k]? = some x := ⟨_, List.getElem?_eq_getElem hlt⟩
  obtain ⟨cx, hcx⟩ : ∃ cx, L[k]? = some cx := ⟨_, List.getElem?_eq_getElem (by rw [hFA.1]; exact hlt)⟩
  obtain ⟨ba, oa, rfl, hba, hcellx⟩ := hS.fml hFA.2.1 hcx hlt
  have hxm := BY (List.mem_of_getElem? hx)
  have hfx : FAt As W (.agg cx.toArray) x := (hFA.2.2 k cx x hcx hx).ext kw
  have hcx2 := hcellx.keep kw (by simp)
  (refine AA (AD rfl (AF rfl (Blk.cell (by assumption) (by rfl)) ?_)) <;> refine AG rfl ?_)
  refine Au (k := k) rfl rfl rfl (by omega) ?_
  refine Ao (L := cx) rfl (hFA.2.1 cx (List.mem_of_getElem? hcx)) hcx2 ?_
  refine AQ (ih x (by omega) W _ hfx) rfl ?_
  rintro _ w4 ⟨b, rfl, k4, hq⟩
  have c04 : w4.cell? ⟨w.heap.size, 0 + 0, none⟩ = some (.int .i64 f.op) := (bW.keep k4 (by simp)).cell rfl
  have c44 := k4.cell c4 (by simp)
  have hcx4 := hcx2.keep k4 (by simp)
  cases b with
  | false =>
   refine Ak rfl (AB rfl (AL rfl (AL rfl (AL rfl (AL rfl (AL rfl (AL rfl (AL rfl (AL rfl (AL rfl (AL rfl (AL rfl (AL rfl (AL rfl (AL rfl ?_)))))))))))))))
   refine AL rfl ?_
   refine AL rfl (AL rfl (AK rfl (AB rfl ?_)))
   repeat refine nx rfl ?_
   refine AA (AC (AB rfl ?_))
   repeat refine nx rfl ?_
   exact AI rfl ⟨false, rfl, kw.trans k4, fun h => by cases h⟩
  | true =>
  by_cases hp : 15 ≤ f.op ∧ f.op ≤ 19
  ·obtain ⟨hp1, hp2⟩ := hp
   (refine Ak rfl (AB rfl (AE rfl (AD rfl (AE rfl (AF rfl (by assumption) ?_))))) <;> refine AE rfl (BC rfl rfl (by omega) (AE rfl (AB rfl (AE rfl (AD rfl (AE rfl (AF rfl (by assumption) ?_))))))) <;> refine AE rfl (BZ rfl rfl (by omega) (AE rfl (AK rfl (AB rfl (AE rfl (AB rfl (AE rfl (AD rfl (AE rfl (AF rfl (by assumption) ?_)))))))))) <;> refine AE rfl (AG rfl ?_))
   refine AE rfl (Au (k := k) rfl rfl rfl (by omega) ?_)
   refine AE rfl (Ao (L := cx) rfl (hFA.2.1 cx (List.mem_of_getElem? hcx)) hcx4 ?_)
   refine AE rfl (AQ (past3_ok _ x (Nat.le_refl _) w4 _ (hfx.ext k4)) rfl ?_)
   rintro _ w6 ⟨b, rfl, k6, hq6⟩
   have k46 := k4.trans k6
   cases b with
   | false =>
    refine AE rfl (Ak rfl (AE rfl (AK rfl (AB rfl (AJ rfl (AB rfl ?_))))))
    repeat refine nx rfl ?_
    refine AA (AC (AB rfl ?_))
    repeat refine nx rfl ?_
    exact AI rfl ⟨false, rfl, kw.trans k46, fun h => by cases h⟩
   | true =>
    refine AE rfl (Ak rfl (AE rfl (AK rfl (AB rfl (AJ rfl (AB rfl ?_))))))
    repeat first | refine nx rfl ?_ | refine nf rfl ?_
    (refine AA (AG rfl (Av rfl rfl (by first | exact AV (by omega) (by omega) | exact AY (by omega) (by omega) | exact AW (by omega) (by omega)) ?_)) <;> refine AC (AG rfl ?_))
    repeat refine nx rfl ?_
    refine ⟨k + 1, ⟨rfl, ⟨rfl, (by show Value.int .i64 ((k : Int) + 1) = _; rw [Int.natCast_add]; rfl), trivial⟩, ⟨by omega, kW.trans k46, fun i z hi hz => ?_⟩⟩, by omega⟩
    by_cases hik : i = k
    ·subst hik; rw [hx] at hz; cases hz; exact ⟨hq rfl, fun _ => hq6 rfl⟩
    ·exact hbef i z (by omega) hz
  have hnp : pstB f.op = false := by
   unfold pstB
   rw [Bool.and_eq_false_iff, decide_eq_false_iff_not, decide_eq_false_iff_not]
   omega
  by_cases hp1 : 15 ≤ f.op
  ·(refine Ak rfl (AB rfl (AE rfl (AD rfl (AE rfl (AF rfl (by assumption) ?_))))) <;> refine AE rfl (BC rfl rfl (by omega) (AE rfl (AB rfl (AE rfl (AD rfl (AE rfl (AF rfl (by assumption) ?_))))))) <;> refine AE rfl (Bh rfl rfl (by omega) (AE rfl (AK rfl (AB rfl (AE rfl (AB rfl (AL rfl (AL rfl (AL rfl (AL rfl (AL rfl ?_))))))))))))
   refine AL rfl ?_
   refine AL rfl (AE rfl (AJ rfl (AB rfl (AJ rfl (AB rfl ?_)))))
   repeat first | refine nx rfl ?_ | refine nf rfl ?_
   (refine AA (AG rfl (Av rfl rfl (by first | exact AV (by omega) (by omega) | exact AY (by omega) (by omega) | exact AW (by omega) (by omega)) ?_)) <;> refine AC (AG rfl ?_))
   repeat refine nx rfl ?_
   refine ⟨k + 1, ⟨rfl, ⟨rfl, (by show Value.int .i64 ((k : Int) + 1) = _; rw [Int.natCast_add]; rfl), trivial⟩, ⟨by omega, kW.trans k4, fun i z hi hz => ?_⟩⟩, by omega⟩
   by_cases hik : i = k
   ·subst hik; rw [hx] at hz; cases hz; exact ⟨hq rfl, fun h => absurd (hnp.symm.trans h) Bool.false_ne_true⟩
   ·exact hbef i z (by omega) hz
  ·(refine Ak rfl (AB rfl (AE rfl (AD rfl (AE rfl (AF rfl (by assumption) ?_))))) <;> refine AE rfl (CD rfl rfl (by omega) (AE rfl (AB rfl (AL rfl (AL rfl (AL rfl (AE rfl (AJ rfl (AB rfl (AE rfl (AB rfl (AL rfl (AL rfl (AL rfl (AL rfl (AL rfl ?_)))))))))))))))))
   refine AL rfl ?_
   refine AL rfl (AE rfl (AJ rfl (AB rfl (AJ rfl (AB rfl ?_)))))
   repeat first | refine nx rfl ?_ | refine nf rfl ?_
   (refine AA (AG rfl (Av rfl rfl (by first | exact AV (by omega) (by omega) | exact AY (by omega) (by omega) | exact AW (by omega) (by omega)) ?_)) <;> refine AC (AG rfl ?_))
   repeat refine nx rfl ?_
   refine ⟨k + 1, ⟨rfl, ⟨rfl, (by show Value.int .i64 ((k : Int) + 1) = _; rw [Int.natCast_add]; rfl), trivial⟩, ⟨by omega, kW.trans k4, fun i z hi hz => ?_⟩⟩, by omega⟩
   by_cases hik : i = k
   ·subst hik; rw [hx] at hz; cases hz; exact ⟨hq rfl, fun h => absurd (hnp.symm.trans h) Bool.false_ne_true⟩
   ·exact hbef i z (by omega) hz
 ·(refine AA (AG rfl (AD rfl (AF rfl (Blk.cell (by assumption) (by rfl)) ?_))) <;> refine AZ rfl (Aj rfl rfl (by omega) ?_))
  repeat first | refine nx rfl ?_ | refine nf rfl ?_
  refine AA (AC (AB rfl ?_))
  repeat refine nx rfl ?_
  have hall : ∀ y ∈ f.args, Cw layQ y ∧ (pstB f.op = true → Cw futQ y) := fun y hy => by
   obtain ⟨i, hi⟩ := List.getElem?_of_mem hy
   exact hbef i y (by have := (List.getElem?_eq_some_iff.1 hi).1; omega) hi
  exact AI rfl ⟨true, rfl, kw, fun _ => allF_iff.2 ⟨fun h a ha => (hall a ha).2 h, fun a ha => (hall a ha).1⟩⟩
theorem dpL_snoc : ∀ (l : List Fml) (x : Fml), dpL (l ++ [x]) = max (dpL l) (dpF x)
 | [], x => by simp [dpL]
 | a :: l, x => by rw [List.cons_append, dpL, dpL_snoc l x, dpL]; omega
theorem depth3_ok : ∀ (N : Nat) (f : Fml), szF f ≤ N → N ≤ 1000 → ∀ (w : World) (v : Value), FAt As w v f → Fn Tryz.prog 100 [v] w fun u w' => u = .int .i64 (dpF f : Int) ∧ Ext w w' := by
 intro N
 induction N with
 | zero => intro f hN; have := szF_pos f; omega
 | succ N ih =>
 intro f hN hN1 w v hf
 have hdz := dp_sz f
 obtain ⟨av, rfl, L, hS, hFA⟩ := hf.form
 obtain ⟨a, c, rfl, hS'⟩ := id hS
 have hcap : f.args.length ≤ 9223372036854775807 := by obtain ⟨h1, h2, _⟩ := hS'; omega
 clear hS'
 have hsz := BW f
 refine AR Tryz.func100 rfl Tryz.ntmps100 (Nat.le_of_ble_eq_true rfl) (by kernel_rfl) ?_
 repeat refine nx rfl ?_
 (refine AA ?_; refine A5 (L := fcC f (.slice a f.args.length c)) rfl (fun w1 n1 => ?_))
 have b1 := n1.blk
 have k1 := n1.keep
 refine AC (AG rfl ?_)
 repeat refine nx rfl ?_
 refine AA (AC (AG rfl ?_))
 repeat refine nx rfl ?_
 refine AA (AC (AG rfl ?_))
 repeat refine nx rfl ?_
 refine A3 (α := Nat) (fun k => [(1, pt w.heap.size), (3, .int .i64 (dpL (f.args.take k) : Int)), (4, .int .i64 (k : Int))]) (fun k W => k ≤ f.args.length ∧ Ext w1 W) (fun k => f.args.length - k) 0 ⟨rfl, rfl, rfl, trivial⟩ ⟨by omega, Ext.refl _⟩ ?_
 rintro k W fr ⟨hk, kW⟩
 have kw := k1.trans kW
 have bW := b1.keep kW (by simp)
 have c4 : W.cell? ⟨w.heap.size, 0 + 4, none⟩ = some (.slice a f.args.length c) := bW.cell rfl
 repeat refine nx rfl ?_
 by_cases hlt : k < f.args.length
 ·(refine AA (AG rfl (AD rfl (AF rfl (Blk.cell (by assumption) (by rfl)) ?_))) <;> refine AZ rfl (At rfl rfl (by omega) ?_))
  repeat refine nx rfl ?_
  obtain ⟨x, hx⟩ : ∃ x, f.args[k]? = some x := ⟨_, List.getElem?_eq_getElem hlt⟩
  obtain ⟨cx, hcx⟩ : ∃ cx, L[k]? = some cx := ⟨_, List.getElem?_eq_getElem (by rw [hFA.1]; exact hlt)⟩
  obtain ⟨ba, oa, rfl, hba, hcellx⟩ := hS.fml hFA.2.1 hcx hlt
  have hxm := BY (List.mem_of_getElem? hx)
  have hfx : FAt As W (.agg cx.toArray) x := (hFA.2.2 k cx x hcx hx).ext kw
  have hcx2 := hcellx.keep kw (by simp)
  (refine AA (AG rfl (AD rfl (AF rfl (Blk.cell (by assumption) (by rfl)) ?_))) <;> refine AG rfl ?_)
  refine Au (k := k) rfl rfl rfl (by omega) ?_
  refine Ao (L := cx) rfl (hFA.2.1 cx (List.mem_of_getElem? hcx)) hcx2 ?_
  refine AQ (ih x (by omega) (by omega) W _ hfx) rfl ?_
  rintro _ w4 ⟨rfl, k4⟩
  refine W_max rfl rfl ?_
  refine AC (AG rfl ?_)
  repeat refine nx rfl ?_
  (refine AA (AG rfl (Av rfl rfl (by first | exact AV (by omega) (by omega) | exact AY (by omega) (by omega) | exact AW (by omega) (by omega)) ?_)) <;> refine AC (AG rfl ?_))
  repeat refine nx rfl ?_
  refine ⟨k + 1, ⟨rfl, ⟨rfl, ?_, ?_, trivial⟩, ⟨by omega, kW.trans k4⟩⟩, by omega⟩
  ·refine congrArg (Value.int .i64) ?_
   rw [List.take_add_one, hx, Option.toList_some, dpL_snoc]
   omega
  ·show Value.int .i64 ((k : Int) + 1) = _
   rw [Int.natCast_add]; rfl
 ·obtain e : k = f.args.length := by omega
  rw [e, List.take_length]
  rw [Bd] at hdz ⊢
  (refine AA (AG rfl (AD rfl (AF rfl (Blk.cell (by assumption) (by rfl)) ?_))) <;> refine AZ rfl (Aj rfl rfl (by omega) ?_))
  repeat first | refine nx rfl ?_ | refine nf rfl ?_
  (refine AA (AG rfl (Av rfl rfl (by first | exact AV (by omega) (by omega) | exact AY (by omega) (by omega) | exact AW (by omega) (by omega)) ?_)) <;> refine AC (AG rfl ?_))
  repeat refine nx rfl ?_
  exact AI rfl ⟨by rw [Int.natCast_add]; rfl, kw⟩
end Go.Proofs.YtkhhjdjmhbdjfaaGreatDoor
namespace Go.Proofs.YtkhhjdjmhbdjfaaGreatDoor
open Go.RowKit
set_option linter.unusedVariables false
theorem bareL3_of {i : Bool} : ∀ {l : List Fml}, (∀ a ∈ l, A9 i a = true) → bareL i l = true
 | [], _ => rfl
 | a :: l, h => by
  rw [bareL, h a (by simp), bareL3_of (l := l) fun b hb => h b (by simp [hb])]; rfl
theorem bare_of : ∀ (n : Nat) (f : Fml) (i : Bool), szF f ≤ n → Cw shQ f → Cw coreQ f → Cw layQ f → (i = true → Cw futQ f) → A9 i f = true := by
 intro n
 induction n with
 | zero => intro f i h; have := szF_pos f; omega
 | succ n ih =>
 intro f i hn h1 h2 h3 h4
 obtain ⟨a1, b1⟩ := allF_iff.1 h1
 obtain ⟨a2, b2⟩ := allF_iff.1 h2
 obtain ⟨a3, b3⟩ := allF_iff.1 h3
 rw [BW] at hn
 obtain ⟨op, nm, v, b, args⟩ := f
 rw [bareB_eq]
 simp only [shQ, coreQ, layQ, Fml.op, Fml.name, Fml.val, Fml.bound, Fml.args] at *
 rw [a2.1, a1]
 have e1 : (!(i && futB op)) = true := by
  cases i with
  | false => rfl
  | true =>
   have := (allF_iff.1 (h4 rfl)).1
   unfold futQ at this
   simp only [Fml.op] at this
   rw [this]; rfl
 have e2 : (if op = 4 then negOk (.mk op nm v b args) else true) = true := by
  split
  ·exact a2.2 (by assumption)
  ·rfl
 have e3 : bareL (i || pstB op) args = true := bareL3_of fun a ha => ih a _ (by have := BY ha; omega) (b1 a ha) (b2 a ha) (b3 a ha) (by
  intro h
  rcases Bool.or_eq_true_iff.1 h with h | h
  ·exact (allF_iff.1 (h4 h)).2 a ha
  ·exact a3 h a ha)
 rw [e1, e2, e3]; rfl
def looQ (f : Fml) : Prop := szF f ≤ 400 ∧ dpF f ≤ 60 ∧ Cw shQ f ∧ Cw coreQ f ∧ Cw layQ f
theorem looQ_G {f : Fml} (h : looQ f) : Cc f = true := by
 obtain ⟨h1, h2, h3, h4, h5⟩ := h
 unfold Cc
 rw [decide_eq_true h1, decide_eq_true h2, bareG_eq (by omega), bare_of _ f false (Nat.le_refl _) h3 h4 h5 (fun h => by cases h)]; rfl
theorem loose3_ok (w : World) (v : Value) (f : Fml) (hf : FAt As w v f) : Fn Tryz.prog 53 [v] w fun u w' => ∃ b : Bool, u = .bool b ∧ Ext w w' ∧ (b = true → looQ f) := by
 obtain ⟨av, rfl, L, hS, hFA⟩ := hf.form
 obtain ⟨a, c, rfl, hS'⟩ := id hS
 have hcap : f.args.length ≤ 9223372036854775807 := by obtain ⟨h1, h2, _⟩ := hS'; omega
 clear hS'
 have hsz := BW f
 refine AR Tryz.func53 rfl Tryz.ntmps53 (Nat.le_of_ble_eq_true rfl) (by kernel_rfl) ?_
 repeat refine nx rfl ?_
 (refine AA ?_; refine A5 (L := fcC f (.slice a f.args.length c)) rfl (fun w1 n1 => ?_))
 have b1 := n1.blk
 have k1 := n1.keep
 refine AC (AB rfl ?_)
 repeat refine nx rfl ?_
 clear hsz
 refine AA ?_
 refine Ac (L := fcC f (.slice a f.args.length c)) rfl b1 rfl ?_
 refine AQ (rsmall_ok w1 _ f 400 (by omega) (hf.ext k1)) rfl ?_
 rintro _ w2 ⟨rfl, k2⟩
 have e2 := k1.trans k2
 have b2 := b1.keep k2 (by simp)
 by_cases h400 : szF f ≤ 400
 case neg =>
  rw [decide_eq_false h400]
  refine AB rfl ?_
  refine AL rfl (AL rfl (AL rfl (AJ rfl (AB rfl (AB rfl (AL rfl (AL rfl (AJ rfl (AB rfl (AB rfl (AL rfl (AL rfl (AJ rfl (AB rfl (AB rfl (AL rfl (AL rfl (AJ rfl (AB rfl (AC (AB rfl ?_)))))))))))))))))))))
  repeat refine nx rfl ?_
  exact AI rfl ⟨false, rfl, e2, fun h => by cases h⟩
 rw [decide_eq_true h400]
 refine AB rfl ?_
 refine AE rfl (Ac (L := fcC f (.slice a f.args.length c)) rfl b2 rfl ?_)
 refine AE rfl (AQ (depth3_ok 400 f h400 (by omega) w2 _ (hf.ext e2)) rfl ?_)
 rintro _ w3 ⟨rfl, k3⟩
 have e3 := e2.trans k3
 have b3 := b2.keep k3 (by simp)
 have hd400 := dp_sz f
 by_cases h60 : dpF f ≤ 60
 case neg =>
  refine AE rfl (Bh rfl rfl (by omega) (AK rfl (AB rfl (AB rfl ?_))))
  refine AL rfl (AL rfl (AJ rfl (AB rfl (AB rfl (AL rfl (AL rfl (AJ rfl (AB rfl (AB rfl (AL rfl (AL rfl (AJ rfl (AB rfl (AC (AB rfl ?_)))))))))))))))
  repeat refine nx rfl ?_
  exact AI rfl ⟨false, rfl, e3, fun h => by cases h⟩
 refine AE rfl (BZ rfl rfl (by omega) (AK rfl (AB rfl (AB rfl ?_))))
 refine AE rfl (Ac (L := fcC f (.slice a f.args.length c)) rfl b3 rfl ?_)
 refine AE rfl (AQ (nodes3_ok _ f (Nat.le_refl _) w3 _ (hf.ext e3)) rfl ?_)
 rintro _ w4 ⟨b, rfl, k4, q4⟩
 have e4 := e3.trans k4
 have b4 := b3.keep k4 (by simp)
 cases b with
 | false =>
  refine AK rfl (AB rfl (AB rfl ?_))
  refine AL rfl (AL rfl (AJ rfl (AB rfl (AB rfl (AL rfl (AL rfl (AJ rfl (AB rfl (AC (AB rfl ?_))))))))))
  repeat refine nx rfl ?_
  exact AI rfl ⟨false, rfl, e4, fun h => by cases h⟩
 | true =>
 refine AK rfl (AB rfl (AB rfl ?_))
 refine AE rfl (Ac (L := fcC f (.slice a f.args.length c)) rfl b4 rfl ?_)
 refine AE rfl (AQ (core3_ok _ f (Nat.le_refl _) w4 _ (hf.ext e4) (q4 rfl)) rfl ?_)
 rintro _ w5 ⟨b, rfl, k5, q5⟩
 have e5 := e4.trans k5
 have b5 := b4.keep k5 (by simp)
 cases b with
 | false =>
  refine AK rfl (AB rfl (AB rfl ?_))
  refine AL rfl (AL rfl (AJ rfl (AB rfl (AC (AB rfl ?_)))))
  repeat refine nx rfl ?_
  exact AI rfl ⟨false, rfl, e5, fun h => by cases h⟩
 | true =>
 refine AK rfl (AB rfl (AB rfl ?_))
 refine AE rfl (Ac (L := fcC f (.slice a f.args.length c)) rfl b5 rfl ?_)
 refine AE rfl (AQ (lay3_ok _ f (Nat.le_refl _) w5 _ (hf.ext e5)) rfl ?_)
 rintro _ w6 ⟨b, rfl, k6, q6⟩
 cases b with
 | false =>
  refine AK rfl (AB rfl (AC (AB rfl ?_)))
  repeat refine nx rfl ?_
  exact AI rfl ⟨false, rfl, e5.trans k6, fun h => by cases h⟩
 | true =>
  refine AK rfl (AB rfl (AC (AB rfl ?_)))
  repeat refine nx rfl ?_
  exact AI rfl ⟨true, rfl, e5.trans k6, fun _ => ⟨h400, h60, q4 rfl, q5 rfl, q6 rfl⟩⟩
theorem knS_of {S : List Sgn} {nm : List UInt8} {v : Int} {j : Nat} {s : Sgn} (hj : S.findIdx? (fun y => decide (y.name = nm)) = some j) (hs : S[j]? = some s) (hv : v < s.size) : knS S nm v = true := by
 unfold knS; rw [hj]; simp [hs, hv]
theorem isB_leaf {k : List UInt8 → Int → Bool} {f : Fml} (h3 : f.op = 3) (h : shQ f) (hk : k f.name f.val = true) : isB k f = true := by
 obtain ⟨op, nm, vl, bd, args⟩ := f
 simp only [shQ, Fml.op, Fml.name, Fml.val, Fml.bound, Fml.args] at *
 subst h3
 have hl0 : args.length = 0 := by
  have h1 := Bk h
  simpa [A8] using h1
 have hnil : args = [] := List.eq_nil_of_length_eq_zero hl0
 subst hnil
 rw [isB, if_pos rfl, hk]; rfl
theorem isB_node {k : List UInt8 → Int → Bool} {f : Fml} (h3 : f.op ≠ 3) (h : ∀ a ∈ f.args, isB k a = true) : isB k f = true := by
 obtain ⟨op, nm, vl, bd, args⟩ := f
 exact is_iff.2 ⟨fun e => absurd e h3, h⟩
theorem fits3_ok (w0 : World) (sa : Option Addr) (sc : Nat) (S : List Sgn) (hS0 : SlAt sgnR As w0 (.slice sa S.length sc) S) : ∀ (N : Nat) (f : Fml), szF f ≤ N → ∀ (w : World) (v : Value), Ext w0 w → FAt As w v f → Fn Tryz.prog 54 [.slice sa S.length sc, v] w fun u w' => ∃ b : Bool, u = .bool b ∧ Ext w w' ∧ (b = true → Cw shQ f → isB (knS S) f = true) := by
 intro N
 induction N with
 | zero => intro f hN; have := szF_pos f; omega
 | succ N ih =>
 intro f hN w v e0 hf
 obtain ⟨av, rfl, L, hS, hFA⟩ := hf.form
 obtain ⟨a, c, rfl, hS'⟩ := id hS
 have hcap : f.args.length ≤ 9223372036854775807 := by obtain ⟨h1, h2, _⟩ := hS'; omega
 clear hS'
 have hsz := BW f
 refine AR Tryz.func54 rfl Tryz.ntmps54 (Nat.le_of_ble_eq_true rfl) (by kernel_rfl) ?_
 repeat refine nx rfl ?_
 (refine AA ?_; refine A5 (L := fcC f (.slice a f.args.length c)) rfl (fun w1 n1 => ?_))
 have b1 := n1.blk
 have k1 := n1.keep
 refine AC (AB rfl ?_)
 repeat refine nx rfl ?_
 have c0 : w1.cell? ⟨w.heap.size, 0 + 0, none⟩ = some (.int .i64 f.op) := b1.cell rfl
 have c1 : w1.cell? ⟨w.heap.size, 0 + 1, none⟩ = some (An f.name) := b1.cell rfl
 by_cases h3 : f.op = 3
 ·have hSw := hS0.ext (e0.trans k1)
  (refine AA (AD rfl (AF rfl (Blk.cell (by assumption) (by rfl)) ?_)) <;> refine Ai rfl rfl (by omega) ?_)
  repeat refine nx rfl ?_
  refine AA (AM rfl (AD rfl (AF rfl (Blk.cell (by assumption) (by rfl)) ?_)))
  refine AQ (rfind_ok w1 _ S f.name hSw) rfl ?_
  rintro _ w1 ⟨rfl, rfl⟩
  refine AC (AG rfl ?_)
  repeat refine nx rfl ?_
  unfold Cs
  cases hj : S.findIdx? (fun y => decide (y.name = f.name)) with
  | none =>
   simp only
   refine Ad (.read 0 (.read 1 (.read 2 (.read 3 (.read 4 (.read 5 (.read 6 (.read 7 (.read 8 (.read 9 (.read 10 (.read 11 (.read 12 (.read 13 (.read 14 (.read 15 (.read 16 (.read 17 .done)))))))))))))))))) Ax (by kernel_rfl) (fun wd kd ed => ⟨Ext wd, ?_, ?_⟩)
   ·exact Ext.refl _
   refine D_R rfl rfl (fun W hW => AG rfl Z3) (D_geqF rfl rfl rfl rfl (by omega) (D_R rfl rfl (fun W hW => AB rfl Z3) (Am rfl rfl rfl rfl (Am rfl rfl rfl rfl (Am rfl rfl rfl rfl (D_R rfl rfl (fun W hW => AJ rfl (AB rfl Z3)) (D_R rfl rfl (fun W hW => AB rfl Z3) (Am rfl rfl rfl rfl (Am rfl rfl rfl rfl (Am rfl rfl rfl rfl (Am rfl rfl rfl rfl (Am rfl rfl rfl rfl (Am rfl rfl rfl rfl (Am rfl rfl rfl rfl (Am rfl rfl rfl rfl (D_R rfl rfl (fun W hW => AJ rfl (AB rfl Z3)) (D_R rfl rfl (fun W hW => AC (AB rfl Z3)) (Ah ?_))))))))))))))))))
   repeat refine nx rfl ?_
   exact AI rfl ⟨false, rfl, k1.trans kd, fun h => by cases h⟩
  | some j =>
   have hjl : j < S.length := (List.findIdx?_eq_some_iff_getElem.1 hj).1
   obtain ⟨s, hs⟩ : ∃ s, S[j]? = some s := ⟨_, List.getElem?_eq_getElem hjl⟩
   obtain ⟨_, sb, so, rfl, _, hsc⟩ := hSw.sig hs
   simp only
   refine Ad (.read 0 (.read 1 (.read 2 (.read 3 (.read 4 (.read 5 (.read 6 (.read 7 (.read 8 (.read 9 (.read 10 (.read 11 (.read 12 (.read 13 (.read 14 (.read 15 (.read 16 (.read 17 .done)))))))))))))))))) Ax (by kernel_rfl) (fun wd kd ed => ⟨Ext wd, ?_, ?_⟩)
   ·exact Ext.refl _
   have s1 : ∀ V, Ext wd V → V.cell? ⟨w.heap.size, 0 + 2, none⟩ = some (.int .i64 f.val) := fun V e => (b1.keep (kd.trans e) (by simp)).cell rfl
   have s2 : ∀ V, Ext wd V → V.cell? ⟨sb, so + j * 3 + 2, none⟩ = some (.int .i64 s.size) := fun V e => (kd.trans e).cell (hsc 2 _ rfl) (by simp)
   by_cases g0 : 0 ≤ f.val
   case neg =>
    refine D_R rfl rfl (fun W hW => AG rfl Z3) (D_geqT rfl rfl rfl rfl (by omega) (D_R rfl rfl (fun W hW => AB rfl Z3) (D_R rfl rfl (fun W hW => AE rfl (AD rfl Z3)) (D_R rfl rfl (fun W hW => AE rfl (AF rfl (s1 W hW) Z3)) (D_geqF rfl rfl rfl rfl (by omega) (D_R rfl rfl (fun W hW => AK rfl (AB rfl Z3)) (D_R rfl rfl (fun W hW => AB rfl Z3) (Am rfl rfl rfl rfl (Am rfl rfl rfl rfl (Am rfl rfl rfl rfl (Am rfl rfl rfl rfl (Am rfl rfl rfl rfl (Am rfl rfl rfl rfl (Am rfl rfl rfl rfl (Am rfl rfl rfl rfl (D_R rfl rfl (fun W hW => AJ rfl (AB rfl Z3)) (D_R rfl rfl (fun W hW => AC (AB rfl Z3)) (Ah ?_))))))))))))))))))
    repeat refine nx rfl ?_
    exact AI rfl ⟨false, rfl, k1.trans kd, fun h => by cases h⟩
   by_cases g1 : f.val < s.size
   case neg =>
    refine D_R rfl rfl (fun W hW => AG rfl Z3) (D_geqT rfl rfl rfl rfl (by omega) (D_R rfl rfl (fun W hW => AB rfl Z3) (D_R rfl rfl (fun W hW => AE rfl (AD rfl Z3)) (D_R rfl rfl (fun W hW => AE rfl (AF rfl (s1 W hW) Z3)) (D_geqT rfl rfl rfl rfl (by omega) (D_R rfl rfl (fun W hW => AK rfl (AB rfl Z3)) (D_R rfl rfl (fun W hW => AB rfl Z3) (D_R rfl rfl (fun W hW => AE rfl (AD rfl Z3)) (D_R rfl rfl (fun W hW => AE rfl (AF rfl (s1 W hW) Z3)) (D_R rfl rfl (fun W hW => AE rfl (AM rfl Z3)) (D_R rfl rfl (fun W hW => AE rfl (AG rfl Z3)) (D_R rfl rfl (fun W hW => AE rfl (Au rfl rfl rfl (by omega) Z3)) (D_R rfl rfl (fun W hW => AE rfl (AD rfl Z3)) (D_R rfl rfl (fun W hW => AE rfl (AF rfl (s2 W hW) Z3)) (D_lssF rfl rfl rfl rfl (by omega) (D_R rfl rfl (fun W hW => AK rfl (AB rfl Z3)) (D_R rfl rfl (fun W hW => AC (AB rfl Z3)) (Ah ?_))))))))))))))))))
    repeat refine nx rfl ?_
    exact AI rfl ⟨false, rfl, k1.trans kd, fun h => by cases h⟩
   have hgood : Cw shQ f → isB (knS S) f = true := fun hsh => isB_leaf h3 (allF_iff.1 hsh).1 (knS_of hj hs g1)
   refine D_R rfl rfl (fun W hW => AG rfl Z3) (D_geqT rfl rfl rfl rfl (by omega) (D_R rfl rfl (fun W hW => AB rfl Z3) (D_R rfl rfl (fun W hW => AE rfl (AD rfl Z3)) (D_R rfl rfl (fun W hW => AE rfl (AF rfl (s1 W hW) Z3)) (D_geqT rfl rfl rfl rfl (by omega) (D_R rfl rfl (fun W hW => AK rfl (AB rfl Z3)) (D_R rfl rfl (fun W hW => AB rfl Z3) (D_R rfl rfl (fun W hW => AE rfl (AD rfl Z3)) (D_R rfl rfl (fun W hW => AE rfl (AF rfl (s1 W hW) Z3)) (D_R rfl rfl (fun W hW => AE rfl (AM rfl Z3)) (D_R rfl rfl (fun W hW => AE rfl (AG rfl Z3)) (D_R rfl rfl (fun W hW => AE rfl (Au rfl rfl rfl (by omega) Z3)) (D_R rfl rfl (fun W hW => AE rfl (AD rfl Z3)) (D_R rfl rfl (fun W hW => AE rfl (AF rfl (s2 W hW) Z3)) (D_lssT rfl rfl rfl rfl (by omega) (D_R rfl rfl (fun W hW => AK rfl (AB rfl Z3)) (D_R rfl rfl (fun W hW => AC (AB rfl Z3)) (Ah ?_))))))))))))))))))
   repeat refine nx rfl ?_
   exact AI rfl ⟨true, rfl, k1.trans kd, fun _ => hgood⟩
 (refine AA (AD rfl (AF rfl (Blk.cell (by assumption) (by rfl)) ?_)) <;> refine AT rfl rfl (by omega) ?_)
 repeat first | refine nx rfl ?_ | refine nf rfl ?_
 refine AA (AC (AG rfl ?_))
 repeat refine nx rfl ?_
 obtain ⟨w5, hw5⟩ : ∃ w5, w5 = w1 := ⟨_, rfl⟩
 have e5 := k1
 have b5 := b1
 rw [← hw5] at e5 b5 ⊢
 refine A3 (α := Nat) (fun k => [(0, .slice sa S.length sc), (3, pt w.heap.size), (6, .int .i64 (k : Int))]) (fun k W => k ≤ f.args.length ∧ Ext w5 W ∧ ∀ (i : Nat) (y : Fml), i < k → f.args[i]? = some y → (Cw shQ y → isB (knS S) y = true)) (fun k => f.args.length - k) 0 (by repeat (first | exact trivial | refine ⟨rfl, ?_⟩)) ⟨by omega, Ext.refl _, fun i y hi => absurd hi (by omega)⟩ ?_
 rintro k W fr ⟨hk, kW, hbef⟩
 have kw := e5.trans kW
 have c4 : W.cell? ⟨w.heap.size, 0 + 4, none⟩ = some (.slice a f.args.length c) := kW.cell (b5.cell rfl) (by simp)
 repeat refine nx rfl ?_
 by_cases hlt : k < f.args.length
 ·(refine AA (AG rfl (AD rfl (AF rfl (by assumption) ?_))) <;> refine AZ rfl (At rfl rfl (by omega) ?_))
  repeat refine nx rfl ?_
  obtain ⟨x, hx⟩ : ∃ x, f.args[k]? = some x := ⟨_, List.getElem?_eq_getElem hlt⟩
  obtain ⟨cx, hcx⟩ : ∃ cx, L[k]? = some cx := ⟨_, List.getElem?_eq_getElem (by rw [hFA.1]; exact hlt)⟩
  obtain ⟨ba, oa, rfl, hba, hcellx⟩ := hS.fml hFA.2.1 hcx hlt
  have hxm := BY (List.mem_of_getElem? hx)
  have hfx : FAt As W (.agg cx.toArray) x := (hFA.2.2 k cx x hcx hx).ext kw
  have hcx2 := hcellx.keep kw (by simp)
  (refine AA (AM rfl (AD rfl (AF rfl (by assumption) ?_))) <;> refine AG rfl ?_)
  refine Au (k := k) rfl rfl rfl (by omega) ?_
  refine Ao (L := cx) rfl (hFA.2.1 cx (List.mem_of_getElem? hcx)) hcx2 ?_
  refine AQ (ih x (by omega) W _ (e0.trans kw) hfx) rfl ?_
  rintro _ w4 ⟨b, rfl, k4, hq⟩
  cases b with
  | true =>
   refine Ak rfl ?_
   repeat first | refine nx rfl ?_ | refine nf rfl ?_
   (refine AA (AG rfl (Av rfl rfl (by first | exact AV (by omega) (by omega) | exact AY (by omega) (by omega) | exact AW (by omega) (by omega)) ?_)) <;> refine AC (AG rfl ?_))
   repeat refine nx rfl ?_
   refine ⟨k + 1, ⟨rfl, ⟨(by repeat (first | exact trivial | refine ⟨rfl, ?_⟩)), ⟨by omega, kW.trans k4, fun i z hi hz => ?_⟩⟩⟩, by omega⟩
   by_cases hik : i = k
   ·subst hik; rw [hx] at hz; cases hz; exact hq rfl
   ·exact hbef i z (by omega) hz
  | false =>
   refine Ak rfl ?_
   repeat refine nx rfl ?_
   refine AA (AC (AB rfl ?_))
   repeat refine nx rfl ?_
   exact AI rfl ⟨false, rfl, kw.trans k4, fun h => by cases h⟩
 ·(refine AA (AG rfl (AD rfl (AF rfl (by assumption) ?_))) <;> refine AZ rfl (Aj rfl rfl (by omega) ?_))
  repeat first | refine nx rfl ?_ | refine nf rfl ?_
  refine AA (AC (AB rfl ?_))
  repeat refine nx rfl ?_
  have hall : ∀ y ∈ f.args, (Cw shQ y → isB (knS S) y = true) := fun y hy => by
   obtain ⟨i, hi⟩ := List.getElem?_of_mem hy
   exact hbef i y (by have := (List.getElem?_eq_some_iff.1 hi).1; omega) hi
  exact AI rfl ⟨true, rfl, kw, fun _ => fun hsh => isB_node h3 fun y hy => hall y hy ((allF_iff.1 hsh).2 y hy)⟩
def rtQ (S : List Sgn) (f : Fml) : Prop := BG S = true ∧ looQ f ∧ isB (knS S) f = true
theorem right_ok (w : World) (sa : Option Addr) (sc : Nat) (S : List Sgn) (v : Value) (f : Fml) (hSg : SlAt sgnR As w (.slice sa S.length sc) S) (hf : FAt As w v f) :
  Fn Tryz.prog 22 [.slice sa S.length sc, v] w fun u w' => ∃ b : Bool, u = .bool b ∧ Ext w w' ∧ (b = true → rtQ S f) := by
 obtain ⟨av, rfl, L, hS, hFA⟩ := hf.form
 obtain ⟨a, c, rfl, hS'⟩ := id hS
 have hcap : f.args.length ≤ 9223372036854775807 := by obtain ⟨h1, h2, _⟩ := hS'; omega
 clear hS'
 have hsz := BW f
 refine AR Tryz.func22 rfl Tryz.ntmps22 (Nat.le_of_ble_eq_true rfl) (by kernel_rfl) ?_
 repeat refine nx rfl ?_
 (refine AA ?_; refine A5 (L := fcC f (.slice a f.args.length c)) rfl (fun w1 n1 => ?_))
 have b1 := n1.blk
 have k1 := n1.keep
 refine AC (AB rfl ?_)
 repeat refine nx rfl ?_
 clear hsz
 refine AA (AM rfl ?_)
 refine AQ (rsvalid_ok w1 _ S (hSg.ext k1)) rfl ?_
 rintro _ w2 ⟨rfl, k2⟩
 have e2 := k1.trans k2
 have b2 := b1.keep k2 (by simp)
 cases hv : BG S with
 | false =>
  refine AB rfl ?_
  refine AL rfl (AL rfl (AJ rfl (AB rfl (AB rfl (AL rfl (AL rfl (AL rfl (AJ rfl (AB rfl (AC (AB rfl ?_)))))))))))
  repeat refine nx rfl ?_
  exact AI rfl ⟨false, rfl, e2, fun h => by cases h⟩
 | true =>
 refine AB rfl ?_
 refine AE rfl (Ac (L := fcC f (.slice a f.args.length c)) rfl b2 rfl ?_)
 refine AE rfl (AQ (loose3_ok w2 _ f (hf.ext e2)) rfl ?_)
 rintro _ w3 ⟨b, rfl, k3, q3⟩
 have e3 := e2.trans k3
 have b3 := b2.keep k3 (by simp)
 cases b with
 | false =>
  refine AK rfl (AB rfl (AB rfl (AL rfl ?_)))
  refine AL rfl (AL rfl (AJ rfl (AB rfl (AC (AB rfl ?_)))))
  repeat refine nx rfl ?_
  exact AI rfl ⟨false, rfl, e3, fun h => by cases h⟩
 | true =>
 refine AK rfl (AB rfl (AB rfl (AE rfl (AM rfl ?_))))
 refine AE rfl (Ac (L := fcC f (.slice a f.args.length c)) rfl b3 rfl ?_)
 refine AE rfl (AQ (fits3_ok w3 sa sc S (hSg.ext e3) _ f (Nat.le_refl _) w3 _ (Ext.refl _) (hf.ext e3)) rfl ?_)
 rintro _ w4 ⟨b, rfl, k4, q4⟩
 cases b with
 | false =>
  refine AK rfl (AB rfl (AC (AB rfl ?_)))
  repeat refine nx rfl ?_
  exact AI rfl ⟨false, rfl, e3.trans k4, fun h => by cases h⟩
 | true =>
  refine AK rfl (AB rfl (AC (AB rfl ?_)))
  repeat refine nx rfl ?_
  exact AI rfl ⟨true, rfl, e3.trans k4, fun _ => ⟨hv, q3 rfl, q4 rfl (q3 rfl).2.2.1⟩⟩
end Go.Proofs.YtkhhjdjmhbdjfaaGreatDoor
namespace Go.Proofs.YtkhhjdjmhbdjfaaGreatDoor
open Go.RowKit
set_option linter.unusedVariables false
theorem slW {ok : Nat → Prop} {w : World} {v : Value} {l : List Fml} (h : @SlAt True strMK Fml (@fmlR True strMK) ok w v l) : @SlAt False weakMK Fml (@fmlR False weakMK) ok w v l := h
theorem pnodesW_ok (w : World) (v : Value) (f : Fml) (hf : FAt As w v f) (hG : GF w) (hK : KY w) (hN : 3 ≤ w.heap.size) (hk : Ci f = true) : Fn Tryz.prog 6 [v] w fun u w' => SlAt fmlR (fun b => w.heap.size ≤ b ∧ Unm w' b) w' u (BQ f) ∧ Ext w w' := by
 refine Fn.mono (pnodes_ok w v f hf hG hK hN hk) fun u w' h => ?_
 obtain ⟨h1, h2⟩ := h
 refine ⟨?_, ?_⟩
 ·exact (slW h1).mono fun b hb => ⟨hb, @Keep.fresh strMK _ _ _ h2 _ hb⟩
 ·exact @Keep.weak False weakMK strMK _ _ _ h2
end Go.Proofs.YtkhhjdjmhbdjfaaGreatDoor
namespace Go.Proofs.YtkhhjdjmhbdjfaaGreatDoor
open Go.RowKit
set_option linter.unusedVariables false
theorem looseG_of {f : Fml} (hz : szF f ≤ 60) (hb : A9 false f = true) : Cc f = true := by
 have := dp_sz f
 unfold Cc
 rw [decide_eq_true (by omega), decide_eq_true (by omega), bareG_eq (by omega), hb]; rfl
theorem bare_op {f : Fml} {i : Bool} (h : A9 i f = true) : f.op ≠ 0 := by
 obtain ⟨op, nm, v, b, args⟩ := f
 obtain ⟨h1, _⟩ := BS h
 intro e
 have e : op = 0 := e
 subst e
 revert h1
 decide
theorem raw_con {x : Vl} {f : Fml} (hb : A9 false f = true) (hc : Bo f = true) : A9 false (rawF x f) = true ∧ szF (rawF x f) = 1 := by
 obtain ⟨op, nm, v, b, args⟩ := f
 obtain ⟨h1, h2, _, _⟩ := BS hb
 have ha := Bk h2
 have ho : op = 1 ∨ op = 2 := by
  rcases Bool.or_eq_true_iff.1 hc with h | h
  ·exact .inl (of_decide_eq_true h)
  ·exact .inr (of_decide_eq_true h)
 have hl0 : args.length = 0 := by rcases ho with rfl | rfl <;> simpa [A8] using ha
 have hnil : args = [] := List.eq_nil_of_length_eq_zero hl0
 subst hnil
 have hp : Bv (.mk op nm v b []) = true := by rcases ho with rfl | rfl <;> rfl
 rw [rawF, if_pos hp]
 cases BH x (.mk op nm v b []) <;> exact ⟨rfl, rfl⟩
theorem canon_8 (g : Fml) : Al (opF 8 [g]) = if Bo (Al g) = true then Al g else ⟨8, [], 0, 0, [Al g]⟩ := by
 show BP 8 [] 0 [Al g] = _
 unfold BP
 rw [if_neg (by decide)]
 by_cases h : Bo (Al g) = true
 ·rw [if_pos ⟨rfl, h⟩, if_pos h]; rfl
 ·rw [if_neg (fun hh => h hh.2), if_neg h, if_neg (fun hh => absurd hh.1 (by decide)), if_neg (fun hh => absurd hh.1 (by decide))]
theorem raw_next (x : Vl) {g : Fml} (hb : A9 false g = true) (hz : szF g ≤ 60) : Cc (rawF x (Al (opF 8 [g]))) = true := by
 have hbc := bare_canon hb
 have hzc := canon_sz (sh_bare hb)
 rw [canon_8]
 split
 ·obtain ⟨h1, h2⟩ := raw_con (x := x) hbc (by assumption)
  exact looseG_of (by omega) h1
 ·have hp : Bv (.mk 8 [] 0 0 [Al g]) = false := rfl
  rw [rawF, hp, if_neg Bool.false_ne_true]
  show Cc (CG x (Al g)) = true
  exact looseG_of (by rw [aged_sz]; omega) (bare_aged x hbc)
theorem canG_of {f : Fml} (h : Cc f = true) : canG f = Al f := by unfold canG; rw [if_pos h]
theorem fits_of {S : List Sgn} {f : Fml} (hv : BG S = true) (hz : szF f ≤ 60) (hb : A9 false f = true) (hk : isB (knS S) f = true) : fitsB S f = true := by
 have hl := looseG_of hz hb
 have h0 := bare_op (bare_canon hb)
 unfold fitsB looseP
 rw [hv, hk, canG_of hl, decide_eq_true h0]; simp
theorem step_law {S : List Sgn} {f : Fml} {x : Int} (n : Nat) (hv : BG S = true) (hb : A9 false f = true) (hk : isB (knS S) f = true) (hz : szF f + (n + 1) ≤ 60) (h0 : 0 ≤ x) (h1 : x < Bm S) :
  stepG S (Al (CB (n + 1) f)) x = Al (CB n (CG (vlS S x) f)) := by
 have hbn := bare_next hb (n + 1)
 have hsz := next_sz f (n + 1)
 have hsn := next_sz f n
 have hbm := bare_next hb n
 have hf : fitsB S (Al (CB (n + 1) f)) = true := fits_of hv (by have := canon_sz (sh_bare hbn); omega) (bare_canon hbn) (is_canon (sh_bare hbn) (is_next hk _))
 unfold stepG
 rw [if_pos ⟨hf, h0, h1⟩]
 unfold resG
 show canG (rawF (vlS S x) (Al (opF 8 [CB n f]))) = _
 rw [canG_of (raw_next _ hbm (by omega))]
 exact step_next _ hb n
theorem runL_law {S : List Sgn} (hv : BG S = true) : ∀ (xs : List Int) (f : Fml), A9 false f = true → isB (knS S) f = true → szF f + xs.length ≤ 60 → (∀ x ∈ xs, 0 ≤ x ∧ x < Bm S) → runL S (Al (CB xs.length f)) xs = Al (agedN (xs.map (vlS S)) f)
 | [], f, _, _, _, _ => rfl
 | x :: xs, f, hb, hk, hz, hx => by
  obtain ⟨h0, h1⟩ := hx x (by simp)
  have hs := step_law (x := x) xs.length hv hb hk (by simpa using hz) h0 h1
  have hba := bare_aged (vlS S x) hb
  rw [List.length_cons, runL, hs, if_neg (bare_op (bare_canon (bare_next hba _)))]
  rw [runL_law hv xs (CG (vlS S x) f) hba (is_aged _ hk) (by rw [aged_sz]; simp at hz; omega) fun y hy => hx y (by simp [hy])]
  rfl
theorem run_law {S : List Sgn} {f : Fml} {xs : List Int} (h : rtQ S f) (hz : szF f ≤ 20) (hn : xs.length ≤ 6) (hx : ∀ x ∈ xs, 0 ≤ x ∧ x < Bm S) : runG S (CB xs.length f) xs = canG (agedN (xs.map (vlS S)) f) := by
 obtain ⟨hv, hq, hk⟩ := h
 have hl := looQ_G hq
 obtain ⟨_, _, hb⟩ := loose_parts hl
 have hsn := next_sz f xs.length
 have hbn := bare_next hb xs.length
 unfold runG
 rw [if_pos (fits_of hv (by omega) hbn (is_next hk _)), canG_of (looseG_of (by omega) hbn), runL_law hv xs f hb hk (by omega) hx]
 exact (canG_of (looseG_of (by rw [agedN_sz]; omega) (agedN_bare _ hb))).symm
end Go.Proofs.YtkhhjdjmhbdjfaaGreatDoor
namespace Go.Proofs.YtkhhjdjmhbdjfaaGreatDoor
open Go.RowKit
set_option linter.unusedVariables false
def sgR : Sgn := ⟨[114], true, 2⟩
def sgG : Sgn := ⟨[103], false, 2⟩
def Sg2 : List Sgn := [sgR, sgG]
def isR : Fml := isF [114] 1
def isGg : Fml := isF [103] 1
def respF : Fml := ⟨12, [], 0, 0, [⟨7, [], 0, 0, [isR, ⟨11, [], 0, 0, [isGg]⟩]⟩]⟩
def Cd : Fml := ⟨15, [], 0, 0, [isR]⟩
def respK : Fml := kerP respF
theorem sg_valid : BG Sg2 = true := by kernel_rfl
theorem sg_num : Bm Sg2 = 4 := by kernel_rfl
theorem resp_ok : validG respF = true ∧ layG respF = true ∧ posB respF = true ∧ cst respF ≤ 60 ∧ dpF respF + 1 ≤ 20 ∧ szF respF ≤ 1000 := ⟨by kernel_rfl, by kernel_rfl, by kernel_rfl, by decide, by decide, by decide⟩
theorem resp_ker : KerT Sg2 respK := ⟨by kernel_rfl, by kernel_rfl, by kernel_rfl, of_decide_eq_true (by kernel_rfl), of_decide_eq_true (by kernel_rfl), of_decide_eq_true (by kernel_rfl), by kernel_rfl⟩
theorem resp_yes : (rowM Sg2 [1, 2] respK).1 = true := by kernel_rfl
theorem resp_no : (rowM Sg2 [2, 1] respK).1 = false := by kernel_rfl
theorem yest_kern : Ci Cd = true := by kernel_rfl
theorem yest_nodes : BQ Cd = [Cd] := by kernel_rfl
theorem yest_is : isB (knS Sg2) Cd = true := by kernel_rfl
theorem yest_next : nextI (vlS Sg2 1) [Cd] (startI [Cd]) = 1 := by kernel_rfl
theorem yest_put : chF (fun g => bitI (BI [Cd] 1 g)) Cd = ⟨15, [], 1, 0, [isR]⟩ := by kernel_rfl
theorem yest_step : stepG Sg2 (opF 8 [Cd]) 1 = ⟨15, [], 1, 0, [isR]⟩ := by kernel_rfl
end Go.Proofs.YtkhhjdjmhbdjfaaGreatDoor
