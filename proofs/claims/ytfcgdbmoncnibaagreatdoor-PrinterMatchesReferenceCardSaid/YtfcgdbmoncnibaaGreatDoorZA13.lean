/- The reference printer: numbers, operators, signs. Conditions: none. -/
import Derived.Test.YtfcgdbmoncnibaaGreatDoorZA12

namespace Go.Proofs.YtfcgdbmoncnibaaGreatDoor
open Go.RowKit
set_option linter.unusedVariables false
section
attribute [local semireducible] WC AX Bk BG Bc Cb Cv Bd
variable {P : Program} {all : Array Oper} {Z : Fr → DS → List PanicEntry → World → Prop} {K : Fr → DS → World → Prop} {rest : List Oper} {f : Fr} {ds : DS} {w : World} {d : Nat} {ty : TypeId} {pos : String} {af : Array Edge}
theorem W_digit {S D : TypeId} {x : Operand} {k : Nat} (hr : (convert S D (.int .i32 (48 + (k : Int)))).run P w = .ok (AM [UInt8.ofNat (48 + k)]) w) (hx : ev f x = .int .i32 (48 + (k : Int))) (h : AX P all Z K rest (upd f d (AM [UInt8.ofNat (48 + k)])) ds w) :
  AX P all Z K (⟨some d, .convert S D x, ty, pos, af, none⟩ :: rest) f ds w := by
 refine Ay rfl ?_ h
 simp [execOp, hx, hr]
end
theorem run_digit (k : Nat) (hk : k < 10) (w : World) : (convert 21 9 (.int .i32 (48 + (k : Int)))).run Tryz.prog w = .ok (AM [UInt8.ofNat (48 + k)]) w := by
 have h : (convert 21 9 (.int .i32 (48 + (k : Int)))).run Tryz.prog w = .ok (.string (Utf8.encode (48 + (k : Int)))) w := by
  unfold convert
  simp [run_underlying Tryz.underlying21, run_underlying Tryz.underlying9, Conv.intToString]
 rw [h]
 have : k = 0 ∨ k = 1 ∨ k = 2 ∨ k = 3 ∨ k = 4 ∨ k = 5 ∨ k = 6 ∨ k = 7 ∨ k = 8 ∨ k = 9 := by omega
 rcases this with rfl | rfl | rfl | rfl | rfl | rfl | rfl | rfl | rfl | rfl <;> rfl
theorem rnumber_ok (w : World) (n : Int) : Fn Tryz.prog 54 [.int .i64 n] w fun v w' => v = .bool (numB n) ∧ w' = w := by
 refine Aa Tryz.func54 rfl Tryz.ntmps54 (Nat.le_of_ble_eq_true rfl) (by kernel_rfl) ?_
 repeat' first | refine nx rfl ?_ | fail
 refine AA (AB (AC rfl ?_))
 repeat' first | refine nx rfl ?_ | fail
 (refine AA (AI rfl ?_) <;> (refine Cu rfl rfl (fun hc => ?_) (fun hc => ?_) <;> try omega) <;> refine AC rfl ?_ <;> (first | refine AK rfl ?_ | (refine AF rfl ?_; refine AI rfl ?_)) <;> (first | refine AK rfl ?_ | (refine AF rfl ?_; (refine Bf rfl rfl (fun hc => ?_) (fun hc => ?_) <;> try omega))) <;> ((first | refine AN rfl ?_ | refine AQ rfl ?_); refine AC rfl ?_) <;> refine AB (AC rfl (AE ?_)))
 all_goals
  repeat' first | refine nx rfl ?_ | fail
  exact AL rfl ⟨congrArg Value.bool (by simp [numB]; omega), rfl⟩
theorem digits_ok : ∀ (m k : Nat) (w : World), k ≤ m → k ≤ 9999 → Fn Tryz.prog 48 [.int .i64 (k : Int)] w fun v w' => v = AM (digs k) ∧ w' = w := by
 intro m
 induction m with
 | zero =>
  intro k w hm h9
  obtain rfl : k = 0 := by omega
  refine Aa Tryz.func48 rfl Tryz.ntmps48 (Nat.le_of_ble_eq_true rfl) (by kernel_rfl) ?_
  repeat' first | refine nx rfl ?_ | fail
  refine AA (AB (AT rfl ?_))
  repeat' first | refine nx rfl ?_ | fail
  (refine AA (AI rfl ?_) <;> refine W_rem rfl rfl (by omega) (by omega) ?_ <;> refine BD rfl rfl (by first | exact Ah (by omega) (by omega) | exact Aq (by omega) (by omega) | exact Ai (by omega) (by omega)) ?_)
  refine W_conv (k := .i32) (a := 48) rfl (by exact ⟨by decide, by decide⟩) ?_
  refine W_digit (k := 0) (run_digit 0 (by omega) w) rfl ?_
  ((refine AB ?_; refine AT rfl ?_))
  repeat' first | refine nx rfl ?_ | fail
  (refine AA (AI rfl ?_) <;> (refine Cu rfl rfl (fun hc => ?_) (fun hc => ?_) <;> try omega))
  repeat' first | refine nx rfl ?_ | refine nf rfl ?_
  refine AA (AT rfl (AB (AT rfl ?_)))
  repeat' first | refine nx rfl ?_ | fail
  exact AL rfl ⟨by rw [Cc (by omega)]; rfl, rfl⟩
 | succ m ih =>
  intro k w hm h9
  refine Aa Tryz.func48 rfl Tryz.ntmps48 (Nat.le_of_ble_eq_true rfl) (by kernel_rfl) ?_
  repeat' first | refine nx rfl ?_ | fail
  refine AA (AB (AT rfl ?_))
  repeat' first | refine nx rfl ?_ | fail
  (refine AA (AI rfl ?_) <;> refine W_rem rfl rfl (by omega) (by omega) ?_ <;> refine BD rfl rfl (by first | exact Ah (by omega) (by omega) | exact Aq (by omega) (by omega) | exact Ai (by omega) (by omega)) ?_)
  have em : (48 : Int) + (k : Int) % 10 = 48 + ((k % 10 : Nat) : Int) := by omega
  rw [em]
  refine W_conv (k := .i32) (a := 48 + ((k % 10 : Nat) : Int)) rfl (by exact ⟨by rw [show IntKind.i32.min = -2147483648 from rfl]; omega, by rw [show IntKind.i32.max = 2147483647 from rfl]; omega⟩) ?_
  refine W_digit (k := k % 10) (run_digit (k % 10) (by omega) w) rfl ?_
  ((refine AB ?_; refine AT rfl ?_))
  repeat' first | refine nx rfl ?_ | fail
  by_cases h10 : 10 ≤ k
  ·(refine AA (AI rfl ?_) <;> (refine Cu rfl rfl (fun hc => ?_) (fun hc => ?_) <;> try omega))
   repeat' first | refine nx rfl ?_ | fail
   (refine AA (AI rfl ?_) <;> refine W_quo rfl rfl (by omega) (by omega) (by first | exact Ah (by omega) (by omega) | exact Aq (by omega) (by omega) | exact Ai (by omega) (by omega)) ?_)
   have ed : (k : Int) / 10 = ((k / 10 : Nat) : Int) := by omega
   rw [ed]
   refine AR (ih (k / 10) w (by omega) (by omega)) rfl ?_
   rintro _ w1 ⟨rfl, rfl⟩
   (refine AT rfl ?_)
   have hl := digs_len (n := k / 10) (by omega)
   refine Ar rfl rfl (by simp; omega) ?_
   ((refine AB ?_; refine AT rfl ?_))
   repeat' first | refine nx rfl ?_ | fail
   refine AA (AT rfl (AB (AT rfl ?_)))
   repeat' first | refine nx rfl ?_ | fail
   exact AL rfl ⟨by rw [digs_big h10]; rfl, rfl⟩
  ·(refine AA (AI rfl ?_) <;> (refine Cu rfl rfl (fun hc => ?_) (fun hc => ?_) <;> try omega))
   repeat' first | refine nx rfl ?_ | refine nf rfl ?_
   refine AA (AT rfl (AB (AT rfl ?_)))
   repeat' first | refine nx rfl ?_ | fail
   exact AL rfl ⟨by rw [Cc (by omega), show k % 10 = k by omega]; rfl, rfl⟩
theorem rdigits_ok (w : World) (n : Int) (h0 : 0 ≤ n) (h9 : n ≤ 9999) : Fn Tryz.prog 48 [.int .i64 n] w fun v w' => v = AM (numT n) ∧ w' = w := by
 have e : n = ((n.toNat : Nat) : Int) := by omega
 have := digits_ok n.toNat n.toNat w (Nat.le_refl _) (by omega)
 rw [← e] at this
 exact this
theorem styD_of {op : Int} {s : Sty} (h : BS op = some s) : CO op = s := by unfold CO; rw [h]; rfl
theorem level_else {op : Int} (h1 : op ≠ 1) (h2 : op ≠ 2) (h3 : op ≠ 3) (h5 : op ≠ 5) (h6 : op ≠ 6) (h7 : op ≠ 7) (h9 : op ≠ 9) (h10 : op ≠ 10) (h16 : op ≠ 16) (h17 : op ≠ 17) : (CO op).level = 4 := by
 cases hs : BS op with
 | none => unfold CO; rw [hs]; rfl
 | some s => rcases op_cases hs with h | h | h | h | h | h | h | h | h | h | h | h | h | h | h | h | h | h | h <;> first | exact absurd h (by assumption) | (subst h; rfl)
def CL (op : Int) (n : Nat) : Bool := match BS op with
 | none => false
 | some s => decide (s.least ≤ n) && decide (n ≤ s.most)
theorem args_else {op : Int} {n : Nat} (h : ∀ k : Int, 1 ≤ k → k ≤ 19 → op ≠ k) : CL op n = false := by
 unfold CL
 cases hs : BS op with
 | none => rfl
 | some s => rcases op_cases hs with h' | h' | h' | h' | h' | h' | h' | h' | h' | h' | h' | h' | h' | h' | h' | h' | h' | h' | h' <;> exact absurd h' (h _ (by decide) (by decide))
theorem rlevel_ok (w : World) (op : Int) : Fn Tryz.prog 125 [.int .i64 op] w fun v w' => v = .int .i64 ((CO op).level : Int) ∧ w' = w := by
 refine Aa Tryz.func125 rfl Tryz.ntmps125 (Nat.le_of_ble_eq_true rfl) (by kernel_rfl) ?_
 repeat' first | refine nx rfl ?_ | fail
 by_cases h7 : op = 7
 ·subst h7
  refine AA (AB (AI rfl ?_))
  repeat' first | refine nx rfl ?_ | fail
  refine AA (AI rfl ?_)
  repeat' first | refine nx rfl ?_ | fail
  (refine AA ?_ <;> (refine AH rfl rfl (fun hc => ?_) (fun hc => ?_) <;> try omega) <;> refine AB (AC rfl ?_))
  repeat' first | refine nx rfl ?_ | fail
  refine AA (AB (AI rfl ?_))
  repeat' first | refine nx rfl ?_ | fail
  exact AL rfl ⟨rfl, rfl⟩
 by_cases h6 : op = 6
 ·subst h6
  refine AA (AB (AI rfl ?_))
  repeat' first | refine nx rfl ?_ | fail
  refine AA (AI rfl ?_)
  repeat' first | refine nx rfl ?_ | fail
  (refine AA ?_ <;> (refine AH rfl rfl (fun hc => ?_) (fun hc => ?_) <;> try omega) <;> refine AB (AC rfl ?_))
  repeat' first | refine nx rfl ?_ | refine nf rfl ?_
  (refine AA ?_ <;> (refine AH rfl rfl (fun hc => ?_) (fun hc => ?_) <;> try omega) <;> refine AB (AC rfl ?_))
  repeat' first | refine nx rfl ?_ | fail
  refine AA (AB (AI rfl ?_))
  repeat' first | refine nx rfl ?_ | fail
  exact AL rfl ⟨rfl, rfl⟩
 by_cases h5 : op = 5
 ·subst h5
  refine AA (AB (AI rfl ?_))
  repeat' first | refine nx rfl ?_ | fail
  refine AA (AI rfl ?_)
  repeat' first | refine nx rfl ?_ | fail
  (refine AA ?_ <;> (refine AH rfl rfl (fun hc => ?_) (fun hc => ?_) <;> try omega) <;> refine AB (AC rfl ?_))
  repeat' first | refine nx rfl ?_ | refine nf rfl ?_
  (refine AA ?_ <;> (refine AH rfl rfl (fun hc => ?_) (fun hc => ?_) <;> try omega) <;> refine AB (AC rfl ?_))
  repeat' first | refine nx rfl ?_ | refine nf rfl ?_
  (refine AA ?_ <;> (refine AH rfl rfl (fun hc => ?_) (fun hc => ?_) <;> try omega) <;> refine AB (AC rfl ?_))
  repeat' first | refine nx rfl ?_ | fail
  refine AA (AB (AI rfl ?_))
  repeat' first | refine nx rfl ?_ | fail
  exact AL rfl ⟨rfl, rfl⟩
 by_cases h9 : op = 9
 ·subst h9
  refine AA (AB (AI rfl ?_))
  repeat' first | refine nx rfl ?_ | fail
  refine AA (AI rfl ?_)
  repeat' first | refine nx rfl ?_ | fail
  (refine AA ?_ <;> (refine AH rfl rfl (fun hc => ?_) (fun hc => ?_) <;> try omega) <;> refine AB (AC rfl ?_))
  repeat' first | refine nx rfl ?_ | refine nf rfl ?_
  (refine AA ?_ <;> (refine AH rfl rfl (fun hc => ?_) (fun hc => ?_) <;> try omega) <;> refine AB (AC rfl ?_))
  repeat' first | refine nx rfl ?_ | refine nf rfl ?_
  (refine AA ?_ <;> (refine AH rfl rfl (fun hc => ?_) (fun hc => ?_) <;> try omega) <;> refine AB (AC rfl ?_))
  repeat' first | refine nx rfl ?_ | refine nf rfl ?_
  (refine AA ?_ <;> (refine AH rfl rfl (fun hc => ?_) (fun hc => ?_) <;> try omega) <;> refine AB (AC rfl ?_))
  repeat' first | refine nx rfl ?_ | fail
  refine AA (AB (AI rfl ?_))
  repeat' first | refine nx rfl ?_ | fail
  exact AL rfl ⟨rfl, rfl⟩
 by_cases h10 : op = 10
 ·subst h10
  refine AA (AB (AI rfl ?_))
  repeat' first | refine nx rfl ?_ | fail
  refine AA (AI rfl ?_)
  repeat' first | refine nx rfl ?_ | fail
  (refine AA ?_ <;> (refine AH rfl rfl (fun hc => ?_) (fun hc => ?_) <;> try omega) <;> refine AB (AC rfl ?_))
  repeat' first | refine nx rfl ?_ | refine nf rfl ?_
  (refine AA ?_ <;> (refine AH rfl rfl (fun hc => ?_) (fun hc => ?_) <;> try omega) <;> refine AB (AC rfl ?_))
  repeat' first | refine nx rfl ?_ | refine nf rfl ?_
  (refine AA ?_ <;> (refine AH rfl rfl (fun hc => ?_) (fun hc => ?_) <;> try omega) <;> refine AB (AC rfl ?_))
  repeat' first | refine nx rfl ?_ | refine nf rfl ?_
  (refine AA ?_ <;> (refine AH rfl rfl (fun hc => ?_) (fun hc => ?_) <;> try omega) <;> refine AB (AC rfl ?_))
  repeat' first | refine nx rfl ?_ | refine nf rfl ?_
  (refine AA ?_ <;> (refine AH rfl rfl (fun hc => ?_) (fun hc => ?_) <;> try omega) <;> refine AB (AC rfl ?_))
  repeat' first | refine nx rfl ?_ | fail
  refine AA (AB (AI rfl ?_))
  repeat' first | refine nx rfl ?_ | fail
  exact AL rfl ⟨rfl, rfl⟩
 by_cases h16 : op = 16
 ·subst h16
  refine AA (AB (AI rfl ?_))
  repeat' first | refine nx rfl ?_ | fail
  refine AA (AI rfl ?_)
  repeat' first | refine nx rfl ?_ | fail
  (refine AA ?_ <;> (refine AH rfl rfl (fun hc => ?_) (fun hc => ?_) <;> try omega) <;> refine AB (AC rfl ?_))
  repeat' first | refine nx rfl ?_ | refine nf rfl ?_
  (refine AA ?_ <;> (refine AH rfl rfl (fun hc => ?_) (fun hc => ?_) <;> try omega) <;> refine AB (AC rfl ?_))
  repeat' first | refine nx rfl ?_ | refine nf rfl ?_
  (refine AA ?_ <;> (refine AH rfl rfl (fun hc => ?_) (fun hc => ?_) <;> try omega) <;> refine AB (AC rfl ?_))
  repeat' first | refine nx rfl ?_ | refine nf rfl ?_
  (refine AA ?_ <;> (refine AH rfl rfl (fun hc => ?_) (fun hc => ?_) <;> try omega) <;> refine AB (AC rfl ?_))
  repeat' first | refine nx rfl ?_ | refine nf rfl ?_
  (refine AA ?_ <;> (refine AH rfl rfl (fun hc => ?_) (fun hc => ?_) <;> try omega) <;> refine AB (AC rfl ?_))
  repeat' first | refine nx rfl ?_ | refine nf rfl ?_
  (refine AA ?_ <;> (refine AH rfl rfl (fun hc => ?_) (fun hc => ?_) <;> try omega) <;> refine AB (AC rfl ?_))
  repeat' first | refine nx rfl ?_ | fail
  refine AA (AB (AI rfl ?_))
  repeat' first | refine nx rfl ?_ | fail
  exact AL rfl ⟨rfl, rfl⟩
 by_cases h17 : op = 17
 ·subst h17
  refine AA (AB (AI rfl ?_))
  repeat' first | refine nx rfl ?_ | fail
  refine AA (AI rfl ?_)
  repeat' first | refine nx rfl ?_ | fail
  (refine AA ?_ <;> (refine AH rfl rfl (fun hc => ?_) (fun hc => ?_) <;> try omega) <;> refine AB (AC rfl ?_))
  repeat' first | refine nx rfl ?_ | refine nf rfl ?_
  (refine AA ?_ <;> (refine AH rfl rfl (fun hc => ?_) (fun hc => ?_) <;> try omega) <;> refine AB (AC rfl ?_))
  repeat' first | refine nx rfl ?_ | refine nf rfl ?_
  (refine AA ?_ <;> (refine AH rfl rfl (fun hc => ?_) (fun hc => ?_) <;> try omega) <;> refine AB (AC rfl ?_))
  repeat' first | refine nx rfl ?_ | refine nf rfl ?_
  (refine AA ?_ <;> (refine AH rfl rfl (fun hc => ?_) (fun hc => ?_) <;> try omega) <;> refine AB (AC rfl ?_))
  repeat' first | refine nx rfl ?_ | refine nf rfl ?_
  (refine AA ?_ <;> (refine AH rfl rfl (fun hc => ?_) (fun hc => ?_) <;> try omega) <;> refine AB (AC rfl ?_))
  repeat' first | refine nx rfl ?_ | refine nf rfl ?_
  (refine AA ?_ <;> (refine AH rfl rfl (fun hc => ?_) (fun hc => ?_) <;> try omega) <;> refine AB (AC rfl ?_))
  repeat' first | refine nx rfl ?_ | refine nf rfl ?_
  (refine AA ?_ <;> (refine AH rfl rfl (fun hc => ?_) (fun hc => ?_) <;> try omega) <;> refine AB (AC rfl ?_))
  repeat' first | refine nx rfl ?_ | fail
  refine AA (AB (AI rfl ?_))
  repeat' first | refine nx rfl ?_ | fail
  exact AL rfl ⟨rfl, rfl⟩
 by_cases h1 : op = 1
 ·subst h1
  refine AA (AB (AI rfl ?_))
  repeat' first | refine nx rfl ?_ | fail
  refine AA (AI rfl ?_)
  repeat' first | refine nx rfl ?_ | fail
  (refine AA ?_ <;> (refine AH rfl rfl (fun hc => ?_) (fun hc => ?_) <;> try omega) <;> refine AB (AC rfl ?_))
  repeat' first | refine nx rfl ?_ | refine nf rfl ?_
  (refine AA ?_ <;> (refine AH rfl rfl (fun hc => ?_) (fun hc => ?_) <;> try omega) <;> refine AB (AC rfl ?_))
  repeat' first | refine nx rfl ?_ | refine nf rfl ?_
  (refine AA ?_ <;> (refine AH rfl rfl (fun hc => ?_) (fun hc => ?_) <;> try omega) <;> refine AB (AC rfl ?_))
  repeat' first | refine nx rfl ?_ | refine nf rfl ?_
  (refine AA ?_ <;> (refine AH rfl rfl (fun hc => ?_) (fun hc => ?_) <;> try omega) <;> refine AB (AC rfl ?_))
  repeat' first | refine nx rfl ?_ | refine nf rfl ?_
  (refine AA ?_ <;> (refine AH rfl rfl (fun hc => ?_) (fun hc => ?_) <;> try omega) <;> refine AB (AC rfl ?_))
  repeat' first | refine nx rfl ?_ | refine nf rfl ?_
  (refine AA ?_ <;> (refine AH rfl rfl (fun hc => ?_) (fun hc => ?_) <;> try omega) <;> refine AB (AC rfl ?_))
  repeat' first | refine nx rfl ?_ | refine nf rfl ?_
  (refine AA ?_ <;> (refine AH rfl rfl (fun hc => ?_) (fun hc => ?_) <;> try omega) <;> refine AB (AC rfl ?_))
  repeat' first | refine nx rfl ?_ | refine nf rfl ?_
  (refine AA ?_ <;> (refine AH rfl rfl (fun hc => ?_) (fun hc => ?_) <;> try omega) <;> refine AB (AC rfl ?_))
  repeat' first | refine nx rfl ?_ | fail
  refine AA (AB (AI rfl ?_))
  repeat' first | refine nx rfl ?_ | fail
  exact AL rfl ⟨rfl, rfl⟩
 by_cases h2 : op = 2
 ·subst h2
  refine AA (AB (AI rfl ?_))
  repeat' first | refine nx rfl ?_ | fail
  refine AA (AI rfl ?_)
  repeat' first | refine nx rfl ?_ | fail
  (refine AA ?_ <;> (refine AH rfl rfl (fun hc => ?_) (fun hc => ?_) <;> try omega) <;> refine AB (AC rfl ?_))
  repeat' first | refine nx rfl ?_ | refine nf rfl ?_
  (refine AA ?_ <;> (refine AH rfl rfl (fun hc => ?_) (fun hc => ?_) <;> try omega) <;> refine AB (AC rfl ?_))
  repeat' first | refine nx rfl ?_ | refine nf rfl ?_
  (refine AA ?_ <;> (refine AH rfl rfl (fun hc => ?_) (fun hc => ?_) <;> try omega) <;> refine AB (AC rfl ?_))
  repeat' first | refine nx rfl ?_ | refine nf rfl ?_
  (refine AA ?_ <;> (refine AH rfl rfl (fun hc => ?_) (fun hc => ?_) <;> try omega) <;> refine AB (AC rfl ?_))
  repeat' first | refine nx rfl ?_ | refine nf rfl ?_
  (refine AA ?_ <;> (refine AH rfl rfl (fun hc => ?_) (fun hc => ?_) <;> try omega) <;> refine AB (AC rfl ?_))
  repeat' first | refine nx rfl ?_ | refine nf rfl ?_
  (refine AA ?_ <;> (refine AH rfl rfl (fun hc => ?_) (fun hc => ?_) <;> try omega) <;> refine AB (AC rfl ?_))
  repeat' first | refine nx rfl ?_ | refine nf rfl ?_
  (refine AA ?_ <;> (refine AH rfl rfl (fun hc => ?_) (fun hc => ?_) <;> try omega) <;> refine AB (AC rfl ?_))
  repeat' first | refine nx rfl ?_ | refine nf rfl ?_
  (refine AA ?_ <;> (refine AH rfl rfl (fun hc => ?_) (fun hc => ?_) <;> try omega) <;> refine AB (AC rfl ?_))
  repeat' first | refine nx rfl ?_ | refine nf rfl ?_
  (refine AA ?_ <;> (refine AH rfl rfl (fun hc => ?_) (fun hc => ?_) <;> try omega) <;> refine AB (AC rfl ?_))
  repeat' first | refine nx rfl ?_ | fail
  refine AA (AB (AI rfl ?_))
  repeat' first | refine nx rfl ?_ | fail
  exact AL rfl ⟨rfl, rfl⟩
 by_cases h3 : op = 3
 ·subst h3
  refine AA (AB (AI rfl ?_))
  repeat' first | refine nx rfl ?_ | fail
  refine AA (AI rfl ?_)
  repeat' first | refine nx rfl ?_ | fail
  (refine AA ?_ <;> (refine AH rfl rfl (fun hc => ?_) (fun hc => ?_) <;> try omega) <;> refine AB (AC rfl ?_))
  repeat' first | refine nx rfl ?_ | refine nf rfl ?_
  (refine AA ?_ <;> (refine AH rfl rfl (fun hc => ?_) (fun hc => ?_) <;> try omega) <;> refine AB (AC rfl ?_))
  repeat' first | refine nx rfl ?_ | refine nf rfl ?_
  (refine AA ?_ <;> (refine AH rfl rfl (fun hc => ?_) (fun hc => ?_) <;> try omega) <;> refine AB (AC rfl ?_))
  repeat' first | refine nx rfl ?_ | refine nf rfl ?_
  (refine AA ?_ <;> (refine AH rfl rfl (fun hc => ?_) (fun hc => ?_) <;> try omega) <;> refine AB (AC rfl ?_))
  repeat' first | refine nx rfl ?_ | refine nf rfl ?_
  (refine AA ?_ <;> (refine AH rfl rfl (fun hc => ?_) (fun hc => ?_) <;> try omega) <;> refine AB (AC rfl ?_))
  repeat' first | refine nx rfl ?_ | refine nf rfl ?_
  (refine AA ?_ <;> (refine AH rfl rfl (fun hc => ?_) (fun hc => ?_) <;> try omega) <;> refine AB (AC rfl ?_))
  repeat' first | refine nx rfl ?_ | refine nf rfl ?_
  (refine AA ?_ <;> (refine AH rfl rfl (fun hc => ?_) (fun hc => ?_) <;> try omega) <;> refine AB (AC rfl ?_))
  repeat' first | refine nx rfl ?_ | refine nf rfl ?_
  (refine AA ?_ <;> (refine AH rfl rfl (fun hc => ?_) (fun hc => ?_) <;> try omega) <;> refine AB (AC rfl ?_))
  repeat' first | refine nx rfl ?_ | refine nf rfl ?_
  (refine AA ?_ <;> (refine AH rfl rfl (fun hc => ?_) (fun hc => ?_) <;> try omega) <;> refine AB (AC rfl ?_))
  repeat' first | refine nx rfl ?_ | refine nf rfl ?_
  (refine AA ?_ <;> (refine AH rfl rfl (fun hc => ?_) (fun hc => ?_) <;> try omega) <;> refine AB (AC rfl ?_))
  repeat' first | refine nx rfl ?_ | fail
  refine AA (AB (AI rfl ?_))
  repeat' first | refine nx rfl ?_ | fail
  exact AL rfl ⟨rfl, rfl⟩
 refine AA (AB (AI rfl ?_))
 repeat' first | refine nx rfl ?_ | fail
 refine AA (AI rfl ?_)
 repeat' first | refine nx rfl ?_ | fail
 (refine AA ?_ <;> (refine AH rfl rfl (fun hc => ?_) (fun hc => ?_) <;> try omega) <;> refine AB (AC rfl ?_))
 repeat' first | refine nx rfl ?_ | refine nf rfl ?_
 (refine AA ?_ <;> (refine AH rfl rfl (fun hc => ?_) (fun hc => ?_) <;> try omega) <;> refine AB (AC rfl ?_))
 repeat' first | refine nx rfl ?_ | refine nf rfl ?_
 (refine AA ?_ <;> (refine AH rfl rfl (fun hc => ?_) (fun hc => ?_) <;> try omega) <;> refine AB (AC rfl ?_))
 repeat' first | refine nx rfl ?_ | refine nf rfl ?_
 (refine AA ?_ <;> (refine AH rfl rfl (fun hc => ?_) (fun hc => ?_) <;> try omega) <;> refine AB (AC rfl ?_))
 repeat' first | refine nx rfl ?_ | refine nf rfl ?_
 (refine AA ?_ <;> (refine AH rfl rfl (fun hc => ?_) (fun hc => ?_) <;> try omega) <;> refine AB (AC rfl ?_))
 repeat' first | refine nx rfl ?_ | refine nf rfl ?_
 (refine AA ?_ <;> (refine AH rfl rfl (fun hc => ?_) (fun hc => ?_) <;> try omega) <;> refine AB (AC rfl ?_))
 repeat' first | refine nx rfl ?_ | refine nf rfl ?_
 (refine AA ?_ <;> (refine AH rfl rfl (fun hc => ?_) (fun hc => ?_) <;> try omega) <;> refine AB (AC rfl ?_))
 repeat' first | refine nx rfl ?_ | refine nf rfl ?_
 (refine AA ?_ <;> (refine AH rfl rfl (fun hc => ?_) (fun hc => ?_) <;> try omega) <;> refine AB (AC rfl ?_))
 repeat' first | refine nx rfl ?_ | refine nf rfl ?_
 (refine AA ?_ <;> (refine AH rfl rfl (fun hc => ?_) (fun hc => ?_) <;> try omega) <;> refine AB (AC rfl ?_))
 repeat' first | refine nx rfl ?_ | refine nf rfl ?_
 (refine AA ?_ <;> (refine AH rfl rfl (fun hc => ?_) (fun hc => ?_) <;> try omega) <;> refine AB (AC rfl ?_))
 repeat' first | refine nx rfl ?_ | refine nf rfl ?_
 refine AA (AB (AI rfl ?_))
 repeat' first | refine nx rfl ?_ | fail
 exact AL rfl ⟨by rw [level_else h1 h2 h3 h5 h6 h7 h9 h10 h16 h17]; rfl, rfl⟩
theorem rargs_ok (w : World) (op : Int) (n : Nat) (hn : n ≤ 1000000) : Fn Tryz.prog 52 [.int .i64 op, .int .i64 (n : Int)] w fun v w1 => v = .bool (CL op n) ∧ w1 = w := by
 refine Aa Tryz.func52 rfl Tryz.ntmps52 (Nat.le_of_ble_eq_true rfl) (by kernel_rfl) ?_
 repeat' first | refine nx rfl ?_ | fail
 by_cases h1 : op = 1
 ·subst h1
  refine AA (AB (AC rfl ?_))
  repeat' first | refine nx rfl ?_ | fail
  refine AA (AI rfl ?_)
  repeat' first | refine nx rfl ?_ | fail
  (refine AA ?_ <;> (refine AH rfl rfl (fun hc => ?_) (fun hc => ?_) <;> try omega) <;> refine AB (AC rfl ?_))
  repeat' first | refine nx rfl ?_ | fail
  (refine AA (AI rfl ?_) <;> (refine AH rfl rfl (fun hc => ?_) (fun hc => ?_) <;> try omega) <;> refine AB (AC rfl (AE ?_)))
  all_goals
   repeat' first | refine nx rfl ?_ | fail
   exact AL rfl ⟨congrArg Value.bool (by simp [CL, BS, styL, List.lookup, many]; try omega), rfl⟩
 by_cases h2 : op = 2
 ·subst h2
  refine AA (AB (AC rfl ?_))
  repeat' first | refine nx rfl ?_ | fail
  refine AA (AI rfl ?_)
  repeat' first | refine nx rfl ?_ | fail
  (refine AA ?_ <;> (refine AH rfl rfl (fun hc => ?_) (fun hc => ?_) <;> try omega) <;> refine AB (AC rfl ?_))
  repeat' first | refine nx rfl ?_ | refine nf rfl ?_
  (refine AA ?_ <;> (refine AH rfl rfl (fun hc => ?_) (fun hc => ?_) <;> try omega) <;> refine AB (AC rfl ?_))
  repeat' first | refine nx rfl ?_ | fail
  (refine AA (AI rfl ?_) <;> (refine AH rfl rfl (fun hc => ?_) (fun hc => ?_) <;> try omega) <;> refine AB (AC rfl (AE ?_)))
  all_goals
   repeat' first | refine nx rfl ?_ | fail
   exact AL rfl ⟨congrArg Value.bool (by simp [CL, BS, styL, List.lookup, many]; try omega), rfl⟩
 by_cases h3 : op = 3
 ·subst h3
  refine AA (AB (AC rfl ?_))
  repeat' first | refine nx rfl ?_ | fail
  refine AA (AI rfl ?_)
  repeat' first | refine nx rfl ?_ | fail
  (refine AA ?_ <;> (refine AH rfl rfl (fun hc => ?_) (fun hc => ?_) <;> try omega) <;> refine AB (AC rfl ?_))
  repeat' first | refine nx rfl ?_ | refine nf rfl ?_
  (refine AA ?_ <;> (refine AH rfl rfl (fun hc => ?_) (fun hc => ?_) <;> try omega) <;> refine AB (AC rfl ?_))
  repeat' first | refine nx rfl ?_ | refine nf rfl ?_
  (refine AA ?_ <;> (refine AH rfl rfl (fun hc => ?_) (fun hc => ?_) <;> try omega) <;> refine AB (AC rfl ?_))
  repeat' first | refine nx rfl ?_ | fail
  (refine AA (AI rfl ?_) <;> (refine AH rfl rfl (fun hc => ?_) (fun hc => ?_) <;> try omega) <;> refine AB (AC rfl (AE ?_)))
  all_goals
   repeat' first | refine nx rfl ?_ | fail
   exact AL rfl ⟨congrArg Value.bool (by simp [CL, BS, styL, List.lookup, many]; try omega), rfl⟩
 by_cases h4 : op = 4
 ·subst h4
  refine AA (AB (AC rfl ?_))
  repeat' first | refine nx rfl ?_ | fail
  refine AA (AI rfl ?_)
  repeat' first | refine nx rfl ?_ | fail
  (refine AA ?_ <;> (refine AH rfl rfl (fun hc => ?_) (fun hc => ?_) <;> try omega) <;> refine AB (AC rfl ?_))
  repeat' first | refine nx rfl ?_ | refine nf rfl ?_
  (refine AA ?_ <;> (refine AH rfl rfl (fun hc => ?_) (fun hc => ?_) <;> try omega) <;> refine AB (AC rfl ?_))
  repeat' first | refine nx rfl ?_ | refine nf rfl ?_
  (refine AA ?_ <;> (refine AH rfl rfl (fun hc => ?_) (fun hc => ?_) <;> try omega) <;> refine AB (AC rfl ?_))
  repeat' first | refine nx rfl ?_ | refine nf rfl ?_
  (refine AA ?_ <;> (refine AH rfl rfl (fun hc => ?_) (fun hc => ?_) <;> try omega) <;> refine AB (AC rfl ?_))
  repeat' first | refine nx rfl ?_ | fail
  (refine AA (AI rfl ?_) <;> (refine AH rfl rfl (fun hc => ?_) (fun hc => ?_) <;> try omega) <;> refine AB (AC rfl (AE ?_)))
  all_goals
   repeat' first | refine nx rfl ?_ | fail
   exact AL rfl ⟨congrArg Value.bool (by simp [CL, BS, styL, List.lookup, many]; try omega), rfl⟩
 by_cases h8 : op = 8
 ·subst h8
  refine AA (AB (AC rfl ?_))
  repeat' first | refine nx rfl ?_ | fail
  refine AA (AI rfl ?_)
  repeat' first | refine nx rfl ?_ | fail
  (refine AA ?_ <;> (refine AH rfl rfl (fun hc => ?_) (fun hc => ?_) <;> try omega) <;> refine AB (AC rfl ?_))
  repeat' first | refine nx rfl ?_ | refine nf rfl ?_
  (refine AA ?_ <;> (refine AH rfl rfl (fun hc => ?_) (fun hc => ?_) <;> try omega) <;> refine AB (AC rfl ?_))
  repeat' first | refine nx rfl ?_ | refine nf rfl ?_
  (refine AA ?_ <;> (refine AH rfl rfl (fun hc => ?_) (fun hc => ?_) <;> try omega) <;> refine AB (AC rfl ?_))
  repeat' first | refine nx rfl ?_ | refine nf rfl ?_
  (refine AA ?_ <;> (refine AH rfl rfl (fun hc => ?_) (fun hc => ?_) <;> try omega) <;> refine AB (AC rfl ?_))
  repeat' first | refine nx rfl ?_ | refine nf rfl ?_
  (refine AA ?_ <;> (refine AH rfl rfl (fun hc => ?_) (fun hc => ?_) <;> try omega) <;> refine AB (AC rfl ?_))
  repeat' first | refine nx rfl ?_ | fail
  (refine AA (AI rfl ?_) <;> (refine AH rfl rfl (fun hc => ?_) (fun hc => ?_) <;> try omega) <;> refine AB (AC rfl (AE ?_)))
  all_goals
   repeat' first | refine nx rfl ?_ | fail
   exact AL rfl ⟨congrArg Value.bool (by simp [CL, BS, styL, List.lookup, many]; try omega), rfl⟩
 by_cases h11 : op = 11
 ·subst h11
  refine AA (AB (AC rfl ?_))
  repeat' first | refine nx rfl ?_ | fail
  refine AA (AI rfl ?_)
  repeat' first | refine nx rfl ?_ | fail
  (refine AA ?_ <;> (refine AH rfl rfl (fun hc => ?_) (fun hc => ?_) <;> try omega) <;> refine AB (AC rfl ?_))
  repeat' first | refine nx rfl ?_ | refine nf rfl ?_
  (refine AA ?_ <;> (refine AH rfl rfl (fun hc => ?_) (fun hc => ?_) <;> try omega) <;> refine AB (AC rfl ?_))
  repeat' first | refine nx rfl ?_ | refine nf rfl ?_
  (refine AA ?_ <;> (refine AH rfl rfl (fun hc => ?_) (fun hc => ?_) <;> try omega) <;> refine AB (AC rfl ?_))
  repeat' first | refine nx rfl ?_ | refine nf rfl ?_
  (refine AA ?_ <;> (refine AH rfl rfl (fun hc => ?_) (fun hc => ?_) <;> try omega) <;> refine AB (AC rfl ?_))
  repeat' first | refine nx rfl ?_ | refine nf rfl ?_
  (refine AA ?_ <;> (refine AH rfl rfl (fun hc => ?_) (fun hc => ?_) <;> try omega) <;> refine AB (AC rfl ?_))
  repeat' first | refine nx rfl ?_ | refine nf rfl ?_
  (refine AA ?_ <;> (refine AH rfl rfl (fun hc => ?_) (fun hc => ?_) <;> try omega) <;> refine AB (AC rfl ?_))
  repeat' first | refine nx rfl ?_ | fail
  (refine AA (AI rfl ?_) <;> (refine AH rfl rfl (fun hc => ?_) (fun hc => ?_) <;> try omega) <;> refine AB (AC rfl (AE ?_)))
  all_goals
   repeat' first | refine nx rfl ?_ | fail
   exact AL rfl ⟨congrArg Value.bool (by simp [CL, BS, styL, List.lookup, many]; try omega), rfl⟩
 by_cases h12 : op = 12
 ·subst h12
  refine AA (AB (AC rfl ?_))
  repeat' first | refine nx rfl ?_ | fail
  refine AA (AI rfl ?_)
  repeat' first | refine nx rfl ?_ | fail
  (refine AA ?_ <;> (refine AH rfl rfl (fun hc => ?_) (fun hc => ?_) <;> try omega) <;> refine AB (AC rfl ?_))
  repeat' first | refine nx rfl ?_ | refine nf rfl ?_
  (refine AA ?_ <;> (refine AH rfl rfl (fun hc => ?_) (fun hc => ?_) <;> try omega) <;> refine AB (AC rfl ?_))
  repeat' first | refine nx rfl ?_ | refine nf rfl ?_
  (refine AA ?_ <;> (refine AH rfl rfl (fun hc => ?_) (fun hc => ?_) <;> try omega) <;> refine AB (AC rfl ?_))
  repeat' first | refine nx rfl ?_ | refine nf rfl ?_
  (refine AA ?_ <;> (refine AH rfl rfl (fun hc => ?_) (fun hc => ?_) <;> try omega) <;> refine AB (AC rfl ?_))
  repeat' first | refine nx rfl ?_ | refine nf rfl ?_
  (refine AA ?_ <;> (refine AH rfl rfl (fun hc => ?_) (fun hc => ?_) <;> try omega) <;> refine AB (AC rfl ?_))
  repeat' first | refine nx rfl ?_ | refine nf rfl ?_
  (refine AA ?_ <;> (refine AH rfl rfl (fun hc => ?_) (fun hc => ?_) <;> try omega) <;> refine AB (AC rfl ?_))
  repeat' first | refine nx rfl ?_ | refine nf rfl ?_
  (refine AA ?_ <;> (refine AH rfl rfl (fun hc => ?_) (fun hc => ?_) <;> try omega) <;> refine AB (AC rfl ?_))
  repeat' first | refine nx rfl ?_ | fail
  (refine AA (AI rfl ?_) <;> (refine AH rfl rfl (fun hc => ?_) (fun hc => ?_) <;> try omega) <;> refine AB (AC rfl (AE ?_)))
  all_goals
   repeat' first | refine nx rfl ?_ | fail
   exact AL rfl ⟨congrArg Value.bool (by simp [CL, BS, styL, List.lookup, many]; try omega), rfl⟩
 by_cases h13 : op = 13
 ·subst h13
  refine AA (AB (AC rfl ?_))
  repeat' first | refine nx rfl ?_ | fail
  refine AA (AI rfl ?_)
  repeat' first | refine nx rfl ?_ | fail
  (refine AA ?_ <;> (refine AH rfl rfl (fun hc => ?_) (fun hc => ?_) <;> try omega) <;> refine AB (AC rfl ?_))
  repeat' first | refine nx rfl ?_ | refine nf rfl ?_
  (refine AA ?_ <;> (refine AH rfl rfl (fun hc => ?_) (fun hc => ?_) <;> try omega) <;> refine AB (AC rfl ?_))
  repeat' first | refine nx rfl ?_ | refine nf rfl ?_
  (refine AA ?_ <;> (refine AH rfl rfl (fun hc => ?_) (fun hc => ?_) <;> try omega) <;> refine AB (AC rfl ?_))
  repeat' first | refine nx rfl ?_ | refine nf rfl ?_
  (refine AA ?_ <;> (refine AH rfl rfl (fun hc => ?_) (fun hc => ?_) <;> try omega) <;> refine AB (AC rfl ?_))
  repeat' first | refine nx rfl ?_ | refine nf rfl ?_
  (refine AA ?_ <;> (refine AH rfl rfl (fun hc => ?_) (fun hc => ?_) <;> try omega) <;> refine AB (AC rfl ?_))
  repeat' first | refine nx rfl ?_ | refine nf rfl ?_
  (refine AA ?_ <;> (refine AH rfl rfl (fun hc => ?_) (fun hc => ?_) <;> try omega) <;> refine AB (AC rfl ?_))
  repeat' first | refine nx rfl ?_ | refine nf rfl ?_
  (refine AA ?_ <;> (refine AH rfl rfl (fun hc => ?_) (fun hc => ?_) <;> try omega) <;> refine AB (AC rfl ?_))
  repeat' first | refine nx rfl ?_ | refine nf rfl ?_
  (refine AA ?_ <;> (refine AH rfl rfl (fun hc => ?_) (fun hc => ?_) <;> try omega) <;> refine AB (AC rfl ?_))
  repeat' first | refine nx rfl ?_ | fail
  (refine AA (AI rfl ?_) <;> (refine AH rfl rfl (fun hc => ?_) (fun hc => ?_) <;> try omega) <;> refine AB (AC rfl (AE ?_)))
  all_goals
   repeat' first | refine nx rfl ?_ | fail
   exact AL rfl ⟨congrArg Value.bool (by simp [CL, BS, styL, List.lookup, many]; try omega), rfl⟩
 by_cases h14 : op = 14
 ·subst h14
  refine AA (AB (AC rfl ?_))
  repeat' first | refine nx rfl ?_ | fail
  refine AA (AI rfl ?_)
  repeat' first | refine nx rfl ?_ | fail
  (refine AA ?_ <;> (refine AH rfl rfl (fun hc => ?_) (fun hc => ?_) <;> try omega) <;> refine AB (AC rfl ?_))
  repeat' first | refine nx rfl ?_ | refine nf rfl ?_
  (refine AA ?_ <;> (refine AH rfl rfl (fun hc => ?_) (fun hc => ?_) <;> try omega) <;> refine AB (AC rfl ?_))
  repeat' first | refine nx rfl ?_ | refine nf rfl ?_
  (refine AA ?_ <;> (refine AH rfl rfl (fun hc => ?_) (fun hc => ?_) <;> try omega) <;> refine AB (AC rfl ?_))
  repeat' first | refine nx rfl ?_ | refine nf rfl ?_
  (refine AA ?_ <;> (refine AH rfl rfl (fun hc => ?_) (fun hc => ?_) <;> try omega) <;> refine AB (AC rfl ?_))
  repeat' first | refine nx rfl ?_ | refine nf rfl ?_
  (refine AA ?_ <;> (refine AH rfl rfl (fun hc => ?_) (fun hc => ?_) <;> try omega) <;> refine AB (AC rfl ?_))
  repeat' first | refine nx rfl ?_ | refine nf rfl ?_
  (refine AA ?_ <;> (refine AH rfl rfl (fun hc => ?_) (fun hc => ?_) <;> try omega) <;> refine AB (AC rfl ?_))
  repeat' first | refine nx rfl ?_ | refine nf rfl ?_
  (refine AA ?_ <;> (refine AH rfl rfl (fun hc => ?_) (fun hc => ?_) <;> try omega) <;> refine AB (AC rfl ?_))
  repeat' first | refine nx rfl ?_ | refine nf rfl ?_
  (refine AA ?_ <;> (refine AH rfl rfl (fun hc => ?_) (fun hc => ?_) <;> try omega) <;> refine AB (AC rfl ?_))
  repeat' first | refine nx rfl ?_ | refine nf rfl ?_
  (refine AA ?_ <;> (refine AH rfl rfl (fun hc => ?_) (fun hc => ?_) <;> try omega) <;> refine AB (AC rfl ?_))
  repeat' first | refine nx rfl ?_ | fail
  (refine AA (AI rfl ?_) <;> (refine AH rfl rfl (fun hc => ?_) (fun hc => ?_) <;> try omega) <;> refine AB (AC rfl (AE ?_)))
  all_goals
   repeat' first | refine nx rfl ?_ | fail
   exact AL rfl ⟨congrArg Value.bool (by simp [CL, BS, styL, List.lookup, many]; try omega), rfl⟩
 by_cases h15 : op = 15
 ·subst h15
  refine AA (AB (AC rfl ?_))
  repeat' first | refine nx rfl ?_ | fail
  refine AA (AI rfl ?_)
  repeat' first | refine nx rfl ?_ | fail
  (refine AA ?_ <;> (refine AH rfl rfl (fun hc => ?_) (fun hc => ?_) <;> try omega) <;> refine AB (AC rfl ?_))
  repeat' first | refine nx rfl ?_ | refine nf rfl ?_
  (refine AA ?_ <;> (refine AH rfl rfl (fun hc => ?_) (fun hc => ?_) <;> try omega) <;> refine AB (AC rfl ?_))
  repeat' first | refine nx rfl ?_ | refine nf rfl ?_
  (refine AA ?_ <;> (refine AH rfl rfl (fun hc => ?_) (fun hc => ?_) <;> try omega) <;> refine AB (AC rfl ?_))
  repeat' first | refine nx rfl ?_ | refine nf rfl ?_
  (refine AA ?_ <;> (refine AH rfl rfl (fun hc => ?_) (fun hc => ?_) <;> try omega) <;> refine AB (AC rfl ?_))
  repeat' first | refine nx rfl ?_ | refine nf rfl ?_
  (refine AA ?_ <;> (refine AH rfl rfl (fun hc => ?_) (fun hc => ?_) <;> try omega) <;> refine AB (AC rfl ?_))
  repeat' first | refine nx rfl ?_ | refine nf rfl ?_
  (refine AA ?_ <;> (refine AH rfl rfl (fun hc => ?_) (fun hc => ?_) <;> try omega) <;> refine AB (AC rfl ?_))
  repeat' first | refine nx rfl ?_ | refine nf rfl ?_
  (refine AA ?_ <;> (refine AH rfl rfl (fun hc => ?_) (fun hc => ?_) <;> try omega) <;> refine AB (AC rfl ?_))
  repeat' first | refine nx rfl ?_ | refine nf rfl ?_
  (refine AA ?_ <;> (refine AH rfl rfl (fun hc => ?_) (fun hc => ?_) <;> try omega) <;> refine AB (AC rfl ?_))
  repeat' first | refine nx rfl ?_ | refine nf rfl ?_
  (refine AA ?_ <;> (refine AH rfl rfl (fun hc => ?_) (fun hc => ?_) <;> try omega) <;> refine AB (AC rfl ?_))
  repeat' first | refine nx rfl ?_ | refine nf rfl ?_
  (refine AA ?_ <;> (refine AH rfl rfl (fun hc => ?_) (fun hc => ?_) <;> try omega) <;> refine AB (AC rfl ?_))
  repeat' first | refine nx rfl ?_ | fail
  (refine AA (AI rfl ?_) <;> (refine AH rfl rfl (fun hc => ?_) (fun hc => ?_) <;> try omega) <;> refine AB (AC rfl (AE ?_)))
  all_goals
   repeat' first | refine nx rfl ?_ | fail
   exact AL rfl ⟨congrArg Value.bool (by simp [CL, BS, styL, List.lookup, many]; try omega), rfl⟩
 by_cases h18 : op = 18
 ·subst h18
  refine AA (AB (AC rfl ?_))
  repeat' first | refine nx rfl ?_ | fail
  refine AA (AI rfl ?_)
  repeat' first | refine nx rfl ?_ | fail
  (refine AA ?_ <;> (refine AH rfl rfl (fun hc => ?_) (fun hc => ?_) <;> try omega) <;> refine AB (AC rfl ?_))
  repeat' first | refine nx rfl ?_ | refine nf rfl ?_
  (refine AA ?_ <;> (refine AH rfl rfl (fun hc => ?_) (fun hc => ?_) <;> try omega) <;> refine AB (AC rfl ?_))
  repeat' first | refine nx rfl ?_ | refine nf rfl ?_
  (refine AA ?_ <;> (refine AH rfl rfl (fun hc => ?_) (fun hc => ?_) <;> try omega) <;> refine AB (AC rfl ?_))
  repeat' first | refine nx rfl ?_ | refine nf rfl ?_
  (refine AA ?_ <;> (refine AH rfl rfl (fun hc => ?_) (fun hc => ?_) <;> try omega) <;> refine AB (AC rfl ?_))
  repeat' first | refine nx rfl ?_ | refine nf rfl ?_
  (refine AA ?_ <;> (refine AH rfl rfl (fun hc => ?_) (fun hc => ?_) <;> try omega) <;> refine AB (AC rfl ?_))
  repeat' first | refine nx rfl ?_ | refine nf rfl ?_
  (refine AA ?_ <;> (refine AH rfl rfl (fun hc => ?_) (fun hc => ?_) <;> try omega) <;> refine AB (AC rfl ?_))
  repeat' first | refine nx rfl ?_ | refine nf rfl ?_
  (refine AA ?_ <;> (refine AH rfl rfl (fun hc => ?_) (fun hc => ?_) <;> try omega) <;> refine AB (AC rfl ?_))
  repeat' first | refine nx rfl ?_ | refine nf rfl ?_
  (refine AA ?_ <;> (refine AH rfl rfl (fun hc => ?_) (fun hc => ?_) <;> try omega) <;> refine AB (AC rfl ?_))
  repeat' first | refine nx rfl ?_ | refine nf rfl ?_
  (refine AA ?_ <;> (refine AH rfl rfl (fun hc => ?_) (fun hc => ?_) <;> try omega) <;> refine AB (AC rfl ?_))
  repeat' first | refine nx rfl ?_ | refine nf rfl ?_
  (refine AA ?_ <;> (refine AH rfl rfl (fun hc => ?_) (fun hc => ?_) <;> try omega) <;> refine AB (AC rfl ?_))
  repeat' first | refine nx rfl ?_ | refine nf rfl ?_
  (refine AA ?_ <;> (refine AH rfl rfl (fun hc => ?_) (fun hc => ?_) <;> try omega) <;> refine AB (AC rfl ?_))
  repeat' first | refine nx rfl ?_ | fail
  (refine AA (AI rfl ?_) <;> (refine AH rfl rfl (fun hc => ?_) (fun hc => ?_) <;> try omega) <;> refine AB (AC rfl (AE ?_)))
  all_goals
   repeat' first | refine nx rfl ?_ | fail
   exact AL rfl ⟨congrArg Value.bool (by simp [CL, BS, styL, List.lookup, many]; try omega), rfl⟩
 by_cases h19 : op = 19
 ·subst h19
  refine AA (AB (AC rfl ?_))
  repeat' first | refine nx rfl ?_ | fail
  refine AA (AI rfl ?_)
  repeat' first | refine nx rfl ?_ | fail
  (refine AA ?_ <;> (refine AH rfl rfl (fun hc => ?_) (fun hc => ?_) <;> try omega) <;> refine AB (AC rfl ?_))
  repeat' first | refine nx rfl ?_ | refine nf rfl ?_
  (refine AA ?_ <;> (refine AH rfl rfl (fun hc => ?_) (fun hc => ?_) <;> try omega) <;> refine AB (AC rfl ?_))
  repeat' first | refine nx rfl ?_ | refine nf rfl ?_
  (refine AA ?_ <;> (refine AH rfl rfl (fun hc => ?_) (fun hc => ?_) <;> try omega) <;> refine AB (AC rfl ?_))
  repeat' first | refine nx rfl ?_ | refine nf rfl ?_
  (refine AA ?_ <;> (refine AH rfl rfl (fun hc => ?_) (fun hc => ?_) <;> try omega) <;> refine AB (AC rfl ?_))
  repeat' first | refine nx rfl ?_ | refine nf rfl ?_
  (refine AA ?_ <;> (refine AH rfl rfl (fun hc => ?_) (fun hc => ?_) <;> try omega) <;> refine AB (AC rfl ?_))
  repeat' first | refine nx rfl ?_ | refine nf rfl ?_
  (refine AA ?_ <;> (refine AH rfl rfl (fun hc => ?_) (fun hc => ?_) <;> try omega) <;> refine AB (AC rfl ?_))
  repeat' first | refine nx rfl ?_ | refine nf rfl ?_
  (refine AA ?_ <;> (refine AH rfl rfl (fun hc => ?_) (fun hc => ?_) <;> try omega) <;> refine AB (AC rfl ?_))
  repeat' first | refine nx rfl ?_ | refine nf rfl ?_
  (refine AA ?_ <;> (refine AH rfl rfl (fun hc => ?_) (fun hc => ?_) <;> try omega) <;> refine AB (AC rfl ?_))
  repeat' first | refine nx rfl ?_ | refine nf rfl ?_
  (refine AA ?_ <;> (refine AH rfl rfl (fun hc => ?_) (fun hc => ?_) <;> try omega) <;> refine AB (AC rfl ?_))
  repeat' first | refine nx rfl ?_ | refine nf rfl ?_
  (refine AA ?_ <;> (refine AH rfl rfl (fun hc => ?_) (fun hc => ?_) <;> try omega) <;> refine AB (AC rfl ?_))
  repeat' first | refine nx rfl ?_ | refine nf rfl ?_
  (refine AA ?_ <;> (refine AH rfl rfl (fun hc => ?_) (fun hc => ?_) <;> try omega) <;> refine AB (AC rfl ?_))
  repeat' first | refine nx rfl ?_ | refine nf rfl ?_
  (refine AA ?_ <;> (refine AH rfl rfl (fun hc => ?_) (fun hc => ?_) <;> try omega) <;> refine AB (AC rfl ?_))
  repeat' first | refine nx rfl ?_ | fail
  (refine AA (AI rfl ?_) <;> (refine AH rfl rfl (fun hc => ?_) (fun hc => ?_) <;> try omega) <;> refine AB (AC rfl (AE ?_)))
  all_goals
   repeat' first | refine nx rfl ?_ | fail
   exact AL rfl ⟨congrArg Value.bool (by simp [CL, BS, styL, List.lookup, many]; try omega), rfl⟩
 by_cases h7 : op = 7
 ·subst h7
  refine AA (AB (AC rfl ?_))
  repeat' first | refine nx rfl ?_ | fail
  refine AA (AI rfl ?_)
  repeat' first | refine nx rfl ?_ | fail
  (refine AA ?_ <;> (refine AH rfl rfl (fun hc => ?_) (fun hc => ?_) <;> try omega) <;> refine AB (AC rfl ?_))
  repeat' first | refine nx rfl ?_ | refine nf rfl ?_
  (refine AA ?_ <;> (refine AH rfl rfl (fun hc => ?_) (fun hc => ?_) <;> try omega) <;> refine AB (AC rfl ?_))
  repeat' first | refine nx rfl ?_ | refine nf rfl ?_
  (refine AA ?_ <;> (refine AH rfl rfl (fun hc => ?_) (fun hc => ?_) <;> try omega) <;> refine AB (AC rfl ?_))
  repeat' first | refine nx rfl ?_ | refine nf rfl ?_
  (refine AA ?_ <;> (refine AH rfl rfl (fun hc => ?_) (fun hc => ?_) <;> try omega) <;> refine AB (AC rfl ?_))
  repeat' first | refine nx rfl ?_ | refine nf rfl ?_
  (refine AA ?_ <;> (refine AH rfl rfl (fun hc => ?_) (fun hc => ?_) <;> try omega) <;> refine AB (AC rfl ?_))
  repeat' first | refine nx rfl ?_ | refine nf rfl ?_
  (refine AA ?_ <;> (refine AH rfl rfl (fun hc => ?_) (fun hc => ?_) <;> try omega) <;> refine AB (AC rfl ?_))
  repeat' first | refine nx rfl ?_ | refine nf rfl ?_
  (refine AA ?_ <;> (refine AH rfl rfl (fun hc => ?_) (fun hc => ?_) <;> try omega) <;> refine AB (AC rfl ?_))
  repeat' first | refine nx rfl ?_ | refine nf rfl ?_
  (refine AA ?_ <;> (refine AH rfl rfl (fun hc => ?_) (fun hc => ?_) <;> try omega) <;> refine AB (AC rfl ?_))
  repeat' first | refine nx rfl ?_ | refine nf rfl ?_
  (refine AA ?_ <;> (refine AH rfl rfl (fun hc => ?_) (fun hc => ?_) <;> try omega) <;> refine AB (AC rfl ?_))
  repeat' first | refine nx rfl ?_ | refine nf rfl ?_
  (refine AA ?_ <;> (refine AH rfl rfl (fun hc => ?_) (fun hc => ?_) <;> try omega) <;> refine AB (AC rfl ?_))
  repeat' first | refine nx rfl ?_ | refine nf rfl ?_
  (refine AA ?_ <;> (refine AH rfl rfl (fun hc => ?_) (fun hc => ?_) <;> try omega) <;> refine AB (AC rfl ?_))
  repeat' first | refine nx rfl ?_ | refine nf rfl ?_
  (refine AA ?_ <;> (refine AH rfl rfl (fun hc => ?_) (fun hc => ?_) <;> try omega) <;> refine AB (AC rfl ?_))
  repeat' first | refine nx rfl ?_ | refine nf rfl ?_
  (refine AA ?_ <;> (refine AH rfl rfl (fun hc => ?_) (fun hc => ?_) <;> try omega) <;> refine AB (AC rfl ?_))
  repeat' first | refine nx rfl ?_ | fail
  (refine AA (AI rfl ?_) <;> (refine AH rfl rfl (fun hc => ?_) (fun hc => ?_) <;> try omega) <;> refine AB (AC rfl (AE ?_)))
  all_goals
   repeat' first | refine nx rfl ?_ | fail
   exact AL rfl ⟨congrArg Value.bool (by simp [CL, BS, styL, List.lookup, many]; try omega), rfl⟩
 by_cases h9 : op = 9
 ·subst h9
  refine AA (AB (AC rfl ?_))
  repeat' first | refine nx rfl ?_ | fail
  refine AA (AI rfl ?_)
  repeat' first | refine nx rfl ?_ | fail
  (refine AA ?_ <;> (refine AH rfl rfl (fun hc => ?_) (fun hc => ?_) <;> try omega) <;> refine AB (AC rfl ?_))
  repeat' first | refine nx rfl ?_ | refine nf rfl ?_
  (refine AA ?_ <;> (refine AH rfl rfl (fun hc => ?_) (fun hc => ?_) <;> try omega) <;> refine AB (AC rfl ?_))
  repeat' first | refine nx rfl ?_ | refine nf rfl ?_
  (refine AA ?_ <;> (refine AH rfl rfl (fun hc => ?_) (fun hc => ?_) <;> try omega) <;> refine AB (AC rfl ?_))
  repeat' first | refine nx rfl ?_ | refine nf rfl ?_
  (refine AA ?_ <;> (refine AH rfl rfl (fun hc => ?_) (fun hc => ?_) <;> try omega) <;> refine AB (AC rfl ?_))
  repeat' first | refine nx rfl ?_ | refine nf rfl ?_
  (refine AA ?_ <;> (refine AH rfl rfl (fun hc => ?_) (fun hc => ?_) <;> try omega) <;> refine AB (AC rfl ?_))
  repeat' first | refine nx rfl ?_ | refine nf rfl ?_
  (refine AA ?_ <;> (refine AH rfl rfl (fun hc => ?_) (fun hc => ?_) <;> try omega) <;> refine AB (AC rfl ?_))
  repeat' first | refine nx rfl ?_ | refine nf rfl ?_
  (refine AA ?_ <;> (refine AH rfl rfl (fun hc => ?_) (fun hc => ?_) <;> try omega) <;> refine AB (AC rfl ?_))
  repeat' first | refine nx rfl ?_ | refine nf rfl ?_
  (refine AA ?_ <;> (refine AH rfl rfl (fun hc => ?_) (fun hc => ?_) <;> try omega) <;> refine AB (AC rfl ?_))
  repeat' first | refine nx rfl ?_ | refine nf rfl ?_
  (refine AA ?_ <;> (refine AH rfl rfl (fun hc => ?_) (fun hc => ?_) <;> try omega) <;> refine AB (AC rfl ?_))
  repeat' first | refine nx rfl ?_ | refine nf rfl ?_
  (refine AA ?_ <;> (refine AH rfl rfl (fun hc => ?_) (fun hc => ?_) <;> try omega) <;> refine AB (AC rfl ?_))
  repeat' first | refine nx rfl ?_ | refine nf rfl ?_
  (refine AA ?_ <;> (refine AH rfl rfl (fun hc => ?_) (fun hc => ?_) <;> try omega) <;> refine AB (AC rfl ?_))
  repeat' first | refine nx rfl ?_ | refine nf rfl ?_
  (refine AA ?_ <;> (refine AH rfl rfl (fun hc => ?_) (fun hc => ?_) <;> try omega) <;> refine AB (AC rfl ?_))
  repeat' first | refine nx rfl ?_ | refine nf rfl ?_
  (refine AA ?_ <;> (refine AH rfl rfl (fun hc => ?_) (fun hc => ?_) <;> try omega) <;> refine AB (AC rfl ?_))
  repeat' first | refine nx rfl ?_ | refine nf rfl ?_
  (refine AA ?_ <;> (refine AH rfl rfl (fun hc => ?_) (fun hc => ?_) <;> try omega) <;> refine AB (AC rfl ?_))
  repeat' first | refine nx rfl ?_ | fail
  (refine AA (AI rfl ?_) <;> (refine AH rfl rfl (fun hc => ?_) (fun hc => ?_) <;> try omega) <;> refine AB (AC rfl (AE ?_)))
  all_goals
   repeat' first | refine nx rfl ?_ | fail
   exact AL rfl ⟨congrArg Value.bool (by simp [CL, BS, styL, List.lookup, many]; try omega), rfl⟩
 by_cases h10 : op = 10
 ·subst h10
  refine AA (AB (AC rfl ?_))
  repeat' first | refine nx rfl ?_ | fail
  refine AA (AI rfl ?_)
  repeat' first | refine nx rfl ?_ | fail
  (refine AA ?_ <;> (refine AH rfl rfl (fun hc => ?_) (fun hc => ?_) <;> try omega) <;> refine AB (AC rfl ?_))
  repeat' first | refine nx rfl ?_ | refine nf rfl ?_
  (refine AA ?_ <;> (refine AH rfl rfl (fun hc => ?_) (fun hc => ?_) <;> try omega) <;> refine AB (AC rfl ?_))
  repeat' first | refine nx rfl ?_ | refine nf rfl ?_
  (refine AA ?_ <;> (refine AH rfl rfl (fun hc => ?_) (fun hc => ?_) <;> try omega) <;> refine AB (AC rfl ?_))
  repeat' first | refine nx rfl ?_ | refine nf rfl ?_
  (refine AA ?_ <;> (refine AH rfl rfl (fun hc => ?_) (fun hc => ?_) <;> try omega) <;> refine AB (AC rfl ?_))
  repeat' first | refine nx rfl ?_ | refine nf rfl ?_
  (refine AA ?_ <;> (refine AH rfl rfl (fun hc => ?_) (fun hc => ?_) <;> try omega) <;> refine AB (AC rfl ?_))
  repeat' first | refine nx rfl ?_ | refine nf rfl ?_
  (refine AA ?_ <;> (refine AH rfl rfl (fun hc => ?_) (fun hc => ?_) <;> try omega) <;> refine AB (AC rfl ?_))
  repeat' first | refine nx rfl ?_ | refine nf rfl ?_
  (refine AA ?_ <;> (refine AH rfl rfl (fun hc => ?_) (fun hc => ?_) <;> try omega) <;> refine AB (AC rfl ?_))
  repeat' first | refine nx rfl ?_ | refine nf rfl ?_
  (refine AA ?_ <;> (refine AH rfl rfl (fun hc => ?_) (fun hc => ?_) <;> try omega) <;> refine AB (AC rfl ?_))
  repeat' first | refine nx rfl ?_ | refine nf rfl ?_
  (refine AA ?_ <;> (refine AH rfl rfl (fun hc => ?_) (fun hc => ?_) <;> try omega) <;> refine AB (AC rfl ?_))
  repeat' first | refine nx rfl ?_ | refine nf rfl ?_
  (refine AA ?_ <;> (refine AH rfl rfl (fun hc => ?_) (fun hc => ?_) <;> try omega) <;> refine AB (AC rfl ?_))
  repeat' first | refine nx rfl ?_ | refine nf rfl ?_
  (refine AA ?_ <;> (refine AH rfl rfl (fun hc => ?_) (fun hc => ?_) <;> try omega) <;> refine AB (AC rfl ?_))
  repeat' first | refine nx rfl ?_ | refine nf rfl ?_
  (refine AA ?_ <;> (refine AH rfl rfl (fun hc => ?_) (fun hc => ?_) <;> try omega) <;> refine AB (AC rfl ?_))
  repeat' first | refine nx rfl ?_ | refine nf rfl ?_
  (refine AA ?_ <;> (refine AH rfl rfl (fun hc => ?_) (fun hc => ?_) <;> try omega) <;> refine AB (AC rfl ?_))
  repeat' first | refine nx rfl ?_ | refine nf rfl ?_
  (refine AA ?_ <;> (refine AH rfl rfl (fun hc => ?_) (fun hc => ?_) <;> try omega) <;> refine AB (AC rfl ?_))
  repeat' first | refine nx rfl ?_ | refine nf rfl ?_
  (refine AA ?_ <;> (refine AH rfl rfl (fun hc => ?_) (fun hc => ?_) <;> try omega) <;> refine AB (AC rfl ?_))
  repeat' first | refine nx rfl ?_ | fail
  (refine AA (AI rfl ?_) <;> (refine AH rfl rfl (fun hc => ?_) (fun hc => ?_) <;> try omega) <;> refine AB (AC rfl (AE ?_)))
  all_goals
   repeat' first | refine nx rfl ?_ | fail
   exact AL rfl ⟨congrArg Value.bool (by simp [CL, BS, styL, List.lookup, many]; try omega), rfl⟩
 by_cases h16 : op = 16
 ·subst h16
  refine AA (AB (AC rfl ?_))
  repeat' first | refine nx rfl ?_ | fail
  refine AA (AI rfl ?_)
  repeat' first | refine nx rfl ?_ | fail
  (refine AA ?_ <;> (refine AH rfl rfl (fun hc => ?_) (fun hc => ?_) <;> try omega) <;> refine AB (AC rfl ?_))
  repeat' first | refine nx rfl ?_ | refine nf rfl ?_
  (refine AA ?_ <;> (refine AH rfl rfl (fun hc => ?_) (fun hc => ?_) <;> try omega) <;> refine AB (AC rfl ?_))
  repeat' first | refine nx rfl ?_ | refine nf rfl ?_
  (refine AA ?_ <;> (refine AH rfl rfl (fun hc => ?_) (fun hc => ?_) <;> try omega) <;> refine AB (AC rfl ?_))
  repeat' first | refine nx rfl ?_ | refine nf rfl ?_
  (refine AA ?_ <;> (refine AH rfl rfl (fun hc => ?_) (fun hc => ?_) <;> try omega) <;> refine AB (AC rfl ?_))
  repeat' first | refine nx rfl ?_ | refine nf rfl ?_
  (refine AA ?_ <;> (refine AH rfl rfl (fun hc => ?_) (fun hc => ?_) <;> try omega) <;> refine AB (AC rfl ?_))
  repeat' first | refine nx rfl ?_ | refine nf rfl ?_
  (refine AA ?_ <;> (refine AH rfl rfl (fun hc => ?_) (fun hc => ?_) <;> try omega) <;> refine AB (AC rfl ?_))
  repeat' first | refine nx rfl ?_ | refine nf rfl ?_
  (refine AA ?_ <;> (refine AH rfl rfl (fun hc => ?_) (fun hc => ?_) <;> try omega) <;> refine AB (AC rfl ?_))
  repeat' first | refine nx rfl ?_ | refine nf rfl ?_
  (refine AA ?_ <;> (refine AH rfl rfl (fun hc => ?_) (fun hc => ?_) <;> try omega) <;> refine AB (AC rfl ?_))
  repeat' first | refine nx rfl ?_ | refine nf rfl ?_
  (refine AA ?_ <;> (refine AH rfl rfl (fun hc => ?_) (fun hc => ?_) <;> try omega) <;> refine AB (AC rfl ?_))
  repeat' first | refine nx rfl ?_ | refine nf rfl ?_
  (refine AA ?_ <;> (refine AH rfl rfl (fun hc => ?_) (fun hc => ?_) <;> try omega) <;> refine AB (AC rfl ?_))
  repeat' first | refine nx rfl ?_ | refine nf rfl ?_
  (refine AA ?_ <;> (refine AH rfl rfl (fun hc => ?_) (fun hc => ?_) <;> try omega) <;> refine AB (AC rfl ?_))
  repeat' first | refine nx rfl ?_ | refine nf rfl ?_
  (refine AA ?_ <;> (refine AH rfl rfl (fun hc => ?_) (fun hc => ?_) <;> try omega) <;> refine AB (AC rfl ?_))
  repeat' first | refine nx rfl ?_ | refine nf rfl ?_
  (refine AA ?_ <;> (refine AH rfl rfl (fun hc => ?_) (fun hc => ?_) <;> try omega) <;> refine AB (AC rfl ?_))
  repeat' first | refine nx rfl ?_ | refine nf rfl ?_
  (refine AA ?_ <;> (refine AH rfl rfl (fun hc => ?_) (fun hc => ?_) <;> try omega) <;> refine AB (AC rfl ?_))
  repeat' first | refine nx rfl ?_ | refine nf rfl ?_
  (refine AA ?_ <;> (refine AH rfl rfl (fun hc => ?_) (fun hc => ?_) <;> try omega) <;> refine AB (AC rfl ?_))
  repeat' first | refine nx rfl ?_ | refine nf rfl ?_
  (refine AA ?_ <;> (refine AH rfl rfl (fun hc => ?_) (fun hc => ?_) <;> try omega) <;> refine AB (AC rfl ?_))
  repeat' first | refine nx rfl ?_ | fail
  (refine AA (AI rfl ?_) <;> (refine AH rfl rfl (fun hc => ?_) (fun hc => ?_) <;> try omega) <;> refine AB (AC rfl (AE ?_)))
  all_goals
   repeat' first | refine nx rfl ?_ | fail
   exact AL rfl ⟨congrArg Value.bool (by simp [CL, BS, styL, List.lookup, many]; try omega), rfl⟩
 by_cases h17 : op = 17
 ·subst h17
  refine AA (AB (AC rfl ?_))
  repeat' first | refine nx rfl ?_ | fail
  refine AA (AI rfl ?_)
  repeat' first | refine nx rfl ?_ | fail
  (refine AA ?_ <;> (refine AH rfl rfl (fun hc => ?_) (fun hc => ?_) <;> try omega) <;> refine AB (AC rfl ?_))
  repeat' first | refine nx rfl ?_ | refine nf rfl ?_
  (refine AA ?_ <;> (refine AH rfl rfl (fun hc => ?_) (fun hc => ?_) <;> try omega) <;> refine AB (AC rfl ?_))
  repeat' first | refine nx rfl ?_ | refine nf rfl ?_
  (refine AA ?_ <;> (refine AH rfl rfl (fun hc => ?_) (fun hc => ?_) <;> try omega) <;> refine AB (AC rfl ?_))
  repeat' first | refine nx rfl ?_ | refine nf rfl ?_
  (refine AA ?_ <;> (refine AH rfl rfl (fun hc => ?_) (fun hc => ?_) <;> try omega) <;> refine AB (AC rfl ?_))
  repeat' first | refine nx rfl ?_ | refine nf rfl ?_
  (refine AA ?_ <;> (refine AH rfl rfl (fun hc => ?_) (fun hc => ?_) <;> try omega) <;> refine AB (AC rfl ?_))
  repeat' first | refine nx rfl ?_ | refine nf rfl ?_
  (refine AA ?_ <;> (refine AH rfl rfl (fun hc => ?_) (fun hc => ?_) <;> try omega) <;> refine AB (AC rfl ?_))
  repeat' first | refine nx rfl ?_ | refine nf rfl ?_
  (refine AA ?_ <;> (refine AH rfl rfl (fun hc => ?_) (fun hc => ?_) <;> try omega) <;> refine AB (AC rfl ?_))
  repeat' first | refine nx rfl ?_ | refine nf rfl ?_
  (refine AA ?_ <;> (refine AH rfl rfl (fun hc => ?_) (fun hc => ?_) <;> try omega) <;> refine AB (AC rfl ?_))
  repeat' first | refine nx rfl ?_ | refine nf rfl ?_
  (refine AA ?_ <;> (refine AH rfl rfl (fun hc => ?_) (fun hc => ?_) <;> try omega) <;> refine AB (AC rfl ?_))
  repeat' first | refine nx rfl ?_ | refine nf rfl ?_
  (refine AA ?_ <;> (refine AH rfl rfl (fun hc => ?_) (fun hc => ?_) <;> try omega) <;> refine AB (AC rfl ?_))
  repeat' first | refine nx rfl ?_ | refine nf rfl ?_
  (refine AA ?_ <;> (refine AH rfl rfl (fun hc => ?_) (fun hc => ?_) <;> try omega) <;> refine AB (AC rfl ?_))
  repeat' first | refine nx rfl ?_ | refine nf rfl ?_
  (refine AA ?_ <;> (refine AH rfl rfl (fun hc => ?_) (fun hc => ?_) <;> try omega) <;> refine AB (AC rfl ?_))
  repeat' first | refine nx rfl ?_ | refine nf rfl ?_
  (refine AA ?_ <;> (refine AH rfl rfl (fun hc => ?_) (fun hc => ?_) <;> try omega) <;> refine AB (AC rfl ?_))
  repeat' first | refine nx rfl ?_ | refine nf rfl ?_
  (refine AA ?_ <;> (refine AH rfl rfl (fun hc => ?_) (fun hc => ?_) <;> try omega) <;> refine AB (AC rfl ?_))
  repeat' first | refine nx rfl ?_ | refine nf rfl ?_
  (refine AA ?_ <;> (refine AH rfl rfl (fun hc => ?_) (fun hc => ?_) <;> try omega) <;> refine AB (AC rfl ?_))
  repeat' first | refine nx rfl ?_ | refine nf rfl ?_
  (refine AA ?_ <;> (refine AH rfl rfl (fun hc => ?_) (fun hc => ?_) <;> try omega) <;> refine AB (AC rfl ?_))
  repeat' first | refine nx rfl ?_ | refine nf rfl ?_
  (refine AA ?_ <;> (refine AH rfl rfl (fun hc => ?_) (fun hc => ?_) <;> try omega) <;> refine AB (AC rfl ?_))
  repeat' first | refine nx rfl ?_ | fail
  (refine AA (AI rfl ?_) <;> (refine AH rfl rfl (fun hc => ?_) (fun hc => ?_) <;> try omega) <;> refine AB (AC rfl (AE ?_)))
  all_goals
   repeat' first | refine nx rfl ?_ | fail
   exact AL rfl ⟨congrArg Value.bool (by simp [CL, BS, styL, List.lookup, many]; try omega), rfl⟩
 by_cases h5 : op = 5
 ·subst h5
  refine AA (AB (AC rfl ?_))
  repeat' first | refine nx rfl ?_ | fail
  refine AA (AI rfl ?_)
  repeat' first | refine nx rfl ?_ | fail
  (refine AA ?_ <;> (refine AH rfl rfl (fun hc => ?_) (fun hc => ?_) <;> try omega) <;> refine AB (AC rfl ?_))
  repeat' first | refine nx rfl ?_ | refine nf rfl ?_
  (refine AA ?_ <;> (refine AH rfl rfl (fun hc => ?_) (fun hc => ?_) <;> try omega) <;> refine AB (AC rfl ?_))
  repeat' first | refine nx rfl ?_ | refine nf rfl ?_
  (refine AA ?_ <;> (refine AH rfl rfl (fun hc => ?_) (fun hc => ?_) <;> try omega) <;> refine AB (AC rfl ?_))
  repeat' first | refine nx rfl ?_ | refine nf rfl ?_
  (refine AA ?_ <;> (refine AH rfl rfl (fun hc => ?_) (fun hc => ?_) <;> try omega) <;> refine AB (AC rfl ?_))
  repeat' first | refine nx rfl ?_ | refine nf rfl ?_
  (refine AA ?_ <;> (refine AH rfl rfl (fun hc => ?_) (fun hc => ?_) <;> try omega) <;> refine AB (AC rfl ?_))
  repeat' first | refine nx rfl ?_ | refine nf rfl ?_
  (refine AA ?_ <;> (refine AH rfl rfl (fun hc => ?_) (fun hc => ?_) <;> try omega) <;> refine AB (AC rfl ?_))
  repeat' first | refine nx rfl ?_ | refine nf rfl ?_
  (refine AA ?_ <;> (refine AH rfl rfl (fun hc => ?_) (fun hc => ?_) <;> try omega) <;> refine AB (AC rfl ?_))
  repeat' first | refine nx rfl ?_ | refine nf rfl ?_
  (refine AA ?_ <;> (refine AH rfl rfl (fun hc => ?_) (fun hc => ?_) <;> try omega) <;> refine AB (AC rfl ?_))
  repeat' first | refine nx rfl ?_ | refine nf rfl ?_
  (refine AA ?_ <;> (refine AH rfl rfl (fun hc => ?_) (fun hc => ?_) <;> try omega) <;> refine AB (AC rfl ?_))
  repeat' first | refine nx rfl ?_ | refine nf rfl ?_
  (refine AA ?_ <;> (refine AH rfl rfl (fun hc => ?_) (fun hc => ?_) <;> try omega) <;> refine AB (AC rfl ?_))
  repeat' first | refine nx rfl ?_ | refine nf rfl ?_
  (refine AA ?_ <;> (refine AH rfl rfl (fun hc => ?_) (fun hc => ?_) <;> try omega) <;> refine AB (AC rfl ?_))
  repeat' first | refine nx rfl ?_ | refine nf rfl ?_
  (refine AA ?_ <;> (refine AH rfl rfl (fun hc => ?_) (fun hc => ?_) <;> try omega) <;> refine AB (AC rfl ?_))
  repeat' first | refine nx rfl ?_ | refine nf rfl ?_
  (refine AA ?_ <;> (refine AH rfl rfl (fun hc => ?_) (fun hc => ?_) <;> try omega) <;> refine AB (AC rfl ?_))
  repeat' first | refine nx rfl ?_ | refine nf rfl ?_
  (refine AA ?_ <;> (refine AH rfl rfl (fun hc => ?_) (fun hc => ?_) <;> try omega) <;> refine AB (AC rfl ?_))
  repeat' first | refine nx rfl ?_ | refine nf rfl ?_
  (refine AA ?_ <;> (refine AH rfl rfl (fun hc => ?_) (fun hc => ?_) <;> try omega) <;> refine AB (AC rfl ?_))
  repeat' first | refine nx rfl ?_ | refine nf rfl ?_
  (refine AA ?_ <;> (refine AH rfl rfl (fun hc => ?_) (fun hc => ?_) <;> try omega) <;> refine AB (AC rfl ?_))
  repeat' first | refine nx rfl ?_ | refine nf rfl ?_
  (refine AA ?_ <;> (refine AH rfl rfl (fun hc => ?_) (fun hc => ?_) <;> try omega) <;> refine AB (AC rfl ?_))
  repeat' first | refine nx rfl ?_ | refine nf rfl ?_
  (refine AA ?_ <;> (refine AH rfl rfl (fun hc => ?_) (fun hc => ?_) <;> try omega) <;> refine AB (AC rfl ?_))
  repeat' first | refine nx rfl ?_ | fail
  (refine AA (AI rfl ?_) <;> (refine Cu rfl rfl (fun hc => ?_) (fun hc => ?_) <;> try omega) <;> refine AB (AC rfl (AE ?_)))
  all_goals
   repeat' first | refine nx rfl ?_ | fail
   exact AL rfl ⟨congrArg Value.bool (by simp [CL, BS, styL, List.lookup, many]; try omega), rfl⟩
 by_cases h6 : op = 6
 ·subst h6
  refine AA (AB (AC rfl ?_))
  repeat' first | refine nx rfl ?_ | fail
  refine AA (AI rfl ?_)
  repeat' first | refine nx rfl ?_ | fail
  (refine AA ?_ <;> (refine AH rfl rfl (fun hc => ?_) (fun hc => ?_) <;> try omega) <;> refine AB (AC rfl ?_))
  repeat' first | refine nx rfl ?_ | refine nf rfl ?_
  (refine AA ?_ <;> (refine AH rfl rfl (fun hc => ?_) (fun hc => ?_) <;> try omega) <;> refine AB (AC rfl ?_))
  repeat' first | refine nx rfl ?_ | refine nf rfl ?_
  (refine AA ?_ <;> (refine AH rfl rfl (fun hc => ?_) (fun hc => ?_) <;> try omega) <;> refine AB (AC rfl ?_))
  repeat' first | refine nx rfl ?_ | refine nf rfl ?_
  (refine AA ?_ <;> (refine AH rfl rfl (fun hc => ?_) (fun hc => ?_) <;> try omega) <;> refine AB (AC rfl ?_))
  repeat' first | refine nx rfl ?_ | refine nf rfl ?_
  (refine AA ?_ <;> (refine AH rfl rfl (fun hc => ?_) (fun hc => ?_) <;> try omega) <;> refine AB (AC rfl ?_))
  repeat' first | refine nx rfl ?_ | refine nf rfl ?_
  (refine AA ?_ <;> (refine AH rfl rfl (fun hc => ?_) (fun hc => ?_) <;> try omega) <;> refine AB (AC rfl ?_))
  repeat' first | refine nx rfl ?_ | refine nf rfl ?_
  (refine AA ?_ <;> (refine AH rfl rfl (fun hc => ?_) (fun hc => ?_) <;> try omega) <;> refine AB (AC rfl ?_))
  repeat' first | refine nx rfl ?_ | refine nf rfl ?_
  (refine AA ?_ <;> (refine AH rfl rfl (fun hc => ?_) (fun hc => ?_) <;> try omega) <;> refine AB (AC rfl ?_))
  repeat' first | refine nx rfl ?_ | refine nf rfl ?_
  (refine AA ?_ <;> (refine AH rfl rfl (fun hc => ?_) (fun hc => ?_) <;> try omega) <;> refine AB (AC rfl ?_))
  repeat' first | refine nx rfl ?_ | refine nf rfl ?_
  (refine AA ?_ <;> (refine AH rfl rfl (fun hc => ?_) (fun hc => ?_) <;> try omega) <;> refine AB (AC rfl ?_))
  repeat' first | refine nx rfl ?_ | refine nf rfl ?_
  (refine AA ?_ <;> (refine AH rfl rfl (fun hc => ?_) (fun hc => ?_) <;> try omega) <;> refine AB (AC rfl ?_))
  repeat' first | refine nx rfl ?_ | refine nf rfl ?_
  (refine AA ?_ <;> (refine AH rfl rfl (fun hc => ?_) (fun hc => ?_) <;> try omega) <;> refine AB (AC rfl ?_))
  repeat' first | refine nx rfl ?_ | refine nf rfl ?_
  (refine AA ?_ <;> (refine AH rfl rfl (fun hc => ?_) (fun hc => ?_) <;> try omega) <;> refine AB (AC rfl ?_))
  repeat' first | refine nx rfl ?_ | refine nf rfl ?_
  (refine AA ?_ <;> (refine AH rfl rfl (fun hc => ?_) (fun hc => ?_) <;> try omega) <;> refine AB (AC rfl ?_))
  repeat' first | refine nx rfl ?_ | refine nf rfl ?_
  (refine AA ?_ <;> (refine AH rfl rfl (fun hc => ?_) (fun hc => ?_) <;> try omega) <;> refine AB (AC rfl ?_))
  repeat' first | refine nx rfl ?_ | refine nf rfl ?_
  (refine AA ?_ <;> (refine AH rfl rfl (fun hc => ?_) (fun hc => ?_) <;> try omega) <;> refine AB (AC rfl ?_))
  repeat' first | refine nx rfl ?_ | refine nf rfl ?_
  (refine AA ?_ <;> (refine AH rfl rfl (fun hc => ?_) (fun hc => ?_) <;> try omega) <;> refine AB (AC rfl ?_))
  repeat' first | refine nx rfl ?_ | refine nf rfl ?_
  (refine AA ?_ <;> (refine AH rfl rfl (fun hc => ?_) (fun hc => ?_) <;> try omega) <;> refine AB (AC rfl ?_))
  repeat' first | refine nx rfl ?_ | refine nf rfl ?_
  (refine AA ?_ <;> (refine AH rfl rfl (fun hc => ?_) (fun hc => ?_) <;> try omega) <;> refine AB (AC rfl ?_))
  repeat' first | refine nx rfl ?_ | fail
  (refine AA (AI rfl ?_) <;> (refine Cu rfl rfl (fun hc => ?_) (fun hc => ?_) <;> try omega) <;> refine AB (AC rfl (AE ?_)))
  all_goals
   repeat' first | refine nx rfl ?_ | fail
   exact AL rfl ⟨congrArg Value.bool (by simp [CL, BS, styL, List.lookup, many]; try omega), rfl⟩
 refine AA (AB (AC rfl ?_))
 repeat' first | refine nx rfl ?_ | fail
 refine AA (AI rfl ?_)
 repeat' first | refine nx rfl ?_ | fail
 (refine AA ?_ <;> (refine AH rfl rfl (fun hc => ?_) (fun hc => ?_) <;> try omega) <;> refine AB (AC rfl ?_))
 repeat' first | refine nx rfl ?_ | refine nf rfl ?_
 (refine AA ?_ <;> (refine AH rfl rfl (fun hc => ?_) (fun hc => ?_) <;> try omega) <;> refine AB (AC rfl ?_))
 repeat' first | refine nx rfl ?_ | refine nf rfl ?_
 (refine AA ?_ <;> (refine AH rfl rfl (fun hc => ?_) (fun hc => ?_) <;> try omega) <;> refine AB (AC rfl ?_))
 repeat' first | refine nx rfl ?_ | refine nf rfl ?_
 (refine AA ?_ <;> (refine AH rfl rfl (fun hc => ?_) (fun hc => ?_) <;> try omega) <;> refine AB (AC rfl ?_))
 repeat' first | refine nx rfl ?_ | refine nf rfl ?_
 (refine AA ?_ <;> (refine AH rfl rfl (fun hc => ?_) (fun hc => ?_) <;> try omega) <;> refine AB (AC rfl ?_))
 repeat' first | refine nx rfl ?_ | refine nf rfl ?_
 (refine AA ?_ <;> (refine AH rfl rfl (fun hc => ?_) (fun hc => ?_) <;> try omega) <;> refine AB (AC rfl ?_))
 repeat' first | refine nx rfl ?_ | refine nf rfl ?_
 (refine AA ?_ <;> (refine AH rfl rfl (fun hc => ?_) (fun hc => ?_) <;> try omega) <;> refine AB (AC rfl ?_))
 repeat' first | refine nx rfl ?_ | refine nf rfl ?_
 (refine AA ?_ <;> (refine AH rfl rfl (fun hc => ?_) (fun hc => ?_) <;> try omega) <;> refine AB (AC rfl ?_))
 repeat' first | refine nx rfl ?_ | refine nf rfl ?_
 (refine AA ?_ <;> (refine AH rfl rfl (fun hc => ?_) (fun hc => ?_) <;> try omega) <;> refine AB (AC rfl ?_))
 repeat' first | refine nx rfl ?_ | refine nf rfl ?_
 (refine AA ?_ <;> (refine AH rfl rfl (fun hc => ?_) (fun hc => ?_) <;> try omega) <;> refine AB (AC rfl ?_))
 repeat' first | refine nx rfl ?_ | refine nf rfl ?_
 (refine AA ?_ <;> (refine AH rfl rfl (fun hc => ?_) (fun hc => ?_) <;> try omega) <;> refine AB (AC rfl ?_))
 repeat' first | refine nx rfl ?_ | refine nf rfl ?_
 (refine AA ?_ <;> (refine AH rfl rfl (fun hc => ?_) (fun hc => ?_) <;> try omega) <;> refine AB (AC rfl ?_))
 repeat' first | refine nx rfl ?_ | refine nf rfl ?_
 (refine AA ?_ <;> (refine AH rfl rfl (fun hc => ?_) (fun hc => ?_) <;> try omega) <;> refine AB (AC rfl ?_))
 repeat' first | refine nx rfl ?_ | refine nf rfl ?_
 (refine AA ?_ <;> (refine AH rfl rfl (fun hc => ?_) (fun hc => ?_) <;> try omega) <;> refine AB (AC rfl ?_))
 repeat' first | refine nx rfl ?_ | refine nf rfl ?_
 (refine AA ?_ <;> (refine AH rfl rfl (fun hc => ?_) (fun hc => ?_) <;> try omega) <;> refine AB (AC rfl ?_))
 repeat' first | refine nx rfl ?_ | refine nf rfl ?_
 (refine AA ?_ <;> (refine AH rfl rfl (fun hc => ?_) (fun hc => ?_) <;> try omega) <;> refine AB (AC rfl ?_))
 repeat' first | refine nx rfl ?_ | refine nf rfl ?_
 (refine AA ?_ <;> (refine AH rfl rfl (fun hc => ?_) (fun hc => ?_) <;> try omega) <;> refine AB (AC rfl ?_))
 repeat' first | refine nx rfl ?_ | refine nf rfl ?_
 (refine AA ?_ <;> (refine AH rfl rfl (fun hc => ?_) (fun hc => ?_) <;> try omega) <;> refine AB (AC rfl ?_))
 repeat' first | refine nx rfl ?_ | refine nf rfl ?_
 (refine AA ?_ <;> (refine AH rfl rfl (fun hc => ?_) (fun hc => ?_) <;> try omega) <;> refine AB (AC rfl ?_))
 repeat' first | refine nx rfl ?_ | refine nf rfl ?_
 refine AA (AB (AC rfl ?_))
 repeat' first | refine nx rfl ?_ | fail
 refine AL rfl ⟨by rw [args_else]; rfl; intro k hk1 hk2 he; omega, rfl⟩
def rixT (n u : Int) : List UInt8 := if n = u then [] else [91] ++ numT n ++ [93]
theorem rindex_ok (w : World) (n u : Int) (h0 : 0 ≤ n) (h9 : n ≤ 9999) : Fn Tryz.prog 126 [.int .i64 n, .int .i64 u] w fun v w' => v = AM (rixT n u) ∧ w' = w := by
 refine Aa Tryz.func126 rfl Tryz.ntmps126 (Nat.le_of_ble_eq_true rfl) (by kernel_rfl) ?_
 repeat' first | refine nx rfl ?_ | fail
 refine AA (AB (AT rfl ?_))
 repeat' first | refine nx rfl ?_ | fail
 by_cases h : n = u
 ·(refine AA (AI rfl (AI rfl ?_)) <;> (refine AH rfl rfl (fun hc => ?_) (fun hc => ?_) <;> try omega))
  repeat' first | refine nx rfl ?_ | fail
  refine AA (AB (AT rfl ?_))
  repeat' first | refine nx rfl ?_ | fail
  exact AL rfl ⟨by rw [rixT, if_pos h]; rfl, rfl⟩
 ·(refine AA (AI rfl (AI rfl ?_)) <;> (refine AH rfl rfl (fun hc => ?_) (fun hc => ?_) <;> try omega))
  repeat' first | refine nx rfl ?_ | refine nf rfl ?_
  refine AA (AI rfl ?_)
  refine AR (rdigits_ok w n h0 h9) rfl ?_
  rintro _ w1 ⟨rfl, rfl⟩
  have hl := CB h9
  refine Ar rfl rfl (by simp; omega) ?_
  refine Ar rfl rfl (by simp; omega) ?_
  ((refine AB ?_; refine AT rfl ?_))
  repeat' first | refine nx rfl ?_ | fail
  exact AL rfl ⟨by rw [rixT, if_neg h]; rfl, rfl⟩
def rsgT (op v b : Int) : List UInt8 :=
 if op = 9 then [85] else if op = 10 then [82] else if op = 16 then [83] ++ rixT v 0 else if op = 17 then [84] ++ rixT v 1
 else if op = 8 then [88] else if op = 18 then [79] else if op = 19 then [72] else if op = 11 then [70] else if op = 12 then [71]
 else if op = 13 then [70, 91] ++ numT b ++ [93] else if op = 14 then [71, 91] ++ numT b ++ [93] else if op = 15 ∧ v = 1 then [90] else [89]
theorem rixT_len {n u : Int} (h9 : n ≤ 9999) : (rixT n u).length ≤ 6 := by
 have := CB h9
 unfold rixT; split <;> simp; omega
theorem rsign_ok (w : World) (f : Fml) (av : Value) (h : f.val ≤ 9999 ∧ 0 ≤ f.val ∧ f.bound ≤ 9999 ∧ 0 ≤ f.bound) : Fn Tryz.prog 81 [.agg (fcC f av).toArray] w fun v w' => v = AM (rsgT f.op f.val f.bound) ∧ Ext w w' := by
 refine Aa Tryz.func81 rfl Tryz.ntmps81 (Nat.le_of_ble_eq_true rfl) (by kernel_rfl) ?_
 repeat' first | refine nx rfl ?_ | fail
 (refine AA ?_; refine BL (L := fcC f av) rfl (fun w1 n1 => ?_))
 have b1 := n1.blk
 have k1 := n1.keep
 have c0 : w1.cell? ⟨w.heap.size, 0 + 0, none⟩ = some (.int .i64 f.op) := b1.cell rfl
 have c2 : w1.cell? ⟨w.heap.size, 0 + 2, none⟩ = some (.int .i64 f.val) := b1.cell rfl
 have c3 : w1.cell? ⟨w.heap.size, 0 + 3, none⟩ = some (.int .i64 f.bound) := b1.cell rfl
 ((refine AB ?_; refine AT rfl ?_))
 repeat' first | refine nx rfl ?_ | fail
 by_cases h9 : f.op = 9
 ·(refine AA (AD rfl ?_) <;> refine AG rfl (Blk.cell (by assumption) (by rfl)) ?_)
  repeat' first | refine nx rfl ?_ | fail
  (refine AA ?_ <;> (refine AH rfl rfl (fun hc => ?_) (fun hc => ?_) <;> try omega) <;> refine AB (AC rfl ?_))
  repeat' first | refine nx rfl ?_ | fail
  refine AA (AB (AT rfl ?_))
  repeat' first | refine nx rfl ?_ | fail
  exact AL rfl ⟨by simp [rsgT, h9]; rfl, k1⟩
 by_cases h10 : f.op = 10
 ·(refine AA (AD rfl ?_) <;> refine AG rfl (Blk.cell (by assumption) (by rfl)) ?_)
  repeat' first | refine nx rfl ?_ | fail
  (refine AA ?_ <;> (refine AH rfl rfl (fun hc => ?_) (fun hc => ?_) <;> try omega) <;> refine AB (AC rfl ?_))
  repeat' first | refine nx rfl ?_ | refine nf rfl ?_
  (refine AA ?_ <;> (refine AH rfl rfl (fun hc => ?_) (fun hc => ?_) <;> try omega) <;> refine AB (AC rfl ?_))
  repeat' first | refine nx rfl ?_ | fail
  refine AA (AB (AT rfl ?_))
  repeat' first | refine nx rfl ?_ | fail
  exact AL rfl ⟨by simp [rsgT, h10]; rfl, k1⟩
 by_cases h16 : f.op = 16
 ·(refine AA (AD rfl ?_) <;> refine AG rfl (Blk.cell (by assumption) (by rfl)) ?_)
  repeat' first | refine nx rfl ?_ | fail
  (refine AA ?_ <;> (refine AH rfl rfl (fun hc => ?_) (fun hc => ?_) <;> try omega) <;> refine AB (AC rfl ?_))
  repeat' first | refine nx rfl ?_ | refine nf rfl ?_
  (refine AA ?_ <;> (refine AH rfl rfl (fun hc => ?_) (fun hc => ?_) <;> try omega) <;> refine AB (AC rfl ?_))
  repeat' first | refine nx rfl ?_ | refine nf rfl ?_
  (refine AA ?_ <;> (refine AH rfl rfl (fun hc => ?_) (fun hc => ?_) <;> try omega) <;> refine AB (AC rfl ?_))
  repeat' first | refine nx rfl ?_ | fail
  (refine AA (AD rfl ?_) <;> refine AG rfl (Blk.cell (by assumption) (by rfl)) ?_)
  refine AR (rindex_ok w1 f.val 0 h.2.1 h.1) rfl ?_
  rintro _ w2 ⟨rfl, rfl⟩
  have hl := rixT_len (u := 0) h.1
  refine Ar rfl rfl (by simp; omega) ?_
  ((refine AB ?_; refine AT rfl ?_))
  repeat' first | refine nx rfl ?_ | fail
  exact AL rfl ⟨by simp [rsgT, h16]; rfl, k1⟩
 by_cases h17 : f.op = 17
 ·(refine AA (AD rfl ?_) <;> refine AG rfl (Blk.cell (by assumption) (by rfl)) ?_)
  repeat' first | refine nx rfl ?_ | fail
  (refine AA ?_ <;> (refine AH rfl rfl (fun hc => ?_) (fun hc => ?_) <;> try omega) <;> refine AB (AC rfl ?_))
  repeat' first | refine nx rfl ?_ | refine nf rfl ?_
  (refine AA ?_ <;> (refine AH rfl rfl (fun hc => ?_) (fun hc => ?_) <;> try omega) <;> refine AB (AC rfl ?_))
  repeat' first | refine nx rfl ?_ | refine nf rfl ?_
  (refine AA ?_ <;> (refine AH rfl rfl (fun hc => ?_) (fun hc => ?_) <;> try omega) <;> refine AB (AC rfl ?_))
  repeat' first | refine nx rfl ?_ | refine nf rfl ?_
  (refine AA ?_ <;> (refine AH rfl rfl (fun hc => ?_) (fun hc => ?_) <;> try omega) <;> refine AB (AC rfl ?_))
  repeat' first | refine nx rfl ?_ | fail
  (refine AA (AD rfl ?_) <;> refine AG rfl (Blk.cell (by assumption) (by rfl)) ?_)
  refine AR (rindex_ok w1 f.val 1 h.2.1 h.1) rfl ?_
  rintro _ w2 ⟨rfl, rfl⟩
  have hl := rixT_len (u := 1) h.1
  refine Ar rfl rfl (by simp; omega) ?_
  ((refine AB ?_; refine AT rfl ?_))
  repeat' first | refine nx rfl ?_ | fail
  exact AL rfl ⟨by simp [rsgT, h17]; rfl, k1⟩
 by_cases h8 : f.op = 8
 ·(refine AA (AD rfl ?_) <;> refine AG rfl (Blk.cell (by assumption) (by rfl)) ?_)
  repeat' first | refine nx rfl ?_ | fail
  (refine AA ?_ <;> (refine AH rfl rfl (fun hc => ?_) (fun hc => ?_) <;> try omega) <;> refine AB (AC rfl ?_))
  repeat' first | refine nx rfl ?_ | refine nf rfl ?_
  (refine AA ?_ <;> (refine AH rfl rfl (fun hc => ?_) (fun hc => ?_) <;> try omega) <;> refine AB (AC rfl ?_))
  repeat' first | refine nx rfl ?_ | refine nf rfl ?_
  (refine AA ?_ <;> (refine AH rfl rfl (fun hc => ?_) (fun hc => ?_) <;> try omega) <;> refine AB (AC rfl ?_))
  repeat' first | refine nx rfl ?_ | refine nf rfl ?_
  (refine AA ?_ <;> (refine AH rfl rfl (fun hc => ?_) (fun hc => ?_) <;> try omega) <;> refine AB (AC rfl ?_))
  repeat' first | refine nx rfl ?_ | refine nf rfl ?_
  (refine AA ?_ <;> (refine AH rfl rfl (fun hc => ?_) (fun hc => ?_) <;> try omega) <;> refine AB (AC rfl ?_))
  repeat' first | refine nx rfl ?_ | fail
  refine AA (AB (AT rfl ?_))
  repeat' first | refine nx rfl ?_ | fail
  exact AL rfl ⟨by simp [rsgT, h8]; rfl, k1⟩
 by_cases h18 : f.op = 18
 ·(refine AA (AD rfl ?_) <;> refine AG rfl (Blk.cell (by assumption) (by rfl)) ?_)
  repeat' first | refine nx rfl ?_ | fail
  (refine AA ?_ <;> (refine AH rfl rfl (fun hc => ?_) (fun hc => ?_) <;> try omega) <;> refine AB (AC rfl ?_))
  repeat' first | refine nx rfl ?_ | refine nf rfl ?_
  (refine AA ?_ <;> (refine AH rfl rfl (fun hc => ?_) (fun hc => ?_) <;> try omega) <;> refine AB (AC rfl ?_))
  repeat' first | refine nx rfl ?_ | refine nf rfl ?_
  (refine AA ?_ <;> (refine AH rfl rfl (fun hc => ?_) (fun hc => ?_) <;> try omega) <;> refine AB (AC rfl ?_))
  repeat' first | refine nx rfl ?_ | refine nf rfl ?_
  (refine AA ?_ <;> (refine AH rfl rfl (fun hc => ?_) (fun hc => ?_) <;> try omega) <;> refine AB (AC rfl ?_))
  repeat' first | refine nx rfl ?_ | refine nf rfl ?_
  (refine AA ?_ <;> (refine AH rfl rfl (fun hc => ?_) (fun hc => ?_) <;> try omega) <;> refine AB (AC rfl ?_))
  repeat' first | refine nx rfl ?_ | refine nf rfl ?_
  (refine AA ?_ <;> (refine AH rfl rfl (fun hc => ?_) (fun hc => ?_) <;> try omega) <;> refine AB (AC rfl ?_))
  repeat' first | refine nx rfl ?_ | fail
  refine AA (AB (AT rfl ?_))
  repeat' first | refine nx rfl ?_ | fail
  exact AL rfl ⟨by simp [rsgT, h18]; rfl, k1⟩
 by_cases h19 : f.op = 19
 ·(refine AA (AD rfl ?_) <;> refine AG rfl (Blk.cell (by assumption) (by rfl)) ?_)
  repeat' first | refine nx rfl ?_ | fail
  (refine AA ?_ <;> (refine AH rfl rfl (fun hc => ?_) (fun hc => ?_) <;> try omega) <;> refine AB (AC rfl ?_))
  repeat' first | refine nx rfl ?_ | refine nf rfl ?_
  (refine AA ?_ <;> (refine AH rfl rfl (fun hc => ?_) (fun hc => ?_) <;> try omega) <;> refine AB (AC rfl ?_))
  repeat' first | refine nx rfl ?_ | refine nf rfl ?_
  (refine AA ?_ <;> (refine AH rfl rfl (fun hc => ?_) (fun hc => ?_) <;> try omega) <;> refine AB (AC rfl ?_))
  repeat' first | refine nx rfl ?_ | refine nf rfl ?_
  (refine AA ?_ <;> (refine AH rfl rfl (fun hc => ?_) (fun hc => ?_) <;> try omega) <;> refine AB (AC rfl ?_))
  repeat' first | refine nx rfl ?_ | refine nf rfl ?_
  (refine AA ?_ <;> (refine AH rfl rfl (fun hc => ?_) (fun hc => ?_) <;> try omega) <;> refine AB (AC rfl ?_))
  repeat' first | refine nx rfl ?_ | refine nf rfl ?_
  (refine AA ?_ <;> (refine AH rfl rfl (fun hc => ?_) (fun hc => ?_) <;> try omega) <;> refine AB (AC rfl ?_))
  repeat' first | refine nx rfl ?_ | refine nf rfl ?_
  (refine AA ?_ <;> (refine AH rfl rfl (fun hc => ?_) (fun hc => ?_) <;> try omega) <;> refine AB (AC rfl ?_))
  repeat' first | refine nx rfl ?_ | fail
  refine AA (AB (AT rfl ?_))
  repeat' first | refine nx rfl ?_ | fail
  exact AL rfl ⟨by simp [rsgT, h19]; rfl, k1⟩
 by_cases h11 : f.op = 11
 ·(refine AA (AD rfl ?_) <;> refine AG rfl (Blk.cell (by assumption) (by rfl)) ?_)
  repeat' first | refine nx rfl ?_ | fail
  (refine AA ?_ <;> (refine AH rfl rfl (fun hc => ?_) (fun hc => ?_) <;> try omega) <;> refine AB (AC rfl ?_))
  repeat' first | refine nx rfl ?_ | refine nf rfl ?_
  (refine AA ?_ <;> (refine AH rfl rfl (fun hc => ?_) (fun hc => ?_) <;> try omega) <;> refine AB (AC rfl ?_))
  repeat' first | refine nx rfl ?_ | refine nf rfl ?_
  (refine AA ?_ <;> (refine AH rfl rfl (fun hc => ?_) (fun hc => ?_) <;> try omega) <;> refine AB (AC rfl ?_))
  repeat' first | refine nx rfl ?_ | refine nf rfl ?_
  (refine AA ?_ <;> (refine AH rfl rfl (fun hc => ?_) (fun hc => ?_) <;> try omega) <;> refine AB (AC rfl ?_))
  repeat' first | refine nx rfl ?_ | refine nf rfl ?_
  (refine AA ?_ <;> (refine AH rfl rfl (fun hc => ?_) (fun hc => ?_) <;> try omega) <;> refine AB (AC rfl ?_))
  repeat' first | refine nx rfl ?_ | refine nf rfl ?_
  (refine AA ?_ <;> (refine AH rfl rfl (fun hc => ?_) (fun hc => ?_) <;> try omega) <;> refine AB (AC rfl ?_))
  repeat' first | refine nx rfl ?_ | refine nf rfl ?_
  (refine AA ?_ <;> (refine AH rfl rfl (fun hc => ?_) (fun hc => ?_) <;> try omega) <;> refine AB (AC rfl ?_))
  repeat' first | refine nx rfl ?_ | refine nf rfl ?_
  (refine AA ?_ <;> (refine AH rfl rfl (fun hc => ?_) (fun hc => ?_) <;> try omega) <;> refine AB (AC rfl ?_))
  repeat' first | refine nx rfl ?_ | fail
  refine AA (AB (AT rfl ?_))
  repeat' first | refine nx rfl ?_ | fail
  exact AL rfl ⟨by simp [rsgT, h11]; rfl, k1⟩
 by_cases h12 : f.op = 12
 ·(refine AA (AD rfl ?_) <;> refine AG rfl (Blk.cell (by assumption) (by rfl)) ?_)
  repeat' first | refine nx rfl ?_ | fail
  (refine AA ?_ <;> (refine AH rfl rfl (fun hc => ?_) (fun hc => ?_) <;> try omega) <;> refine AB (AC rfl ?_))
  repeat' first | refine nx rfl ?_ | refine nf rfl ?_
  (refine AA ?_ <;> (refine AH rfl rfl (fun hc => ?_) (fun hc => ?_) <;> try omega) <;> refine AB (AC rfl ?_))
  repeat' first | refine nx rfl ?_ | refine nf rfl ?_
  (refine AA ?_ <;> (refine AH rfl rfl (fun hc => ?_) (fun hc => ?_) <;> try omega) <;> refine AB (AC rfl ?_))
  repeat' first | refine nx rfl ?_ | refine nf rfl ?_
  (refine AA ?_ <;> (refine AH rfl rfl (fun hc => ?_) (fun hc => ?_) <;> try omega) <;> refine AB (AC rfl ?_))
  repeat' first | refine nx rfl ?_ | refine nf rfl ?_
  (refine AA ?_ <;> (refine AH rfl rfl (fun hc => ?_) (fun hc => ?_) <;> try omega) <;> refine AB (AC rfl ?_))
  repeat' first | refine nx rfl ?_ | refine nf rfl ?_
  (refine AA ?_ <;> (refine AH rfl rfl (fun hc => ?_) (fun hc => ?_) <;> try omega) <;> refine AB (AC rfl ?_))
  repeat' first | refine nx rfl ?_ | refine nf rfl ?_
  (refine AA ?_ <;> (refine AH rfl rfl (fun hc => ?_) (fun hc => ?_) <;> try omega) <;> refine AB (AC rfl ?_))
  repeat' first | refine nx rfl ?_ | refine nf rfl ?_
  (refine AA ?_ <;> (refine AH rfl rfl (fun hc => ?_) (fun hc => ?_) <;> try omega) <;> refine AB (AC rfl ?_))
  repeat' first | refine nx rfl ?_ | refine nf rfl ?_
  (refine AA ?_ <;> (refine AH rfl rfl (fun hc => ?_) (fun hc => ?_) <;> try omega) <;> refine AB (AC rfl ?_))
  repeat' first | refine nx rfl ?_ | fail
  refine AA (AB (AT rfl ?_))
  repeat' first | refine nx rfl ?_ | fail
  exact AL rfl ⟨by simp [rsgT, h12]; rfl, k1⟩
 by_cases h13 : f.op = 13
 ·(refine AA (AD rfl ?_) <;> refine AG rfl (Blk.cell (by assumption) (by rfl)) ?_)
  repeat' first | refine nx rfl ?_ | fail
  (refine AA ?_ <;> (refine AH rfl rfl (fun hc => ?_) (fun hc => ?_) <;> try omega) <;> refine AB (AC rfl ?_))
  repeat' first | refine nx rfl ?_ | refine nf rfl ?_
  (refine AA ?_ <;> (refine AH rfl rfl (fun hc => ?_) (fun hc => ?_) <;> try omega) <;> refine AB (AC rfl ?_))
  repeat' first | refine nx rfl ?_ | refine nf rfl ?_
  (refine AA ?_ <;> (refine AH rfl rfl (fun hc => ?_) (fun hc => ?_) <;> try omega) <;> refine AB (AC rfl ?_))
  repeat' first | refine nx rfl ?_ | refine nf rfl ?_
  (refine AA ?_ <;> (refine AH rfl rfl (fun hc => ?_) (fun hc => ?_) <;> try omega) <;> refine AB (AC rfl ?_))
  repeat' first | refine nx rfl ?_ | refine nf rfl ?_
  (refine AA ?_ <;> (refine AH rfl rfl (fun hc => ?_) (fun hc => ?_) <;> try omega) <;> refine AB (AC rfl ?_))
  repeat' first | refine nx rfl ?_ | refine nf rfl ?_
  (refine AA ?_ <;> (refine AH rfl rfl (fun hc => ?_) (fun hc => ?_) <;> try omega) <;> refine AB (AC rfl ?_))
  repeat' first | refine nx rfl ?_ | refine nf rfl ?_
  (refine AA ?_ <;> (refine AH rfl rfl (fun hc => ?_) (fun hc => ?_) <;> try omega) <;> refine AB (AC rfl ?_))
  repeat' first | refine nx rfl ?_ | refine nf rfl ?_
  (refine AA ?_ <;> (refine AH rfl rfl (fun hc => ?_) (fun hc => ?_) <;> try omega) <;> refine AB (AC rfl ?_))
  repeat' first | refine nx rfl ?_ | refine nf rfl ?_
  (refine AA ?_ <;> (refine AH rfl rfl (fun hc => ?_) (fun hc => ?_) <;> try omega) <;> refine AB (AC rfl ?_))
  repeat' first | refine nx rfl ?_ | refine nf rfl ?_
  (refine AA ?_ <;> (refine AH rfl rfl (fun hc => ?_) (fun hc => ?_) <;> try omega) <;> refine AB (AC rfl ?_))
  repeat' first | refine nx rfl ?_ | fail
  (refine AA (AD rfl ?_) <;> refine AG rfl (Blk.cell (by assumption) (by rfl)) ?_)
  refine AR (rdigits_ok w1 f.bound h.2.2.2 h.2.2.1) rfl ?_
  rintro _ w2 ⟨rfl, rfl⟩
  have hl := CB h.2.2.1
  refine Ar rfl rfl (by simp; omega) ?_
  refine Ar rfl rfl (by simp; omega) ?_
  ((refine AB ?_; refine AT rfl ?_))
  repeat' first | refine nx rfl ?_ | fail
  exact AL rfl ⟨by simp [rsgT, h13]; rfl, k1⟩
 by_cases h14 : f.op = 14
 ·(refine AA (AD rfl ?_) <;> refine AG rfl (Blk.cell (by assumption) (by rfl)) ?_)
  repeat' first | refine nx rfl ?_ | fail
  (refine AA ?_ <;> (refine AH rfl rfl (fun hc => ?_) (fun hc => ?_) <;> try omega) <;> refine AB (AC rfl ?_))
  repeat' first | refine nx rfl ?_ | refine nf rfl ?_
  (refine AA ?_ <;> (refine AH rfl rfl (fun hc => ?_) (fun hc => ?_) <;> try omega) <;> refine AB (AC rfl ?_))
  repeat' first | refine nx rfl ?_ | refine nf rfl ?_
  (refine AA ?_ <;> (refine AH rfl rfl (fun hc => ?_) (fun hc => ?_) <;> try omega) <;> refine AB (AC rfl ?_))
  repeat' first | refine nx rfl ?_ | refine nf rfl ?_
  (refine AA ?_ <;> (refine AH rfl rfl (fun hc => ?_) (fun hc => ?_) <;> try omega) <;> refine AB (AC rfl ?_))
  repeat' first | refine nx rfl ?_ | refine nf rfl ?_
  (refine AA ?_ <;> (refine AH rfl rfl (fun hc => ?_) (fun hc => ?_) <;> try omega) <;> refine AB (AC rfl ?_))
  repeat' first | refine nx rfl ?_ | refine nf rfl ?_
  (refine AA ?_ <;> (refine AH rfl rfl (fun hc => ?_) (fun hc => ?_) <;> try omega) <;> refine AB (AC rfl ?_))
  repeat' first | refine nx rfl ?_ | refine nf rfl ?_
  (refine AA ?_ <;> (refine AH rfl rfl (fun hc => ?_) (fun hc => ?_) <;> try omega) <;> refine AB (AC rfl ?_))
  repeat' first | refine nx rfl ?_ | refine nf rfl ?_
  (refine AA ?_ <;> (refine AH rfl rfl (fun hc => ?_) (fun hc => ?_) <;> try omega) <;> refine AB (AC rfl ?_))
  repeat' first | refine nx rfl ?_ | refine nf rfl ?_
  (refine AA ?_ <;> (refine AH rfl rfl (fun hc => ?_) (fun hc => ?_) <;> try omega) <;> refine AB (AC rfl ?_))
  repeat' first | refine nx rfl ?_ | refine nf rfl ?_
  (refine AA ?_ <;> (refine AH rfl rfl (fun hc => ?_) (fun hc => ?_) <;> try omega) <;> refine AB (AC rfl ?_))
  repeat' first | refine nx rfl ?_ | refine nf rfl ?_
  (refine AA ?_ <;> (refine AH rfl rfl (fun hc => ?_) (fun hc => ?_) <;> try omega) <;> refine AB (AC rfl ?_))
  repeat' first | refine nx rfl ?_ | fail
  (refine AA (AD rfl ?_) <;> refine AG rfl (Blk.cell (by assumption) (by rfl)) ?_)
  refine AR (rdigits_ok w1 f.bound h.2.2.2 h.2.2.1) rfl ?_
  rintro _ w2 ⟨rfl, rfl⟩
  have hl := CB h.2.2.1
  refine Ar rfl rfl (by simp; omega) ?_
  refine Ar rfl rfl (by simp; omega) ?_
  ((refine AB ?_; refine AT rfl ?_))
  repeat' first | refine nx rfl ?_ | fail
  exact AL rfl ⟨by simp [rsgT, h14]; rfl, k1⟩
 by_cases h15 : f.op = 15
 ·by_cases hv1 : f.val = 1
  ·(refine AA (AD rfl ?_) <;> refine AG rfl (Blk.cell (by assumption) (by rfl)) ?_)
   repeat' first | refine nx rfl ?_ | fail
   (refine AA ?_ <;> (refine AH rfl rfl (fun hc => ?_) (fun hc => ?_) <;> try omega) <;> refine AB (AC rfl ?_))
   repeat' first | refine nx rfl ?_ | refine nf rfl ?_
   (refine AA ?_ <;> (refine AH rfl rfl (fun hc => ?_) (fun hc => ?_) <;> try omega) <;> refine AB (AC rfl ?_))
   repeat' first | refine nx rfl ?_ | refine nf rfl ?_
   (refine AA ?_ <;> (refine AH rfl rfl (fun hc => ?_) (fun hc => ?_) <;> try omega) <;> refine AB (AC rfl ?_))
   repeat' first | refine nx rfl ?_ | refine nf rfl ?_
   (refine AA ?_ <;> (refine AH rfl rfl (fun hc => ?_) (fun hc => ?_) <;> try omega) <;> refine AB (AC rfl ?_))
   repeat' first | refine nx rfl ?_ | refine nf rfl ?_
   (refine AA ?_ <;> (refine AH rfl rfl (fun hc => ?_) (fun hc => ?_) <;> try omega) <;> refine AB (AC rfl ?_))
   repeat' first | refine nx rfl ?_ | refine nf rfl ?_
   (refine AA ?_ <;> (refine AH rfl rfl (fun hc => ?_) (fun hc => ?_) <;> try omega) <;> refine AB (AC rfl ?_))
   repeat' first | refine nx rfl ?_ | refine nf rfl ?_
   (refine AA ?_ <;> (refine AH rfl rfl (fun hc => ?_) (fun hc => ?_) <;> try omega) <;> refine AB (AC rfl ?_))
   repeat' first | refine nx rfl ?_ | refine nf rfl ?_
   (refine AA ?_ <;> (refine AH rfl rfl (fun hc => ?_) (fun hc => ?_) <;> try omega) <;> refine AB (AC rfl ?_))
   repeat' first | refine nx rfl ?_ | refine nf rfl ?_
   (refine AA ?_ <;> (refine AH rfl rfl (fun hc => ?_) (fun hc => ?_) <;> try omega) <;> refine AB (AC rfl ?_))
   repeat' first | refine nx rfl ?_ | refine nf rfl ?_
   (refine AA ?_ <;> (refine AH rfl rfl (fun hc => ?_) (fun hc => ?_) <;> try omega) <;> refine AB (AC rfl ?_))
   repeat' first | refine nx rfl ?_ | refine nf rfl ?_
   (refine AA ?_ <;> (refine AH rfl rfl (fun hc => ?_) (fun hc => ?_) <;> try omega) <;> refine AB (AC rfl ?_))
   repeat' first | refine nx rfl ?_ | refine nf rfl ?_
   (refine AA ?_ <;> (refine AH rfl rfl (fun hc => ?_) (fun hc => ?_) <;> try omega) <;> refine AB (AC rfl ?_))
   repeat' first | refine nx rfl ?_ | fail
   (refine AA (AD rfl ?_) <;> refine AG rfl (Blk.cell (by assumption) (by rfl)) ?_ <;> (refine AH rfl rfl (fun hc => ?_) (fun hc => ?_) <;> try omega))
   repeat' first | refine nx rfl ?_ | fail
   refine AA (AB (AT rfl ?_))
   repeat' first | refine nx rfl ?_ | fail
   exact AL rfl ⟨by simp [rsgT, h15, hv1]; rfl, k1⟩
  ·(refine AA (AD rfl ?_) <;> refine AG rfl (Blk.cell (by assumption) (by rfl)) ?_)
   repeat' first | refine nx rfl ?_ | fail
   (refine AA ?_ <;> (refine AH rfl rfl (fun hc => ?_) (fun hc => ?_) <;> try omega) <;> refine AB (AC rfl ?_))
   repeat' first | refine nx rfl ?_ | refine nf rfl ?_
   (refine AA ?_ <;> (refine AH rfl rfl (fun hc => ?_) (fun hc => ?_) <;> try omega) <;> refine AB (AC rfl ?_))
   repeat' first | refine nx rfl ?_ | refine nf rfl ?_
   (refine AA ?_ <;> (refine AH rfl rfl (fun hc => ?_) (fun hc => ?_) <;> try omega) <;> refine AB (AC rfl ?_))
   repeat' first | refine nx rfl ?_ | refine nf rfl ?_
   (refine AA ?_ <;> (refine AH rfl rfl (fun hc => ?_) (fun hc => ?_) <;> try omega) <;> refine AB (AC rfl ?_))
   repeat' first | refine nx rfl ?_ | refine nf rfl ?_
   (refine AA ?_ <;> (refine AH rfl rfl (fun hc => ?_) (fun hc => ?_) <;> try omega) <;> refine AB (AC rfl ?_))
   repeat' first | refine nx rfl ?_ | refine nf rfl ?_
   (refine AA ?_ <;> (refine AH rfl rfl (fun hc => ?_) (fun hc => ?_) <;> try omega) <;> refine AB (AC rfl ?_))
   repeat' first | refine nx rfl ?_ | refine nf rfl ?_
   (refine AA ?_ <;> (refine AH rfl rfl (fun hc => ?_) (fun hc => ?_) <;> try omega) <;> refine AB (AC rfl ?_))
   repeat' first | refine nx rfl ?_ | refine nf rfl ?_
   (refine AA ?_ <;> (refine AH rfl rfl (fun hc => ?_) (fun hc => ?_) <;> try omega) <;> refine AB (AC rfl ?_))
   repeat' first | refine nx rfl ?_ | refine nf rfl ?_
   (refine AA ?_ <;> (refine AH rfl rfl (fun hc => ?_) (fun hc => ?_) <;> try omega) <;> refine AB (AC rfl ?_))
   repeat' first | refine nx rfl ?_ | refine nf rfl ?_
   (refine AA ?_ <;> (refine AH rfl rfl (fun hc => ?_) (fun hc => ?_) <;> try omega) <;> refine AB (AC rfl ?_))
   repeat' first | refine nx rfl ?_ | refine nf rfl ?_
   (refine AA ?_ <;> (refine AH rfl rfl (fun hc => ?_) (fun hc => ?_) <;> try omega) <;> refine AB (AC rfl ?_))
   repeat' first | refine nx rfl ?_ | refine nf rfl ?_
   (refine AA ?_ <;> (refine AH rfl rfl (fun hc => ?_) (fun hc => ?_) <;> try omega) <;> refine AB (AC rfl ?_))
   repeat' first | refine nx rfl ?_ | fail
   (refine AA (AD rfl ?_) <;> refine AG rfl (Blk.cell (by assumption) (by rfl)) ?_ <;> (refine AH rfl rfl (fun hc => ?_) (fun hc => ?_) <;> try omega))
   repeat' first | refine nx rfl ?_ | refine nf rfl ?_
   refine AA (AB (AT rfl ?_))
   repeat' first | refine nx rfl ?_ | fail
   exact AL rfl ⟨by simp [rsgT, h15, hv1]; rfl, k1⟩
 (refine AA (AD rfl ?_) <;> refine AG rfl (Blk.cell (by assumption) (by rfl)) ?_)
 repeat' first | refine nx rfl ?_ | fail
 (refine AA ?_ <;> (refine AH rfl rfl (fun hc => ?_) (fun hc => ?_) <;> try omega) <;> refine AB (AC rfl ?_))
 repeat' first | refine nx rfl ?_ | refine nf rfl ?_
 (refine AA ?_ <;> (refine AH rfl rfl (fun hc => ?_) (fun hc => ?_) <;> try omega) <;> refine AB (AC rfl ?_))
 repeat' first | refine nx rfl ?_ | refine nf rfl ?_
 (refine AA ?_ <;> (refine AH rfl rfl (fun hc => ?_) (fun hc => ?_) <;> try omega) <;> refine AB (AC rfl ?_))
 repeat' first | refine nx rfl ?_ | refine nf rfl ?_
 (refine AA ?_ <;> (refine AH rfl rfl (fun hc => ?_) (fun hc => ?_) <;> try omega) <;> refine AB (AC rfl ?_))
 repeat' first | refine nx rfl ?_ | refine nf rfl ?_
 (refine AA ?_ <;> (refine AH rfl rfl (fun hc => ?_) (fun hc => ?_) <;> try omega) <;> refine AB (AC rfl ?_))
 repeat' first | refine nx rfl ?_ | refine nf rfl ?_
 (refine AA ?_ <;> (refine AH rfl rfl (fun hc => ?_) (fun hc => ?_) <;> try omega) <;> refine AB (AC rfl ?_))
 repeat' first | refine nx rfl ?_ | refine nf rfl ?_
 (refine AA ?_ <;> (refine AH rfl rfl (fun hc => ?_) (fun hc => ?_) <;> try omega) <;> refine AB (AC rfl ?_))
 repeat' first | refine nx rfl ?_ | refine nf rfl ?_
 (refine AA ?_ <;> (refine AH rfl rfl (fun hc => ?_) (fun hc => ?_) <;> try omega) <;> refine AB (AC rfl ?_))
 repeat' first | refine nx rfl ?_ | refine nf rfl ?_
 (refine AA ?_ <;> (refine AH rfl rfl (fun hc => ?_) (fun hc => ?_) <;> try omega) <;> refine AB (AC rfl ?_))
 repeat' first | refine nx rfl ?_ | refine nf rfl ?_
 (refine AA ?_ <;> (refine AH rfl rfl (fun hc => ?_) (fun hc => ?_) <;> try omega) <;> refine AB (AC rfl ?_))
 repeat' first | refine nx rfl ?_ | refine nf rfl ?_
 (refine AA ?_ <;> (refine AH rfl rfl (fun hc => ?_) (fun hc => ?_) <;> try omega) <;> refine AB (AC rfl ?_))
 repeat' first | refine nx rfl ?_ | refine nf rfl ?_
 (refine AA ?_ <;> (refine AH rfl rfl (fun hc => ?_) (fun hc => ?_) <;> try omega) <;> refine AB (AC rfl ?_))
 repeat' first | refine nx rfl ?_ | refine nf rfl ?_
 refine AA (AB (AT rfl ?_))
 repeat' first | refine nx rfl ?_ | fail
 exact AL rfl ⟨by simp [rsgT, *]; rfl, k1⟩
end Go.Proofs.YtfcgdbmoncnibaaGreatDoor
