/- The reference printer: numbers, operators, signs. The reference printer: what can be printed. The reference printer: the text of a formula. The reference printer: requirements, edits. The reference printer: specifications and edits held printable. The reference printer: the text of a specification. The reference: sizes. The reference printer: edits. The printer's laws, plain: texts are parsed back; equal texts; what is parsed can be printed. The truth of formulas on infinite words, plain; words that repeat themselves. Residuals, plain: what is left of a formula after a letter is true of the rest of the word. The canonical form, plain: the order of formulas, lists without repetitions, truth. The order of formulas: two nodes compared, walked. The order of formulas: lists of formulas in memory; the stack of Compare. Conditions: none. -/
import Derived.Test.YtfcgdbmoncnibaaGreatDoorZF12
import Derived.Test.YtfcgdbmoncnibaaGreatDoorShc

namespace Go.Proofs.YtfcgdbmoncnibaaGreatDoor
open Go.RowKit
set_option linter.unusedVariables false
theorem rnumber_ok (w : World) (n : Int) : Fn Tryz.prog 54 [.int .i64 n] w fun v w' => v = .bool (numB n) ∧ w' = w := by
 refine Ad Tryz.func54 rfl Tryz.ntmps54 (Nat.le_of_ble_eq_true rfl) (by kernel_rfl) ?_
 repeat refine nx rfl ?_
 refine AA (AB (AC rfl ?_))
 repeat refine nx rfl ?_
 (refine AA (AH rfl ?_) <;> (refine W_geq rfl rfl (fun hc => ?_) (fun hc => ?_) <;> try omega) <;> refine AC rfl ?_ <;> (first | refine AJ rfl ?_ | (refine AE rfl ?_; refine AH rfl ?_)) <;> (first | refine AJ rfl ?_ | (refine AE rfl ?_; (refine W_leq rfl rfl (fun hc => ?_) (fun hc => ?_) <;> try omega))) <;> ((first | refine AO rfl ?_ | refine AQ rfl ?_); refine AC rfl ?_) <;> refine AB (AC rfl (AI ?_)))
 all_goals
  repeat refine nx rfl ?_
  exact AP rfl ⟨congrArg Value.bool (by simp [numB]; omega), rfl⟩
theorem styD_of {op : Int} {s : Sty} (h : BB op = some s) : BW op = s := by unfold BW; rw [h]; rfl
def Cg (op : Int) (n : Nat) : Bool := match BB op with
 | none => false
 | some s => decide (s.least ≤ n) && decide (n ≤ s.most)
theorem args_else {op : Int} {n : Nat} (h : ∀ k : Int, 1 ≤ k → k ≤ 19 → op ≠ k) : Cg op n = false := by
 unfold Cg
 cases hs : BB op with
 | none => rfl
 | some s => rcases op_cases hs with h' | h' | h' | h' | h' | h' | h' | h' | h' | h' | h' | h' | h' | h' | h' | h' | h' | h' | h' <;> exact absurd h' (h _ (by decide) (by decide))
theorem rargs_ok (w : World) (op : Int) (n : Nat) (hn : n ≤ 1000000) : Fn Tryz.prog 52 [.int .i64 op, .int .i64 (n : Int)] w fun v w1 => v = .bool (Cg op n) ∧ w1 = w := by
 refine Ad Tryz.func52 rfl Tryz.ntmps52 (Nat.le_of_ble_eq_true rfl) (by kernel_rfl) ?_
 repeat refine nx rfl ?_
 by_cases h1 : op = 1
 ·subst h1
  refine AA (AB (AC rfl ?_))
  repeat refine nx rfl ?_
  refine AA (AH rfl ?_)
  repeat refine nx rfl ?_
  refine AA (Av rfl rfl (by omega) (AB (AC rfl ?_)))
  repeat refine nx rfl ?_
  (refine AA (AH rfl ?_) <;> (refine By rfl rfl (fun hc => ?_) (fun hc => ?_) <;> try omega) <;> refine AB (AC rfl (AI ?_)))
  all_goals
   repeat refine nx rfl ?_
   exact AP rfl ⟨congrArg Value.bool (by simp [Cg, BB, styL, List.lookup, many]; try omega), rfl⟩
 by_cases h2 : op = 2
 ·subst h2
  refine AA (AB (AC rfl ?_))
  repeat refine nx rfl ?_
  refine AA (AH rfl ?_)
  repeat refine nx rfl ?_
  refine AA (AL rfl rfl (by omega) (AB (AC rfl ?_)))
  repeat first | refine nx rfl ?_ | refine nf rfl ?_
  refine AA (Av rfl rfl (by omega) (AB (AC rfl ?_)))
  repeat refine nx rfl ?_
  (refine AA (AH rfl ?_) <;> (refine By rfl rfl (fun hc => ?_) (fun hc => ?_) <;> try omega) <;> refine AB (AC rfl (AI ?_)))
  all_goals
   repeat refine nx rfl ?_
   exact AP rfl ⟨congrArg Value.bool (by simp [Cg, BB, styL, List.lookup, many]; try omega), rfl⟩
 by_cases h3 : op = 3
 ·subst h3
  refine AA (AB (AC rfl ?_))
  repeat refine nx rfl ?_
  refine AA (AH rfl ?_)
  repeat refine nx rfl ?_
  refine AA (AL rfl rfl (by omega) (AB (AC rfl ?_)))
  repeat first | refine nx rfl ?_ | refine nf rfl ?_
  refine AA (AL rfl rfl (by omega) (AB (AC rfl ?_)))
  repeat first | refine nx rfl ?_ | refine nf rfl ?_
  refine AA (Av rfl rfl (by omega) (AB (AC rfl ?_)))
  repeat refine nx rfl ?_
  (refine AA (AH rfl ?_) <;> (refine By rfl rfl (fun hc => ?_) (fun hc => ?_) <;> try omega) <;> refine AB (AC rfl (AI ?_)))
  all_goals
   repeat refine nx rfl ?_
   exact AP rfl ⟨congrArg Value.bool (by simp [Cg, BB, styL, List.lookup, many]; try omega), rfl⟩
 by_cases h4 : op = 4
 ·subst h4
  refine AA (AB (AC rfl ?_))
  repeat refine nx rfl ?_
  refine AA (AH rfl ?_)
  repeat refine nx rfl ?_
  refine AA (AL rfl rfl (by omega) (AB (AC rfl ?_)))
  repeat first | refine nx rfl ?_ | refine nf rfl ?_
  refine AA (AL rfl rfl (by omega) (AB (AC rfl ?_)))
  repeat first | refine nx rfl ?_ | refine nf rfl ?_
  refine AA (AL rfl rfl (by omega) (AB (AC rfl ?_)))
  repeat first | refine nx rfl ?_ | refine nf rfl ?_
  refine AA (Av rfl rfl (by omega) (AB (AC rfl ?_)))
  repeat refine nx rfl ?_
  (refine AA (AH rfl ?_) <;> (refine By rfl rfl (fun hc => ?_) (fun hc => ?_) <;> try omega) <;> refine AB (AC rfl (AI ?_)))
  all_goals
   repeat refine nx rfl ?_
   exact AP rfl ⟨congrArg Value.bool (by simp [Cg, BB, styL, List.lookup, many]; try omega), rfl⟩
 by_cases h8 : op = 8
 ·subst h8
  refine AA (AB (AC rfl ?_))
  repeat refine nx rfl ?_
  refine AA (AH rfl ?_)
  repeat refine nx rfl ?_
  refine AA (AL rfl rfl (by omega) (AB (AC rfl ?_)))
  repeat first | refine nx rfl ?_ | refine nf rfl ?_
  refine AA (AL rfl rfl (by omega) (AB (AC rfl ?_)))
  repeat first | refine nx rfl ?_ | refine nf rfl ?_
  refine AA (AL rfl rfl (by omega) (AB (AC rfl ?_)))
  repeat first | refine nx rfl ?_ | refine nf rfl ?_
  refine AA (AL rfl rfl (by omega) (AB (AC rfl ?_)))
  repeat first | refine nx rfl ?_ | refine nf rfl ?_
  refine AA (Av rfl rfl (by omega) (AB (AC rfl ?_)))
  repeat refine nx rfl ?_
  (refine AA (AH rfl ?_) <;> (refine By rfl rfl (fun hc => ?_) (fun hc => ?_) <;> try omega) <;> refine AB (AC rfl (AI ?_)))
  all_goals
   repeat refine nx rfl ?_
   exact AP rfl ⟨congrArg Value.bool (by simp [Cg, BB, styL, List.lookup, many]; try omega), rfl⟩
 by_cases h11 : op = 11
 ·subst h11
  refine AA (AB (AC rfl ?_))
  repeat refine nx rfl ?_
  refine AA (AH rfl ?_)
  repeat refine nx rfl ?_
  refine AA (AL rfl rfl (by omega) (AB (AC rfl ?_)))
  repeat first | refine nx rfl ?_ | refine nf rfl ?_
  refine AA (AL rfl rfl (by omega) (AB (AC rfl ?_)))
  repeat first | refine nx rfl ?_ | refine nf rfl ?_
  refine AA (AL rfl rfl (by omega) (AB (AC rfl ?_)))
  repeat first | refine nx rfl ?_ | refine nf rfl ?_
  refine AA (AL rfl rfl (by omega) (AB (AC rfl ?_)))
  repeat first | refine nx rfl ?_ | refine nf rfl ?_
  refine AA (AL rfl rfl (by omega) (AB (AC rfl ?_)))
  repeat first | refine nx rfl ?_ | refine nf rfl ?_
  refine AA (Av rfl rfl (by omega) (AB (AC rfl ?_)))
  repeat refine nx rfl ?_
  (refine AA (AH rfl ?_) <;> (refine By rfl rfl (fun hc => ?_) (fun hc => ?_) <;> try omega) <;> refine AB (AC rfl (AI ?_)))
  all_goals
   repeat refine nx rfl ?_
   exact AP rfl ⟨congrArg Value.bool (by simp [Cg, BB, styL, List.lookup, many]; try omega), rfl⟩
 by_cases h12 : op = 12
 ·subst h12
  refine AA (AB (AC rfl ?_))
  repeat refine nx rfl ?_
  refine AA (AH rfl ?_)
  repeat refine nx rfl ?_
  refine AA (AL rfl rfl (by omega) (AB (AC rfl ?_)))
  repeat first | refine nx rfl ?_ | refine nf rfl ?_
  refine AA (AL rfl rfl (by omega) (AB (AC rfl ?_)))
  repeat first | refine nx rfl ?_ | refine nf rfl ?_
  refine AA (AL rfl rfl (by omega) (AB (AC rfl ?_)))
  repeat first | refine nx rfl ?_ | refine nf rfl ?_
  refine AA (AL rfl rfl (by omega) (AB (AC rfl ?_)))
  repeat first | refine nx rfl ?_ | refine nf rfl ?_
  refine AA (AL rfl rfl (by omega) (AB (AC rfl ?_)))
  repeat first | refine nx rfl ?_ | refine nf rfl ?_
  refine AA (AL rfl rfl (by omega) (AB (AC rfl ?_)))
  repeat first | refine nx rfl ?_ | refine nf rfl ?_
  refine AA (Av rfl rfl (by omega) (AB (AC rfl ?_)))
  repeat refine nx rfl ?_
  (refine AA (AH rfl ?_) <;> (refine By rfl rfl (fun hc => ?_) (fun hc => ?_) <;> try omega) <;> refine AB (AC rfl (AI ?_)))
  all_goals
   repeat refine nx rfl ?_
   exact AP rfl ⟨congrArg Value.bool (by simp [Cg, BB, styL, List.lookup, many]; try omega), rfl⟩
 by_cases h13 : op = 13
 ·subst h13
  refine AA (AB (AC rfl ?_))
  repeat refine nx rfl ?_
  refine AA (AH rfl ?_)
  repeat refine nx rfl ?_
  refine AA (AL rfl rfl (by omega) (AB (AC rfl ?_)))
  repeat first | refine nx rfl ?_ | refine nf rfl ?_
  refine AA (AL rfl rfl (by omega) (AB (AC rfl ?_)))
  repeat first | refine nx rfl ?_ | refine nf rfl ?_
  refine AA (AL rfl rfl (by omega) (AB (AC rfl ?_)))
  repeat first | refine nx rfl ?_ | refine nf rfl ?_
  refine AA (AL rfl rfl (by omega) (AB (AC rfl ?_)))
  repeat first | refine nx rfl ?_ | refine nf rfl ?_
  refine AA (AL rfl rfl (by omega) (AB (AC rfl ?_)))
  repeat first | refine nx rfl ?_ | refine nf rfl ?_
  refine AA (AL rfl rfl (by omega) (AB (AC rfl ?_)))
  repeat first | refine nx rfl ?_ | refine nf rfl ?_
  refine AA (AL rfl rfl (by omega) (AB (AC rfl ?_)))
  repeat first | refine nx rfl ?_ | refine nf rfl ?_
  refine AA (Av rfl rfl (by omega) (AB (AC rfl ?_)))
  repeat refine nx rfl ?_
  (refine AA (AH rfl ?_) <;> (refine By rfl rfl (fun hc => ?_) (fun hc => ?_) <;> try omega) <;> refine AB (AC rfl (AI ?_)))
  all_goals
   repeat refine nx rfl ?_
   exact AP rfl ⟨congrArg Value.bool (by simp [Cg, BB, styL, List.lookup, many]; try omega), rfl⟩
 by_cases h14 : op = 14
 ·subst h14
  refine AA (AB (AC rfl ?_))
  repeat refine nx rfl ?_
  refine AA (AH rfl ?_)
  repeat refine nx rfl ?_
  refine AA (AL rfl rfl (by omega) (AB (AC rfl ?_)))
  repeat first | refine nx rfl ?_ | refine nf rfl ?_
  refine AA (AL rfl rfl (by omega) (AB (AC rfl ?_)))
  repeat first | refine nx rfl ?_ | refine nf rfl ?_
  refine AA (AL rfl rfl (by omega) (AB (AC rfl ?_)))
  repeat first | refine nx rfl ?_ | refine nf rfl ?_
  refine AA (AL rfl rfl (by omega) (AB (AC rfl ?_)))
  repeat first | refine nx rfl ?_ | refine nf rfl ?_
  refine AA (AL rfl rfl (by omega) (AB (AC rfl ?_)))
  repeat first | refine nx rfl ?_ | refine nf rfl ?_
  refine AA (AL rfl rfl (by omega) (AB (AC rfl ?_)))
  repeat first | refine nx rfl ?_ | refine nf rfl ?_
  refine AA (AL rfl rfl (by omega) (AB (AC rfl ?_)))
  repeat first | refine nx rfl ?_ | refine nf rfl ?_
  refine AA (AL rfl rfl (by omega) (AB (AC rfl ?_)))
  repeat first | refine nx rfl ?_ | refine nf rfl ?_
  refine AA (Av rfl rfl (by omega) (AB (AC rfl ?_)))
  repeat refine nx rfl ?_
  (refine AA (AH rfl ?_) <;> (refine By rfl rfl (fun hc => ?_) (fun hc => ?_) <;> try omega) <;> refine AB (AC rfl (AI ?_)))
  all_goals
   repeat refine nx rfl ?_
   exact AP rfl ⟨congrArg Value.bool (by simp [Cg, BB, styL, List.lookup, many]; try omega), rfl⟩
 by_cases h15 : op = 15
 ·subst h15
  refine AA (AB (AC rfl ?_))
  repeat refine nx rfl ?_
  refine AA (AH rfl ?_)
  repeat refine nx rfl ?_
  refine AA (AL rfl rfl (by omega) (AB (AC rfl ?_)))
  repeat first | refine nx rfl ?_ | refine nf rfl ?_
  refine AA (AL rfl rfl (by omega) (AB (AC rfl ?_)))
  repeat first | refine nx rfl ?_ | refine nf rfl ?_
  refine AA (AL rfl rfl (by omega) (AB (AC rfl ?_)))
  repeat first | refine nx rfl ?_ | refine nf rfl ?_
  refine AA (AL rfl rfl (by omega) (AB (AC rfl ?_)))
  repeat first | refine nx rfl ?_ | refine nf rfl ?_
  refine AA (AL rfl rfl (by omega) (AB (AC rfl ?_)))
  repeat first | refine nx rfl ?_ | refine nf rfl ?_
  refine AA (AL rfl rfl (by omega) (AB (AC rfl ?_)))
  repeat first | refine nx rfl ?_ | refine nf rfl ?_
  refine AA (AL rfl rfl (by omega) (AB (AC rfl ?_)))
  repeat first | refine nx rfl ?_ | refine nf rfl ?_
  refine AA (AL rfl rfl (by omega) (AB (AC rfl ?_)))
  repeat first | refine nx rfl ?_ | refine nf rfl ?_
  refine AA (AL rfl rfl (by omega) (AB (AC rfl ?_)))
  repeat first | refine nx rfl ?_ | refine nf rfl ?_
  refine AA (Av rfl rfl (by omega) (AB (AC rfl ?_)))
  repeat refine nx rfl ?_
  (refine AA (AH rfl ?_) <;> (refine By rfl rfl (fun hc => ?_) (fun hc => ?_) <;> try omega) <;> refine AB (AC rfl (AI ?_)))
  all_goals
   repeat refine nx rfl ?_
   exact AP rfl ⟨congrArg Value.bool (by simp [Cg, BB, styL, List.lookup, many]; try omega), rfl⟩
 by_cases h18 : op = 18
 ·subst h18
  refine AA (AB (AC rfl ?_))
  repeat refine nx rfl ?_
  refine AA (AH rfl ?_)
  repeat refine nx rfl ?_
  refine AA (AL rfl rfl (by omega) (AB (AC rfl ?_)))
  repeat first | refine nx rfl ?_ | refine nf rfl ?_
  refine AA (AL rfl rfl (by omega) (AB (AC rfl ?_)))
  repeat first | refine nx rfl ?_ | refine nf rfl ?_
  refine AA (AL rfl rfl (by omega) (AB (AC rfl ?_)))
  repeat first | refine nx rfl ?_ | refine nf rfl ?_
  refine AA (AL rfl rfl (by omega) (AB (AC rfl ?_)))
  repeat first | refine nx rfl ?_ | refine nf rfl ?_
  refine AA (AL rfl rfl (by omega) (AB (AC rfl ?_)))
  repeat first | refine nx rfl ?_ | refine nf rfl ?_
  refine AA (AL rfl rfl (by omega) (AB (AC rfl ?_)))
  repeat first | refine nx rfl ?_ | refine nf rfl ?_
  refine AA (AL rfl rfl (by omega) (AB (AC rfl ?_)))
  repeat first | refine nx rfl ?_ | refine nf rfl ?_
  refine AA (AL rfl rfl (by omega) (AB (AC rfl ?_)))
  repeat first | refine nx rfl ?_ | refine nf rfl ?_
  refine AA (AL rfl rfl (by omega) (AB (AC rfl ?_)))
  repeat first | refine nx rfl ?_ | refine nf rfl ?_
  refine AA (AL rfl rfl (by omega) (AB (AC rfl ?_)))
  repeat first | refine nx rfl ?_ | refine nf rfl ?_
  refine AA (Av rfl rfl (by omega) (AB (AC rfl ?_)))
  repeat refine nx rfl ?_
  (refine AA (AH rfl ?_) <;> (refine By rfl rfl (fun hc => ?_) (fun hc => ?_) <;> try omega) <;> refine AB (AC rfl (AI ?_)))
  all_goals
   repeat refine nx rfl ?_
   exact AP rfl ⟨congrArg Value.bool (by simp [Cg, BB, styL, List.lookup, many]; try omega), rfl⟩
 by_cases h19 : op = 19
 ·subst h19
  refine AA (AB (AC rfl ?_))
  repeat refine nx rfl ?_
  refine AA (AH rfl ?_)
  repeat refine nx rfl ?_
  refine AA (AL rfl rfl (by omega) (AB (AC rfl ?_)))
  repeat first | refine nx rfl ?_ | refine nf rfl ?_
  refine AA (AL rfl rfl (by omega) (AB (AC rfl ?_)))
  repeat first | refine nx rfl ?_ | refine nf rfl ?_
  refine AA (AL rfl rfl (by omega) (AB (AC rfl ?_)))
  repeat first | refine nx rfl ?_ | refine nf rfl ?_
  refine AA (AL rfl rfl (by omega) (AB (AC rfl ?_)))
  repeat first | refine nx rfl ?_ | refine nf rfl ?_
  refine AA (AL rfl rfl (by omega) (AB (AC rfl ?_)))
  repeat first | refine nx rfl ?_ | refine nf rfl ?_
  refine AA (AL rfl rfl (by omega) (AB (AC rfl ?_)))
  repeat first | refine nx rfl ?_ | refine nf rfl ?_
  refine AA (AL rfl rfl (by omega) (AB (AC rfl ?_)))
  repeat first | refine nx rfl ?_ | refine nf rfl ?_
  refine AA (AL rfl rfl (by omega) (AB (AC rfl ?_)))
  repeat first | refine nx rfl ?_ | refine nf rfl ?_
  refine AA (AL rfl rfl (by omega) (AB (AC rfl ?_)))
  repeat first | refine nx rfl ?_ | refine nf rfl ?_
  refine AA (AL rfl rfl (by omega) (AB (AC rfl ?_)))
  repeat first | refine nx rfl ?_ | refine nf rfl ?_
  refine AA (AL rfl rfl (by omega) (AB (AC rfl ?_)))
  repeat first | refine nx rfl ?_ | refine nf rfl ?_
  refine AA (Av rfl rfl (by omega) (AB (AC rfl ?_)))
  repeat refine nx rfl ?_
  (refine AA (AH rfl ?_) <;> (refine By rfl rfl (fun hc => ?_) (fun hc => ?_) <;> try omega) <;> refine AB (AC rfl (AI ?_)))
  all_goals
   repeat refine nx rfl ?_
   exact AP rfl ⟨congrArg Value.bool (by simp [Cg, BB, styL, List.lookup, many]; try omega), rfl⟩
 by_cases h7 : op = 7
 ·subst h7
  refine AA (AB (AC rfl ?_))
  repeat refine nx rfl ?_
  refine AA (AH rfl ?_)
  repeat refine nx rfl ?_
  refine AA (AL rfl rfl (by omega) (AB (AC rfl ?_)))
  repeat first | refine nx rfl ?_ | refine nf rfl ?_
  refine AA (AL rfl rfl (by omega) (AB (AC rfl ?_)))
  repeat first | refine nx rfl ?_ | refine nf rfl ?_
  refine AA (AL rfl rfl (by omega) (AB (AC rfl ?_)))
  repeat first | refine nx rfl ?_ | refine nf rfl ?_
  refine AA (AL rfl rfl (by omega) (AB (AC rfl ?_)))
  repeat first | refine nx rfl ?_ | refine nf rfl ?_
  refine AA (AL rfl rfl (by omega) (AB (AC rfl ?_)))
  repeat first | refine nx rfl ?_ | refine nf rfl ?_
  refine AA (AL rfl rfl (by omega) (AB (AC rfl ?_)))
  repeat first | refine nx rfl ?_ | refine nf rfl ?_
  refine AA (AL rfl rfl (by omega) (AB (AC rfl ?_)))
  repeat first | refine nx rfl ?_ | refine nf rfl ?_
  refine AA (AL rfl rfl (by omega) (AB (AC rfl ?_)))
  repeat first | refine nx rfl ?_ | refine nf rfl ?_
  refine AA (AL rfl rfl (by omega) (AB (AC rfl ?_)))
  repeat first | refine nx rfl ?_ | refine nf rfl ?_
  refine AA (AL rfl rfl (by omega) (AB (AC rfl ?_)))
  repeat first | refine nx rfl ?_ | refine nf rfl ?_
  refine AA (AL rfl rfl (by omega) (AB (AC rfl ?_)))
  repeat first | refine nx rfl ?_ | refine nf rfl ?_
  refine AA (AL rfl rfl (by omega) (AB (AC rfl ?_)))
  repeat first | refine nx rfl ?_ | refine nf rfl ?_
  refine AA (Av rfl rfl (by omega) (AB (AC rfl ?_)))
  repeat refine nx rfl ?_
  (refine AA (AH rfl ?_) <;> (refine By rfl rfl (fun hc => ?_) (fun hc => ?_) <;> try omega) <;> refine AB (AC rfl (AI ?_)))
  all_goals
   repeat refine nx rfl ?_
   exact AP rfl ⟨congrArg Value.bool (by simp [Cg, BB, styL, List.lookup, many]; try omega), rfl⟩
 by_cases h9 : op = 9
 ·subst h9
  refine AA (AB (AC rfl ?_))
  repeat refine nx rfl ?_
  refine AA (AH rfl ?_)
  repeat refine nx rfl ?_
  refine AA (AL rfl rfl (by omega) (AB (AC rfl ?_)))
  repeat first | refine nx rfl ?_ | refine nf rfl ?_
  refine AA (AL rfl rfl (by omega) (AB (AC rfl ?_)))
  repeat first | refine nx rfl ?_ | refine nf rfl ?_
  refine AA (AL rfl rfl (by omega) (AB (AC rfl ?_)))
  repeat first | refine nx rfl ?_ | refine nf rfl ?_
  refine AA (AL rfl rfl (by omega) (AB (AC rfl ?_)))
  repeat first | refine nx rfl ?_ | refine nf rfl ?_
  refine AA (AL rfl rfl (by omega) (AB (AC rfl ?_)))
  repeat first | refine nx rfl ?_ | refine nf rfl ?_
  refine AA (AL rfl rfl (by omega) (AB (AC rfl ?_)))
  repeat first | refine nx rfl ?_ | refine nf rfl ?_
  refine AA (AL rfl rfl (by omega) (AB (AC rfl ?_)))
  repeat first | refine nx rfl ?_ | refine nf rfl ?_
  refine AA (AL rfl rfl (by omega) (AB (AC rfl ?_)))
  repeat first | refine nx rfl ?_ | refine nf rfl ?_
  refine AA (AL rfl rfl (by omega) (AB (AC rfl ?_)))
  repeat first | refine nx rfl ?_ | refine nf rfl ?_
  refine AA (AL rfl rfl (by omega) (AB (AC rfl ?_)))
  repeat first | refine nx rfl ?_ | refine nf rfl ?_
  refine AA (AL rfl rfl (by omega) (AB (AC rfl ?_)))
  repeat first | refine nx rfl ?_ | refine nf rfl ?_
  refine AA (AL rfl rfl (by omega) (AB (AC rfl ?_)))
  repeat first | refine nx rfl ?_ | refine nf rfl ?_
  refine AA (AL rfl rfl (by omega) (AB (AC rfl ?_)))
  repeat first | refine nx rfl ?_ | refine nf rfl ?_
  refine AA (Av rfl rfl (by omega) (AB (AC rfl ?_)))
  repeat refine nx rfl ?_
  (refine AA (AH rfl ?_) <;> (refine By rfl rfl (fun hc => ?_) (fun hc => ?_) <;> try omega) <;> refine AB (AC rfl (AI ?_)))
  all_goals
   repeat refine nx rfl ?_
   exact AP rfl ⟨congrArg Value.bool (by simp [Cg, BB, styL, List.lookup, many]; try omega), rfl⟩
 by_cases h10 : op = 10
 ·subst h10
  refine AA (AB (AC rfl ?_))
  repeat refine nx rfl ?_
  refine AA (AH rfl ?_)
  repeat refine nx rfl ?_
  refine AA (AL rfl rfl (by omega) (AB (AC rfl ?_)))
  repeat first | refine nx rfl ?_ | refine nf rfl ?_
  refine AA (AL rfl rfl (by omega) (AB (AC rfl ?_)))
  repeat first | refine nx rfl ?_ | refine nf rfl ?_
  refine AA (AL rfl rfl (by omega) (AB (AC rfl ?_)))
  repeat first | refine nx rfl ?_ | refine nf rfl ?_
  refine AA (AL rfl rfl (by omega) (AB (AC rfl ?_)))
  repeat first | refine nx rfl ?_ | refine nf rfl ?_
  refine AA (AL rfl rfl (by omega) (AB (AC rfl ?_)))
  repeat first | refine nx rfl ?_ | refine nf rfl ?_
  refine AA (AL rfl rfl (by omega) (AB (AC rfl ?_)))
  repeat first | refine nx rfl ?_ | refine nf rfl ?_
  refine AA (AL rfl rfl (by omega) (AB (AC rfl ?_)))
  repeat first | refine nx rfl ?_ | refine nf rfl ?_
  refine AA (AL rfl rfl (by omega) (AB (AC rfl ?_)))
  repeat first | refine nx rfl ?_ | refine nf rfl ?_
  refine AA (AL rfl rfl (by omega) (AB (AC rfl ?_)))
  repeat first | refine nx rfl ?_ | refine nf rfl ?_
  refine AA (AL rfl rfl (by omega) (AB (AC rfl ?_)))
  repeat first | refine nx rfl ?_ | refine nf rfl ?_
  refine AA (AL rfl rfl (by omega) (AB (AC rfl ?_)))
  repeat first | refine nx rfl ?_ | refine nf rfl ?_
  refine AA (AL rfl rfl (by omega) (AB (AC rfl ?_)))
  repeat first | refine nx rfl ?_ | refine nf rfl ?_
  refine AA (AL rfl rfl (by omega) (AB (AC rfl ?_)))
  repeat first | refine nx rfl ?_ | refine nf rfl ?_
  refine AA (AL rfl rfl (by omega) (AB (AC rfl ?_)))
  repeat first | refine nx rfl ?_ | refine nf rfl ?_
  refine AA (Av rfl rfl (by omega) (AB (AC rfl ?_)))
  repeat refine nx rfl ?_
  (refine AA (AH rfl ?_) <;> (refine By rfl rfl (fun hc => ?_) (fun hc => ?_) <;> try omega) <;> refine AB (AC rfl (AI ?_)))
  all_goals
   repeat refine nx rfl ?_
   exact AP rfl ⟨congrArg Value.bool (by simp [Cg, BB, styL, List.lookup, many]; try omega), rfl⟩
 by_cases h16 : op = 16
 ·subst h16
  refine AA (AB (AC rfl ?_))
  repeat refine nx rfl ?_
  refine AA (AH rfl ?_)
  repeat refine nx rfl ?_
  refine AA (AL rfl rfl (by omega) (AB (AC rfl ?_)))
  repeat first | refine nx rfl ?_ | refine nf rfl ?_
  refine AA (AL rfl rfl (by omega) (AB (AC rfl ?_)))
  repeat first | refine nx rfl ?_ | refine nf rfl ?_
  refine AA (AL rfl rfl (by omega) (AB (AC rfl ?_)))
  repeat first | refine nx rfl ?_ | refine nf rfl ?_
  refine AA (AL rfl rfl (by omega) (AB (AC rfl ?_)))
  repeat first | refine nx rfl ?_ | refine nf rfl ?_
  refine AA (AL rfl rfl (by omega) (AB (AC rfl ?_)))
  repeat first | refine nx rfl ?_ | refine nf rfl ?_
  refine AA (AL rfl rfl (by omega) (AB (AC rfl ?_)))
  repeat first | refine nx rfl ?_ | refine nf rfl ?_
  refine AA (AL rfl rfl (by omega) (AB (AC rfl ?_)))
  repeat first | refine nx rfl ?_ | refine nf rfl ?_
  refine AA (AL rfl rfl (by omega) (AB (AC rfl ?_)))
  repeat first | refine nx rfl ?_ | refine nf rfl ?_
  refine AA (AL rfl rfl (by omega) (AB (AC rfl ?_)))
  repeat first | refine nx rfl ?_ | refine nf rfl ?_
  refine AA (AL rfl rfl (by omega) (AB (AC rfl ?_)))
  repeat first | refine nx rfl ?_ | refine nf rfl ?_
  refine AA (AL rfl rfl (by omega) (AB (AC rfl ?_)))
  repeat first | refine nx rfl ?_ | refine nf rfl ?_
  refine AA (AL rfl rfl (by omega) (AB (AC rfl ?_)))
  repeat first | refine nx rfl ?_ | refine nf rfl ?_
  refine AA (AL rfl rfl (by omega) (AB (AC rfl ?_)))
  repeat first | refine nx rfl ?_ | refine nf rfl ?_
  refine AA (AL rfl rfl (by omega) (AB (AC rfl ?_)))
  repeat first | refine nx rfl ?_ | refine nf rfl ?_
  refine AA (AL rfl rfl (by omega) (AB (AC rfl ?_)))
  repeat first | refine nx rfl ?_ | refine nf rfl ?_
  refine AA (Av rfl rfl (by omega) (AB (AC rfl ?_)))
  repeat refine nx rfl ?_
  (refine AA (AH rfl ?_) <;> (refine By rfl rfl (fun hc => ?_) (fun hc => ?_) <;> try omega) <;> refine AB (AC rfl (AI ?_)))
  all_goals
   repeat refine nx rfl ?_
   exact AP rfl ⟨congrArg Value.bool (by simp [Cg, BB, styL, List.lookup, many]; try omega), rfl⟩
 by_cases h17 : op = 17
 ·subst h17
  refine AA (AB (AC rfl ?_))
  repeat refine nx rfl ?_
  refine AA (AH rfl ?_)
  repeat refine nx rfl ?_
  refine AA (AL rfl rfl (by omega) (AB (AC rfl ?_)))
  repeat first | refine nx rfl ?_ | refine nf rfl ?_
  refine AA (AL rfl rfl (by omega) (AB (AC rfl ?_)))
  repeat first | refine nx rfl ?_ | refine nf rfl ?_
  refine AA (AL rfl rfl (by omega) (AB (AC rfl ?_)))
  repeat first | refine nx rfl ?_ | refine nf rfl ?_
  refine AA (AL rfl rfl (by omega) (AB (AC rfl ?_)))
  repeat first | refine nx rfl ?_ | refine nf rfl ?_
  refine AA (AL rfl rfl (by omega) (AB (AC rfl ?_)))
  repeat first | refine nx rfl ?_ | refine nf rfl ?_
  refine AA (AL rfl rfl (by omega) (AB (AC rfl ?_)))
  repeat first | refine nx rfl ?_ | refine nf rfl ?_
  refine AA (AL rfl rfl (by omega) (AB (AC rfl ?_)))
  repeat first | refine nx rfl ?_ | refine nf rfl ?_
  refine AA (AL rfl rfl (by omega) (AB (AC rfl ?_)))
  repeat first | refine nx rfl ?_ | refine nf rfl ?_
  refine AA (AL rfl rfl (by omega) (AB (AC rfl ?_)))
  repeat first | refine nx rfl ?_ | refine nf rfl ?_
  refine AA (AL rfl rfl (by omega) (AB (AC rfl ?_)))
  repeat first | refine nx rfl ?_ | refine nf rfl ?_
  refine AA (AL rfl rfl (by omega) (AB (AC rfl ?_)))
  repeat first | refine nx rfl ?_ | refine nf rfl ?_
  refine AA (AL rfl rfl (by omega) (AB (AC rfl ?_)))
  repeat first | refine nx rfl ?_ | refine nf rfl ?_
  refine AA (AL rfl rfl (by omega) (AB (AC rfl ?_)))
  repeat first | refine nx rfl ?_ | refine nf rfl ?_
  refine AA (AL rfl rfl (by omega) (AB (AC rfl ?_)))
  repeat first | refine nx rfl ?_ | refine nf rfl ?_
  refine AA (AL rfl rfl (by omega) (AB (AC rfl ?_)))
  repeat first | refine nx rfl ?_ | refine nf rfl ?_
  refine AA (AL rfl rfl (by omega) (AB (AC rfl ?_)))
  repeat first | refine nx rfl ?_ | refine nf rfl ?_
  refine AA (Av rfl rfl (by omega) (AB (AC rfl ?_)))
  repeat refine nx rfl ?_
  (refine AA (AH rfl ?_) <;> (refine By rfl rfl (fun hc => ?_) (fun hc => ?_) <;> try omega) <;> refine AB (AC rfl (AI ?_)))
  all_goals
   repeat refine nx rfl ?_
   exact AP rfl ⟨congrArg Value.bool (by simp [Cg, BB, styL, List.lookup, many]; try omega), rfl⟩
 by_cases h5 : op = 5
 ·subst h5
  refine AA (AB (AC rfl ?_))
  repeat refine nx rfl ?_
  refine AA (AH rfl ?_)
  repeat refine nx rfl ?_
  refine AA (AL rfl rfl (by omega) (AB (AC rfl ?_)))
  repeat first | refine nx rfl ?_ | refine nf rfl ?_
  refine AA (AL rfl rfl (by omega) (AB (AC rfl ?_)))
  repeat first | refine nx rfl ?_ | refine nf rfl ?_
  refine AA (AL rfl rfl (by omega) (AB (AC rfl ?_)))
  repeat first | refine nx rfl ?_ | refine nf rfl ?_
  refine AA (AL rfl rfl (by omega) (AB (AC rfl ?_)))
  repeat first | refine nx rfl ?_ | refine nf rfl ?_
  refine AA (AL rfl rfl (by omega) (AB (AC rfl ?_)))
  repeat first | refine nx rfl ?_ | refine nf rfl ?_
  refine AA (AL rfl rfl (by omega) (AB (AC rfl ?_)))
  repeat first | refine nx rfl ?_ | refine nf rfl ?_
  refine AA (AL rfl rfl (by omega) (AB (AC rfl ?_)))
  repeat first | refine nx rfl ?_ | refine nf rfl ?_
  refine AA (AL rfl rfl (by omega) (AB (AC rfl ?_)))
  repeat first | refine nx rfl ?_ | refine nf rfl ?_
  refine AA (AL rfl rfl (by omega) (AB (AC rfl ?_)))
  repeat first | refine nx rfl ?_ | refine nf rfl ?_
  refine AA (AL rfl rfl (by omega) (AB (AC rfl ?_)))
  repeat first | refine nx rfl ?_ | refine nf rfl ?_
  refine AA (AL rfl rfl (by omega) (AB (AC rfl ?_)))
  repeat first | refine nx rfl ?_ | refine nf rfl ?_
  refine AA (AL rfl rfl (by omega) (AB (AC rfl ?_)))
  repeat first | refine nx rfl ?_ | refine nf rfl ?_
  refine AA (AL rfl rfl (by omega) (AB (AC rfl ?_)))
  repeat first | refine nx rfl ?_ | refine nf rfl ?_
  refine AA (AL rfl rfl (by omega) (AB (AC rfl ?_)))
  repeat first | refine nx rfl ?_ | refine nf rfl ?_
  refine AA (AL rfl rfl (by omega) (AB (AC rfl ?_)))
  repeat first | refine nx rfl ?_ | refine nf rfl ?_
  refine AA (AL rfl rfl (by omega) (AB (AC rfl ?_)))
  repeat first | refine nx rfl ?_ | refine nf rfl ?_
  refine AA (AL rfl rfl (by omega) (AB (AC rfl ?_)))
  repeat first | refine nx rfl ?_ | refine nf rfl ?_
  refine AA (Av rfl rfl (by omega) (AB (AC rfl ?_)))
  repeat refine nx rfl ?_
  (refine AA (AH rfl ?_) <;> (refine W_geq rfl rfl (fun hc => ?_) (fun hc => ?_) <;> try omega) <;> refine AB (AC rfl (AI ?_)))
  all_goals
   repeat refine nx rfl ?_
   exact AP rfl ⟨congrArg Value.bool (by simp [Cg, BB, styL, List.lookup, many]; try omega), rfl⟩
 by_cases h6 : op = 6
 ·subst h6
  refine AA (AB (AC rfl ?_))
  repeat refine nx rfl ?_
  refine AA (AH rfl ?_)
  repeat refine nx rfl ?_
  refine AA (AL rfl rfl (by omega) (AB (AC rfl ?_)))
  repeat first | refine nx rfl ?_ | refine nf rfl ?_
  refine AA (AL rfl rfl (by omega) (AB (AC rfl ?_)))
  repeat first | refine nx rfl ?_ | refine nf rfl ?_
  refine AA (AL rfl rfl (by omega) (AB (AC rfl ?_)))
  repeat first | refine nx rfl ?_ | refine nf rfl ?_
  refine AA (AL rfl rfl (by omega) (AB (AC rfl ?_)))
  repeat first | refine nx rfl ?_ | refine nf rfl ?_
  refine AA (AL rfl rfl (by omega) (AB (AC rfl ?_)))
  repeat first | refine nx rfl ?_ | refine nf rfl ?_
  refine AA (AL rfl rfl (by omega) (AB (AC rfl ?_)))
  repeat first | refine nx rfl ?_ | refine nf rfl ?_
  refine AA (AL rfl rfl (by omega) (AB (AC rfl ?_)))
  repeat first | refine nx rfl ?_ | refine nf rfl ?_
  refine AA (AL rfl rfl (by omega) (AB (AC rfl ?_)))
  repeat first | refine nx rfl ?_ | refine nf rfl ?_
  refine AA (AL rfl rfl (by omega) (AB (AC rfl ?_)))
  repeat first | refine nx rfl ?_ | refine nf rfl ?_
  refine AA (AL rfl rfl (by omega) (AB (AC rfl ?_)))
  repeat first | refine nx rfl ?_ | refine nf rfl ?_
  refine AA (AL rfl rfl (by omega) (AB (AC rfl ?_)))
  repeat first | refine nx rfl ?_ | refine nf rfl ?_
  refine AA (AL rfl rfl (by omega) (AB (AC rfl ?_)))
  repeat first | refine nx rfl ?_ | refine nf rfl ?_
  refine AA (AL rfl rfl (by omega) (AB (AC rfl ?_)))
  repeat first | refine nx rfl ?_ | refine nf rfl ?_
  refine AA (AL rfl rfl (by omega) (AB (AC rfl ?_)))
  repeat first | refine nx rfl ?_ | refine nf rfl ?_
  refine AA (AL rfl rfl (by omega) (AB (AC rfl ?_)))
  repeat first | refine nx rfl ?_ | refine nf rfl ?_
  refine AA (AL rfl rfl (by omega) (AB (AC rfl ?_)))
  repeat first | refine nx rfl ?_ | refine nf rfl ?_
  refine AA (AL rfl rfl (by omega) (AB (AC rfl ?_)))
  repeat first | refine nx rfl ?_ | refine nf rfl ?_
  refine AA (AL rfl rfl (by omega) (AB (AC rfl ?_)))
  repeat first | refine nx rfl ?_ | refine nf rfl ?_
  refine AA (Av rfl rfl (by omega) (AB (AC rfl ?_)))
  repeat refine nx rfl ?_
  (refine AA (AH rfl ?_) <;> (refine W_geq rfl rfl (fun hc => ?_) (fun hc => ?_) <;> try omega) <;> refine AB (AC rfl (AI ?_)))
  all_goals
   repeat refine nx rfl ?_
   exact AP rfl ⟨congrArg Value.bool (by simp [Cg, BB, styL, List.lookup, many]; try omega), rfl⟩
 refine AA (AB (AC rfl ?_))
 repeat refine nx rfl ?_
 refine AA (AH rfl ?_)
 repeat refine nx rfl ?_
 refine AA (AL rfl rfl (by omega) (AB (AC rfl ?_)))
 repeat first | refine nx rfl ?_ | refine nf rfl ?_
 refine AA (AL rfl rfl (by omega) (AB (AC rfl ?_)))
 repeat first | refine nx rfl ?_ | refine nf rfl ?_
 refine AA (AL rfl rfl (by omega) (AB (AC rfl ?_)))
 repeat first | refine nx rfl ?_ | refine nf rfl ?_
 refine AA (AL rfl rfl (by omega) (AB (AC rfl ?_)))
 repeat first | refine nx rfl ?_ | refine nf rfl ?_
 refine AA (AL rfl rfl (by omega) (AB (AC rfl ?_)))
 repeat first | refine nx rfl ?_ | refine nf rfl ?_
 refine AA (AL rfl rfl (by omega) (AB (AC rfl ?_)))
 repeat first | refine nx rfl ?_ | refine nf rfl ?_
 refine AA (AL rfl rfl (by omega) (AB (AC rfl ?_)))
 repeat first | refine nx rfl ?_ | refine nf rfl ?_
 refine AA (AL rfl rfl (by omega) (AB (AC rfl ?_)))
 repeat first | refine nx rfl ?_ | refine nf rfl ?_
 refine AA (AL rfl rfl (by omega) (AB (AC rfl ?_)))
 repeat first | refine nx rfl ?_ | refine nf rfl ?_
 refine AA (AL rfl rfl (by omega) (AB (AC rfl ?_)))
 repeat first | refine nx rfl ?_ | refine nf rfl ?_
 refine AA (AL rfl rfl (by omega) (AB (AC rfl ?_)))
 repeat first | refine nx rfl ?_ | refine nf rfl ?_
 refine AA (AL rfl rfl (by omega) (AB (AC rfl ?_)))
 repeat first | refine nx rfl ?_ | refine nf rfl ?_
 refine AA (AL rfl rfl (by omega) (AB (AC rfl ?_)))
 repeat first | refine nx rfl ?_ | refine nf rfl ?_
 refine AA (AL rfl rfl (by omega) (AB (AC rfl ?_)))
 repeat first | refine nx rfl ?_ | refine nf rfl ?_
 refine AA (AL rfl rfl (by omega) (AB (AC rfl ?_)))
 repeat first | refine nx rfl ?_ | refine nf rfl ?_
 refine AA (AL rfl rfl (by omega) (AB (AC rfl ?_)))
 repeat first | refine nx rfl ?_ | refine nf rfl ?_
 refine AA (AL rfl rfl (by omega) (AB (AC rfl ?_)))
 repeat first | refine nx rfl ?_ | refine nf rfl ?_
 refine AA (AL rfl rfl (by omega) (AB (AC rfl ?_)))
 repeat first | refine nx rfl ?_ | refine nf rfl ?_
 refine AA (AL rfl rfl (by omega) (AB (AC rfl ?_)))
 repeat first | refine nx rfl ?_ | refine nf rfl ?_
 refine AA (AB (AC rfl ?_))
 repeat refine nx rfl ?_
 refine AP rfl ⟨by rw [args_else]; rfl; intro k hk1 hk2 he; omega, rfl⟩
end Go.Proofs.YtfcgdbmoncnibaaGreatDoor
namespace Go.Proofs.YtfcgdbmoncnibaaGreatDoor
open Go.RowKit
set_option linter.unusedVariables false
def latB (f : Fml) : Bool := decide (f.op = 15) && decide (f.val = 1)
def nodeR (f : Fml) : Bool :=
 Cg f.op f.args.length && (decide (f.op = 3) == !f.name.isEmpty) && (!decide (f.op = 3) || BS f.name) && numB f.val && numB f.bound &&
 !(!decide (f.val = 0) && !decide (f.op = 3) && !(decide (f.op = 16) || decide (f.op = 17)) && !latB f) && !(!decide (f.bound = 0) && !(decide (f.op = 13) || decide (f.op = 14)))
theorem nodeR_eq (f : Fml) : nodeR f = Bq f.op f.name f.val f.bound f.args.length := by
 unfold nodeR Bq Cg latB numB
 have hE : BS [] = false := rfl
 generalize f.args.length = k
 cases hs : BB f.op with
 | none => simp
 | some s =>
  rcases op_cases hs with h | h | h | h | h | h | h | h | h | h | h | h | h | h | h | h | h | h | h <;> rw [h] at hs ⊢ <;> simp [BB, styL, List.lookup] at hs <;> subst hs <;> rw [Bool.eq_iff_iff]
  all_goals
   by_cases hN : BS f.name = true
   ·have hne : f.name ≠ [] := fun e => by have := (Ba hN).1; rw [e] at this; simp at this
    simp [hN, hne]
    try omega
   ·have hN : BS f.name = false := by simpa using hN
    by_cases hn : f.name = []
    ·by_cases hm : k ≤ many
     ·simp [hn, hE, hm]
      try omega
     ·simp [hn, hE, hm]
      try omega
    ·simp [hN, hn]
theorem okL_app : ∀ (l m : List Fml), okL (l ++ m) = (okL l && okL m)
 | [], m => by simp [okL]
 | a :: l, m => by simp [okL, okL_app l m, Bool.and_assoc]
theorem numB0 : numB 0 = true := rfl
set_option maxHeartbeats 3200000 in
set_option maxRecDepth 8000 in
theorem printable_ok : ∀ (N : Nat) (f : Fml), szF f ≤ N → szF f ≤ 1000000 → ∀ (w : World) (v : Value), FAt BH w v f → Fn Tryz.prog 20 [v] w fun u w' => u = .bool (okF f) ∧ Ext w w' := by
 intro N
 induction N with
 | zero => intro f hN; have := szF_pos f; omega
 | succ N ih =>
 intro f hN hz w v hf
 obtain ⟨av, rfl, L, hS, hFA⟩ := hf.form
 obtain ⟨a, c, rfl, hS'⟩ := id hS
 have hsz := szF_eq f
 have hal : f.args.length ≤ 1000000 := by have := szL_len f.args; omega
 refine Ad Tryz.func20 rfl Tryz.ntmps20 (Nat.le_of_ble_eq_true rfl) (by kernel_rfl) ?_
 repeat refine nx rfl ?_
 (refine AA ?_; refine Bs (L := fcC f (.slice a f.args.length c)) rfl (fun w1 n1 => ?_))
 have b1 := n1.blk
 have k1 := n1.keep
 have c0 : w1.cell? ⟨w.heap.size, 0 + 0, none⟩ = some (.int .i64 f.op) := b1.cell rfl
 have c1 : w1.cell? ⟨w.heap.size, 0 + 1, none⟩ = some (AM f.name) := b1.cell rfl
 have c2 : w1.cell? ⟨w.heap.size, 0 + 2, none⟩ = some (.int .i64 f.val) := b1.cell rfl
 have c3 : w1.cell? ⟨w.heap.size, 0 + 3, none⟩ = some (.int .i64 f.bound) := b1.cell rfl
 have c4 : w1.cell? ⟨w.heap.size, 0 + 4, none⟩ = some (.slice a f.args.length c) := b1.cell rfl
 refine AB (AC rfl (AI ?_))
 repeat' first | refine AI ?_ | refine Q_then ?_ | refine C_seq ?_
 generalize hI : decide (f.op = 3) = bI
 refine CV (α := Unit) (fun _ => [(1, pt w.heap.size), (3, .bool bI)]) (fun _ W => w1 = W) ?_ ?_
 ·by_cases h3 : f.op = 3
  ·obtain rfl : bI = true := by rw [← hI]; simp [h3]
   (refine AA (AD rfl (AG rfl (Blk.cell (by assumption) (by rfl)) ?_)) <;> refine Av rfl rfl (by omega) (AB (AC rfl (AI ?_))))
   exact Ar () ⟨rfl, rfl, trivial⟩ rfl
  ·obtain rfl : bI = false := by rw [← hI]; simp [h3]
   (refine AA (AD rfl (AG rfl (Blk.cell (by assumption) (by rfl)) ?_)) <;> refine AL rfl rfl (by omega) (AB (AC rfl (AI ?_))))
   exact Ar () ⟨rfl, rfl, trivial⟩ rfl
 rintro _ _ f1 rfl
 repeat' first | refine AI ?_ | refine Q_then ?_ | refine C_seq ?_
 generalize hS2 : (decide (f.op = 16) || decide (f.op = 17)) = bS
 refine CV (α := Unit) (fun _ => [(1, pt w.heap.size), (3, .bool bI), (4, .bool bS)]) (fun _ W => w1 = W) ?_ ?_
 ·by_cases h16 : f.op = 16
  ·obtain rfl : bS = true := by rw [← hS2]; simp [h16]
   (refine AA (AD rfl (AG rfl (Blk.cell (by assumption) (by rfl)) ?_)) <;> refine Av rfl rfl (by omega) (AC rfl (AJ rfl (AJ rfl (AJ rfl (AO rfl (AC rfl (AB (AC rfl (AI ?_))))))))))
   exact Ar () ⟨rfl, rfl, rfl, trivial⟩ rfl
  ·by_cases h17 : f.op = 17
   ·obtain rfl : bS = true := by rw [← hS2]; simp [h17]
    (refine AA (AD rfl (AG rfl (Blk.cell (by assumption) (by rfl)) ?_)) <;> refine AL rfl rfl (by omega) (AC rfl (AE rfl (AD rfl (AE rfl (AG rfl (Blk.cell (by assumption) (by rfl)) ?_))))) <;> refine AE rfl (Av rfl rfl (by omega) (AQ rfl (AC rfl (AB (AC rfl (AI ?_)))))))
    exact Ar () ⟨rfl, rfl, rfl, trivial⟩ rfl
   ·obtain rfl : bS = false := by rw [← hS2]; simp [h16, h17]
    (refine AA (AD rfl (AG rfl (Blk.cell (by assumption) (by rfl)) ?_)) <;> refine AL rfl rfl (by omega) (AC rfl (AE rfl (AD rfl (AE rfl (AG rfl (Blk.cell (by assumption) (by rfl)) ?_))))) <;> refine AE rfl (AL rfl rfl (by omega) (AQ rfl (AC rfl (AB (AC rfl (AI ?_)))))))
    exact Ar () ⟨rfl, rfl, rfl, trivial⟩ rfl
 rintro _ _ f2 rfl
 repeat' first | refine AI ?_ | refine Q_then ?_ | refine C_seq ?_
 generalize hB2 : (decide (f.op = 13) || decide (f.op = 14)) = bB
 refine CV (α := Unit) (fun _ => [(1, pt w.heap.size), (3, .bool bI), (4, .bool bS), (5, .bool bB)]) (fun _ W => w1 = W) ?_ ?_
 ·by_cases h16 : f.op = 13
  ·obtain rfl : bB = true := by rw [← hB2]; simp [h16]
   (refine AA (AD rfl (AG rfl (Blk.cell (by assumption) (by rfl)) ?_)) <;> refine Av rfl rfl (by omega) (AC rfl (AJ rfl (AJ rfl (AJ rfl (AO rfl (AC rfl (AB (AC rfl (AI ?_))))))))))
   exact Ar () ⟨rfl, rfl, rfl, rfl, trivial⟩ rfl
  ·by_cases h17 : f.op = 14
   ·obtain rfl : bB = true := by rw [← hB2]; simp [h17]
    (refine AA (AD rfl (AG rfl (Blk.cell (by assumption) (by rfl)) ?_)) <;> refine AL rfl rfl (by omega) (AC rfl (AE rfl (AD rfl (AE rfl (AG rfl (Blk.cell (by assumption) (by rfl)) ?_))))) <;> refine AE rfl (Av rfl rfl (by omega) (AQ rfl (AC rfl (AB (AC rfl (AI ?_)))))))
    exact Ar () ⟨rfl, rfl, rfl, rfl, trivial⟩ rfl
   ·obtain rfl : bB = false := by rw [← hB2]; simp [h16, h17]
    (refine AA (AD rfl (AG rfl (Blk.cell (by assumption) (by rfl)) ?_)) <;> refine AL rfl rfl (by omega) (AC rfl (AE rfl (AD rfl (AE rfl (AG rfl (Blk.cell (by assumption) (by rfl)) ?_))))) <;> refine AE rfl (AL rfl rfl (by omega) (AQ rfl (AC rfl (AB (AC rfl (AI ?_)))))))
    exact Ar () ⟨rfl, rfl, rfl, rfl, trivial⟩ rfl
 rintro _ _ f3 rfl
 repeat' first | refine AI ?_ | refine Q_then ?_ | refine C_seq ?_
 generalize hL2 : latB f = bL
 refine CV (α := Unit) (fun _ => [(1, pt w.heap.size), (3, .bool bI), (4, .bool bS), (5, .bool bB), (6, .bool bL)]) (fun _ W => w1 = W) ?_ ?_
 ·by_cases h15 : f.op = 15
  ·by_cases h1 : f.val = 1
   ·obtain rfl : bL = true := by rw [← hL2]; simp [latB, h15, h1]
    (refine AA (AD rfl (AG rfl (Blk.cell (by assumption) (by rfl)) ?_)) <;> refine Av rfl rfl (by omega) (AC rfl (AE rfl (AD rfl (AE rfl (AG rfl (Blk.cell (by assumption) (by rfl)) ?_))))) <;> refine AE rfl (Av rfl rfl (by omega) (AO rfl (AC rfl (AB (AC rfl (AI ?_)))))))
    exact Ar () ⟨rfl, rfl, rfl, rfl, rfl, trivial⟩ rfl
   ·obtain rfl : bL = false := by rw [← hL2]; simp [latB, h1]
    (refine AA (AD rfl (AG rfl (Blk.cell (by assumption) (by rfl)) ?_)) <;> refine Av rfl rfl (by omega) (AC rfl (AE rfl (AD rfl (AE rfl (AG rfl (Blk.cell (by assumption) (by rfl)) ?_))))) <;> refine AE rfl (AL rfl rfl (by omega) (AO rfl (AC rfl (AB (AC rfl (AI ?_)))))))
    exact Ar () ⟨rfl, rfl, rfl, rfl, rfl, trivial⟩ rfl
  ·obtain rfl : bL = false := by rw [← hL2]; simp [latB, h15]
   (refine AA (AD rfl (AG rfl (Blk.cell (by assumption) (by rfl)) ?_)) <;> refine AL rfl rfl (by omega) (AC rfl (AJ rfl (AJ rfl (AJ rfl (AQ rfl (AC rfl (AB (AC rfl (AI ?_))))))))))
   exact Ar () ⟨rfl, rfl, rfl, rfl, rfl, trivial⟩ rfl
 rintro _ _ f4 rfl
 repeat' first | refine AI ?_ | refine Q_then ?_ | refine C_seq ?_
 refine CV (α := Unit) (fun _ => [(1, pt w.heap.size), (95, .bool (!nodeR f))]) (fun _ W => Ext w1 W) ?_ ?_
 ·have kk : Ext w1 w1 := Ext.refl _
  (refine AA (AD rfl (AG rfl (Blk.cell (by assumption) (by rfl)) ?_)) <;> refine AD rfl (AG rfl (Blk.cell (by assumption) (by rfl)) ?_) <;> refine As rfl ?_)
  refine AS (rargs_ok w1 f.op f.args.length hal) rfl ?_
  rintro _ w2 ⟨rfl, rfl⟩
  generalize hA : Cg f.op f.args.length = bA
  cases bA with
  | false =>
   refine BL rfl ?_
   rw [Bool.not_false]
   refine AC rfl (AJ rfl (AJ rfl (AJ rfl (AJ rfl (AJ rfl (AO rfl (AC rfl (AC rfl (AJ rfl (AJ rfl (AJ rfl (AJ rfl (AJ rfl (AJ rfl (AJ rfl (AO rfl (AC rfl (AC rfl (AJ rfl (AJ rfl (AJ rfl (AJ rfl (AO rfl (AC rfl (AC rfl (AJ rfl (AJ rfl (AJ rfl (AJ rfl (AO rfl (AC rfl (AC rfl (AJ rfl (AJ rfl (AJ rfl (AJ rfl (AJ rfl (AJ rfl (AJ rfl (AJ rfl (AJ rfl (AJ rfl (AJ rfl (AJ rfl (AJ rfl (AJ rfl (AJ rfl (AO rfl (AC rfl (AC rfl (AJ rfl (AJ rfl (AJ rfl (AJ rfl (AJ rfl (AJ rfl (AJ rfl (AO rfl (AC rfl (AI ?_))))))))))))))))))))))))))))))))))))))))))))))))))))))))))))
   all_goals
    repeat refine nx rfl ?_
    exact Ar () ⟨rfl, congrArg Value.bool (by clear ih hf hS hFA hS' n1 b1 k1 hsz hal; simp [nodeR, numB0, *]), trivial⟩ kk
  | true =>
   cases bI with
   | true =>
    (refine BL rfl (AC rfl (AE rfl (AC rfl (AE rfl (AD rfl (AE rfl (AG rfl (Blk.cell (by assumption) (by rfl)) ?_))))))) <;> (refine AE rfl ?_; refine W_sneq rfl rfl (fun hc => ?_) (fun hc => ?_)) <;> refine AE rfl (W_bneq rfl rfl (AQ rfl (AC rfl (AC rfl ?_)))) <;> (first | refine AJ rfl ?_ | (refine AE rfl ?_; refine AC rfl ?_)) <;> (first | refine AJ rfl ?_ | (refine AE rfl ?_; refine AC rfl ?_)) <;> (first | refine AJ rfl ?_ | (refine AE rfl ?_; refine AD rfl ?_)) <;> (first | refine AJ rfl ?_ | (refine AE rfl ?_; refine AG rfl (Blk.cell (by assumption) (by rfl)) ?_)))
    ·refine AE rfl ?_
     refine AS (refName_ok f.name w2) rfl ?_
     rintro _ w3 ⟨rfl, k3⟩
     have d2 := k3.cell c2 (by simp)
     have d3 := k3.cell c3 (by simp)
     clear c0 c1 c2 c3 c4
     have kk := k3
     generalize hN : BS f.name = bN
     cases bN with
     | false =>
      refine AE rfl (BL rfl (AE rfl (AO rfl (AC rfl (AQ rfl (AC rfl (AC rfl (AJ rfl (AJ rfl (AJ rfl (AJ rfl (AO rfl (AC rfl (AC rfl (AJ rfl (AJ rfl (AJ rfl (AJ rfl (AO rfl (AC rfl (AC rfl (AJ rfl (AJ rfl (AJ rfl (AJ rfl (AJ rfl (AJ rfl (AJ rfl (AJ rfl (AJ rfl (AJ rfl (AJ rfl (AJ rfl (AJ rfl (AJ rfl (AJ rfl (AO rfl (AC rfl (AC rfl (AJ rfl (AJ rfl (AJ rfl (AJ rfl (AJ rfl (AJ rfl (AJ rfl (AO rfl (AC rfl (AI ?_)))))))))))))))))))))))))))))))))))))))))))))))))
      all_goals
       repeat refine nx rfl ?_
       exact Ar () ⟨rfl, congrArg Value.bool (by clear ih hf hS hFA hS' n1 b1 k1 hsz hal; simp [nodeR, numB0, *]), trivial⟩ kk
     | true =>
      refine AE rfl (BL rfl (AE rfl (AO rfl (AC rfl (AQ rfl (AC rfl (AC rfl (AE rfl (AD rfl (AE rfl (AG rfl (by assumption) ?_)))))))))))
      refine AE rfl ?_
      refine AS (rnumber_ok _ f.val) rfl ?_
      rintro _ w3 ⟨rfl, rfl⟩
      generalize hV : numB f.val = bV
      cases bV with
      | false =>
       refine AE rfl (BL rfl (AQ rfl (AC rfl (AC rfl (AJ rfl (AJ rfl (AJ rfl (AJ rfl (AO rfl (AC rfl (AC rfl (AJ rfl (AJ rfl (AJ rfl (AJ rfl (AJ rfl (AJ rfl (AJ rfl (AJ rfl (AJ rfl (AJ rfl (AJ rfl (AJ rfl (AJ rfl (AJ rfl (AJ rfl (AO rfl (AC rfl (AC rfl (AJ rfl (AJ rfl (AJ rfl (AJ rfl (AJ rfl (AJ rfl (AJ rfl (AO rfl (AC rfl (AI ?_)))))))))))))))))))))))))))))))))))))))
       all_goals
        repeat refine nx rfl ?_
        exact Ar () ⟨rfl, congrArg Value.bool (by clear ih hf hS hFA hS' n1 b1 k1 hsz hal; simp [nodeR, numB0, *]), trivial⟩ kk
      | true =>
       refine AE rfl (BL rfl (AQ rfl (AC rfl (AC rfl (AE rfl (AD rfl (AE rfl (AG rfl (by assumption) ?_))))))))
       refine AE rfl ?_
       refine AS (rnumber_ok _ f.bound) rfl ?_
       rintro _ w4 ⟨rfl, rfl⟩
       generalize hBd : numB f.bound = bBd
       cases bBd with
       | false =>
        refine AE rfl (BL rfl (AQ rfl (AC rfl (AC rfl (AJ rfl (AJ rfl (AJ rfl (AJ rfl (AJ rfl (AJ rfl (AJ rfl (AJ rfl (AJ rfl (AJ rfl (AJ rfl (AJ rfl (AJ rfl (AJ rfl (AJ rfl (AO rfl (AC rfl (AC rfl (AJ rfl (AJ rfl (AJ rfl (AJ rfl (AJ rfl (AJ rfl (AJ rfl (AO rfl (AC rfl (AI ?_))))))))))))))))))))))))))))))))
        all_goals
         repeat refine nx rfl ?_
         exact Ar () ⟨rfl, congrArg Value.bool (by clear ih hf hS hFA hS' n1 b1 k1 hsz hal; simp [nodeR, numB0, *]), trivial⟩ kk
       | true =>
        cases bS <;> cases bL <;> cases bB
        all_goals
         (refine AE rfl (BL rfl (AQ rfl (AC rfl (AC rfl (AE rfl (AD rfl (AE rfl (AG rfl (by assumption) ?_)))))))) <;> (refine AE rfl ?_; (refine W_neq rfl rfl (fun hc => ?_) (fun hc => ?_) <;> try omega)) <;> refine AE rfl (AC rfl ?_) <;> (first | refine AJ rfl ?_ | (refine AE rfl ?_; refine AC rfl ?_)) <;> (first | refine AJ rfl ?_ | (refine AE rfl ?_; refine BL rfl ?_)) <;> (refine AE rfl ?_; ((first | refine AO rfl ?_ | refine AQ rfl ?_); refine AC rfl ?_)) <;> refine AE rfl (AC rfl (AJ rfl (AJ rfl (AE rfl (AQ rfl (AC rfl (AE rfl (AC rfl (AJ rfl (AJ rfl (AE rfl (AQ rfl (AC rfl (AQ rfl (AC rfl (AC rfl (AE rfl (AD rfl (AE rfl (AG rfl (by assumption) ?_)))))))))))))))))))) <;> (refine AE rfl ?_; (refine W_neq rfl rfl (fun hc => ?_) (fun hc => ?_) <;> try omega)) <;> refine AE rfl (AC rfl ?_) <;> (first | refine AJ rfl ?_ | (refine AE rfl ?_; refine AC rfl ?_)) <;> (first | refine AJ rfl ?_ | (refine AE rfl ?_; refine BL rfl ?_)) <;> (refine AE rfl ?_; ((first | refine AO rfl ?_ | refine AQ rfl ?_); refine AC rfl ?_)) <;> refine AQ rfl (AC rfl (AI ?_)))
        all_goals
         repeat refine nx rfl ?_
         exact Ar () ⟨rfl, congrArg Value.bool (by clear ih hf hS hFA hS' n1 b1 k1 hsz hal; simp [nodeR, numB0, *]), trivial⟩ kk
    ·refine AJ rfl (AJ rfl (AJ rfl (AO rfl (AC rfl (AC rfl (AJ rfl (AJ rfl (AJ rfl (AJ rfl (AO rfl (AC rfl (AC rfl (AJ rfl (AJ rfl (AJ rfl (AJ rfl (AO rfl (AC rfl (AC rfl (AJ rfl (AJ rfl (AJ rfl (AJ rfl (AJ rfl (AJ rfl (AJ rfl (AJ rfl (AJ rfl (AJ rfl (AJ rfl (AJ rfl (AJ rfl (AJ rfl (AJ rfl (AO rfl (AC rfl (AC rfl (AJ rfl (AJ rfl (AJ rfl (AJ rfl (AJ rfl (AJ rfl (AJ rfl (AO rfl (AC rfl (AI ?_)))))))))))))))))))))))))))))))))))))))))))))))
     all_goals
      repeat refine nx rfl ?_
      exact Ar () ⟨rfl, congrArg Value.bool (by clear ih hf hS hFA hS' n1 b1 k1 hsz hal; simp [nodeR, numB0, *]), trivial⟩ kk
   | false =>
    (refine BL rfl (AC rfl (AE rfl (AC rfl (AE rfl (AD rfl (AE rfl (AG rfl (Blk.cell (by assumption) (by rfl)) ?_))))))) <;> (refine AE rfl ?_; refine W_sneq rfl rfl (fun hc => ?_) (fun hc => ?_)) <;> refine AE rfl (W_bneq rfl rfl (AQ rfl (AC rfl (AC rfl ?_)))) <;> (first | refine AJ rfl ?_ | (refine AE rfl ?_; refine AC rfl ?_)) <;> (first | refine AJ rfl ?_ | (refine AE rfl ?_; refine AC rfl ?_)) <;> refine AJ rfl (AJ rfl ?_))
    ·refine AJ rfl (AJ rfl (AJ rfl (AO rfl (AC rfl (AC rfl (AJ rfl (AJ rfl (AJ rfl (AJ rfl (AO rfl (AC rfl (AC rfl (AJ rfl (AJ rfl (AJ rfl (AJ rfl (AO rfl (AC rfl (AC rfl (AJ rfl (AJ rfl (AJ rfl (AJ rfl (AJ rfl (AJ rfl (AJ rfl (AJ rfl (AJ rfl (AJ rfl (AJ rfl (AJ rfl (AJ rfl (AJ rfl (AJ rfl (AO rfl (AC rfl (AC rfl (AJ rfl (AJ rfl (AJ rfl (AJ rfl (AJ rfl (AJ rfl (AJ rfl (AO rfl (AC rfl (AI ?_)))))))))))))))))))))))))))))))))))))))))))))))
     all_goals
      repeat refine nx rfl ?_
      exact Ar () ⟨rfl, congrArg Value.bool (by clear ih hf hS hFA hS' n1 b1 k1 hsz hal; simp [nodeR, numB0, *]), trivial⟩ kk
    ·refine AJ rfl ?_
     refine AJ rfl (AE rfl (AQ rfl (AC rfl (AQ rfl (AC rfl (AC rfl (AE rfl (AD rfl (AE rfl (AG rfl (Blk.cell (by assumption) (by rfl)) ?_))))))))))
     refine AE rfl ?_
     refine AS (rnumber_ok _ f.val) rfl ?_
     rintro _ w3 ⟨rfl, rfl⟩
     generalize hV : numB f.val = bV
     cases bV with
     | false =>
      refine AE rfl (BL rfl (AQ rfl (AC rfl (AC rfl (AJ rfl (AJ rfl (AJ rfl (AJ rfl (AO rfl (AC rfl (AC rfl (AJ rfl (AJ rfl (AJ rfl (AJ rfl (AJ rfl (AJ rfl (AJ rfl (AJ rfl (AJ rfl (AJ rfl (AJ rfl (AJ rfl (AJ rfl (AJ rfl (AJ rfl (AO rfl (AC rfl (AC rfl (AJ rfl (AJ rfl (AJ rfl (AJ rfl (AJ rfl (AJ rfl (AJ rfl (AO rfl (AC rfl (AI ?_)))))))))))))))))))))))))))))))))))))))
      all_goals
       repeat refine nx rfl ?_
       exact Ar () ⟨rfl, congrArg Value.bool (by clear ih hf hS hFA hS' n1 b1 k1 hsz hal; simp [nodeR, numB0, *]), trivial⟩ kk
     | true =>
      refine AE rfl (BL rfl (AQ rfl (AC rfl (AC rfl (AE rfl (AD rfl (AE rfl (AG rfl (Blk.cell (by assumption) (by rfl)) ?_))))))))
      refine AE rfl ?_
      refine AS (rnumber_ok _ f.bound) rfl ?_
      rintro _ w4 ⟨rfl, rfl⟩
      generalize hBd : numB f.bound = bBd
      cases bBd with
      | false =>
       refine AE rfl (BL rfl (AQ rfl (AC rfl (AC rfl (AJ rfl (AJ rfl (AJ rfl (AJ rfl (AJ rfl (AJ rfl (AJ rfl (AJ rfl (AJ rfl (AJ rfl (AJ rfl (AJ rfl (AJ rfl (AJ rfl (AJ rfl (AO rfl (AC rfl (AC rfl (AJ rfl (AJ rfl (AJ rfl (AJ rfl (AJ rfl (AJ rfl (AJ rfl (AO rfl (AC rfl (AI ?_))))))))))))))))))))))))))))))))
       all_goals
        repeat refine nx rfl ?_
        exact Ar () ⟨rfl, congrArg Value.bool (by clear ih hf hS hFA hS' n1 b1 k1 hsz hal; simp [nodeR, numB0, *]), trivial⟩ kk
      | true =>
       cases bS <;> cases bL <;> cases bB
       all_goals
        (refine AE rfl (BL rfl (AQ rfl (AC rfl (AC rfl (AE rfl (AD rfl (AE rfl (AG rfl (Blk.cell (by assumption) (by rfl)) ?_)))))))) <;> (refine AE rfl ?_; (refine W_neq rfl rfl (fun hc => ?_) (fun hc => ?_) <;> try omega)) <;> refine AE rfl (AC rfl ?_) <;> (first | refine AJ rfl ?_ | (refine AE rfl ?_; refine AC rfl ?_)) <;> (first | refine AJ rfl ?_ | (refine AE rfl ?_; refine BL rfl ?_)) <;> (refine AE rfl ?_; ((first | refine AO rfl ?_ | refine AQ rfl ?_); refine AC rfl ?_)) <;> refine AE rfl (AC rfl ?_) <;> (first | refine AJ rfl ?_ | (refine AE rfl ?_; refine AC rfl ?_)) <;> (first | refine AJ rfl ?_ | (refine AE rfl ?_; refine BL rfl ?_)) <;> (refine AE rfl ?_; ((first | refine AO rfl ?_ | refine AQ rfl ?_); refine AC rfl ?_)) <;> refine AE rfl (AC rfl ?_) <;> (first | refine AJ rfl ?_ | (refine AE rfl ?_; refine AC rfl ?_)) <;> (first | refine AJ rfl ?_ | (refine AE rfl ?_; refine BL rfl ?_)) <;> (refine AE rfl ?_; ((first | refine AO rfl ?_ | refine AQ rfl ?_); refine AC rfl ?_)) <;> refine AQ rfl (AC rfl (AC rfl ?_)) <;> (first | refine AJ rfl ?_ | (refine AE rfl ?_; refine AD rfl ?_)) <;> (first | refine AJ rfl ?_ | (refine AE rfl ?_; refine AG rfl (Blk.cell (by assumption) (by rfl)) ?_)) <;> (first | refine AJ rfl ?_ | (refine AE rfl ?_; (refine W_neq rfl rfl (fun hc => ?_) (fun hc => ?_) <;> try omega))) <;> (first | refine AJ rfl ?_ | (refine AE rfl ?_; refine AC rfl ?_)) <;> (first | refine AJ rfl ?_ | (refine AE rfl ?_; refine AC rfl ?_)) <;> (first | refine AJ rfl ?_ | (refine AE rfl ?_; refine BL rfl ?_)) <;> (first | refine AJ rfl ?_ | (refine AE rfl ?_; ((first | refine AO rfl ?_ | refine AQ rfl ?_); refine AC rfl ?_))) <;> ((first | refine AO rfl ?_ | refine AQ rfl ?_); refine AC rfl ?_) <;> refine AI ?_)
       all_goals
        repeat refine nx rfl ?_
        exact Ar () ⟨rfl, congrArg Value.bool (by clear ih hf hS hFA hS' n1 b1 k1 hsz hal; simp [nodeR, numB0, *]), trivial⟩ kk
 rintro _ w5 f5 k5
 have b5 := b1.keep k5 (by simp)
 have d4 : w5.cell? ⟨w.heap.size, 0 + 4, none⟩ = some (.slice a f.args.length c) := b5.cell rfl
 generalize hnr : nodeR f = nr
 rw [nodeR_eq] at hnr
 cases nr with
 | false =>
  repeat refine nx rfl ?_
  refine AA (AB (AC rfl ?_))
  repeat refine nx rfl ?_
  exact AP rfl ⟨by rw [okF_eq, hnr]; rfl, k1.trans k5⟩
 | true =>
 repeat first | refine nx rfl ?_ | refine nf rfl ?_
 refine AA (AB (AH rfl ?_))
 repeat refine nx rfl ?_
 have k15 := k1.trans k5
 refine BY (α := Nat) (fun k => [(1, pt w.heap.size), (7, .int .i64 (k : Int))]) (fun k W => k ≤ f.args.length ∧ okL (f.args.take k) = true ∧ Ext w5 W) (fun k => f.args.length - k) 0 ⟨rfl, rfl, trivial⟩ ⟨by simp, rfl, Ext.refl _⟩ ?_
 rintro k w6 f6 ⟨hk, hok, k6⟩
 have e4 := k6.cell d4 (by simp)
 repeat refine nx rfl ?_
 by_cases hlt : k < f.args.length
 ·(refine AA (AH rfl (AD rfl (AG rfl (by assumption) ?_))) <;> refine As rfl (BM rfl rfl (by omega) ?_))
  repeat refine nx rfl ?_
  obtain ⟨x, hx⟩ : ∃ x, f.args[k]? = some x := ⟨_, List.getElem?_eq_getElem hlt⟩
  obtain ⟨cx, hcx⟩ : ∃ cx, L[k]? = some cx := ⟨_, List.getElem?_eq_getElem (by rw [hFA.1]; exact hlt)⟩
  obtain ⟨ba, oa, rfl, hba, hcellx⟩ := hS.fml hFA.2.1 hcx hlt
  have hxm := szL_mem (List.mem_of_getElem? hx)
  have kw := k15.trans k6
  have hfx : FAt BH w6 (.agg cx.toArray) x := (hFA.2.2 k cx x hcx hx).ext kw
  have hcx6 := hcellx.keep kw (by simp)
  (refine AA (AD rfl (AG rfl (by assumption) ?_)) <;> refine AH rfl ?_)
  refine CH (k := k) rfl rfl rfl (by omega) ?_
  refine AZ (L := cx) rfl (hFA.2.1 cx (List.mem_of_getElem? hcx)) hcx6 ?_
  refine AS (ih x (by omega) (by omega) w6 _ hfx) rfl ?_
  rintro _ w7 ⟨rfl, k7⟩
  generalize hox : okF x = ox
  refine BL rfl ?_
  cases ox with
  | false =>
   rw [Bool.not_false]
   repeat refine nx rfl ?_
   refine AA (AB (AC rfl ?_))
   repeat refine nx rfl ?_
   refine AP rfl ⟨?_, (k15.trans k6).trans k7⟩
   have : okF f = false := by
    rw [okF_eq]
    cases hc2 : okL f.args with
    | false => simp
    | true => have := okL_mem hc2 x (List.mem_of_getElem? hx); rw [hox] at this; cases this
   rw [this]; rfl
  | true =>
   rw [Bool.not_true]
   repeat first | refine nx rfl ?_ | refine nf rfl ?_
   (refine AA (AH rfl (BR rfl rfl (by first | exact Al (by omega) (by omega) | exact At (by omega) (by omega) | exact Am (by omega) (by omega)) ?_)) <;> refine AB (AH rfl ?_))
   repeat refine nx rfl ?_
   refine ⟨k + 1, ⟨rfl, ⟨rfl, ?_, trivial⟩, ⟨hlt, ?_, k6.trans k7⟩⟩, by omega⟩
   ·show Value.int .i64 ((k : Int) + 1) = _
    rw [Int.natCast_add]; rfl
   ·have e : f.args.take (k + 1) = f.args.take k ++ [x] := by rw [List.take_add_one, hx]; rfl
    rw [e, okL_app, hok]
    simp [okL, hox]
 ·(refine AA (AH rfl (AD rfl (AG rfl (by assumption) ?_))) <;> refine As rfl (BN rfl rfl (by omega) ?_))
  repeat first | refine nx rfl ?_ | refine nf rfl ?_
  refine AA (AB (AC rfl ?_))
  repeat refine nx rfl ?_
  have e : k = f.args.length := by omega
  subst e
  rw [List.take_length] at hok
  exact AP rfl ⟨by rw [okF_eq, hnr, hok]; rfl, k15.trans k6⟩
end Go.Proofs.YtfcgdbmoncnibaaGreatDoor
namespace Go.Proofs.YtfcgdbmoncnibaaGreatDoor
open Go.RowKit
set_option linter.unusedVariables false
end Go.Proofs.YtfcgdbmoncnibaaGreatDoor
namespace Go.Proofs.YtfcgdbmoncnibaaGreatDoor
open Go.RowKit
set_option linter.unusedVariables false
end Go.Proofs.YtfcgdbmoncnibaaGreatDoor
namespace Go.Proofs.YtfcgdbmoncnibaaGreatDoor
open Go.RowKit
set_option linter.unusedVariables false
end Go.Proofs.YtfcgdbmoncnibaaGreatDoor
namespace Go.Proofs.YtfcgdbmoncnibaaGreatDoor
open Go.RowKit
set_option linter.unusedVariables false
end Go.Proofs.YtfcgdbmoncnibaaGreatDoor
namespace Go.Proofs.YtfcgdbmoncnibaaGreatDoor
open Go.RowKit
set_option linter.unusedVariables false
theorem capped_ok : ∀ (N : Nat) (f : Fml), szF f ≤ N → ∀ (w : World) (v : Value) (l : Nat), l ≤ 1000000 → FAt BH w v f → Fn Tryz.prog 41 [v, .int .i64 (l : Int)] w fun u w' => u = .int .i64 ((min (szF f) (l + 1) : Nat) : Int) ∧ Ext w w' := by
 intro N
 induction N with
 | zero => intro f hN; have := szF_pos f; omega
 | succ N ih =>
 intro f hN w v l hl hf
 obtain ⟨av, rfl, L, hS, hFA⟩ := hf.form
 obtain ⟨a, c, rfl, hS'⟩ := id hS
 have hcap : f.args.length ≤ 9223372036854775807 := by obtain ⟨h1, h2, _⟩ := hS'; omega
 have hsz := szF_eq f
 refine Ad Tryz.func41 rfl Tryz.ntmps41 (Nat.le_of_ble_eq_true rfl) (by kernel_rfl) ?_
 repeat refine nx rfl ?_
 (refine AA ?_; refine Bs (L := fcC f (.slice a f.args.length c)) rfl (fun w1 n1 => ?_))
 have b1 := n1.blk
 have k1 := n1.keep
 have c4 : w1.cell? ⟨w.heap.size, 0 + 4, none⟩ = some (.slice a f.args.length c) := b1.cell rfl
 refine AB (AH rfl ?_)
 repeat refine nx rfl ?_
 refine AA (AB (AH rfl ?_))
 repeat refine nx rfl ?_
 refine AA (AB (AH rfl ?_))
 repeat refine nx rfl ?_
 refine BY (α := Nat) (fun k => [(1, .int .i64 (l : Int)), (2, pt w.heap.size), (5, .int .i64 ((min (1 + szL (f.args.take k)) (l + 1) : Nat) : Int)), (6, .int .i64 (k : Int))]) (fun k W => k ≤ f.args.length ∧ Ext w1 W) (fun k => f.args.length - k) 0 ⟨rfl, rfl, congrArg (Value.int .i64) (by simp [szL]; try omega), rfl, trivial⟩ ⟨by simp, Ext.refl _⟩ ?_
 rintro k w2 f2 ⟨hk, k2⟩
 have e4 := k2.cell c4 (by simp)
 have kw := k1.trans k2
 have htl : szL (f.args.take k) ≤ szL f.args := by
  have : ∀ l m : List Fml, szL (l ++ m) = szL l + szL m := by
   intro l
   induction l with
   | nil => intro m; simp [szL]
   | cons a l ih2 => intro m; simp only [List.cons_append, szL, ih2 m]; omega
  have h2 := this (f.args.take k) (f.args.drop k)
  rw [List.take_append_drop] at h2
  omega
 repeat refine nx rfl ?_
 generalize hn : min (1 + szL (f.args.take k)) (l + 1) = n
 by_cases hlt : k < f.args.length
 ·by_cases hnl : n ≤ l
  ·(refine AA (AH rfl (AD rfl (AG rfl (by assumption) ?_))) <;> refine As rfl (BM rfl rfl (by omega) (AC rfl (AE rfl (AH rfl (AE rfl (AH rfl (AE rfl (W_leqT rfl rfl (by omega) (AO rfl (AC rfl ?_)))))))))))
   repeat refine nx rfl ?_
   obtain ⟨x, hx⟩ : ∃ x, f.args[k]? = some x := ⟨_, List.getElem?_eq_getElem hlt⟩
   obtain ⟨cx, hcx⟩ : ∃ cx, L[k]? = some cx := ⟨_, List.getElem?_eq_getElem (by rw [hFA.1]; exact hlt)⟩
   obtain ⟨ba, oa, rfl, hba, hcellx⟩ := hS.fml hFA.2.1 hcx hlt
   have hxm := szL_mem (List.mem_of_getElem? hx)
   have hfx : FAt BH w2 (.agg cx.toArray) x := (hFA.2.2 k cx x hcx hx).ext kw
   have hcx2 := hcellx.keep kw (by simp)
   have htk : szL (f.args.take (k + 1)) = szL (f.args.take k) + szF x := by
    rw [List.take_add_one, hx]
    have : ∀ l : List Fml, szL (l ++ [x]) = szL l + szF x := by
     intro l
     induction l with
     | nil => simp [szL]
     | cons a l ih2 => simp only [List.cons_append, szL, ih2]; omega
    exact this _
   (refine AA (AH rfl (AD rfl (AG rfl (by assumption) ?_))) <;> refine AH rfl ?_)
   refine CH (k := k) rfl rfl rfl (by omega) ?_
   refine AZ (L := cx) rfl (hFA.2.1 cx (List.mem_of_getElem? hcx)) hcx2 ?_
   refine AH rfl (AH rfl (W_sub rfl rfl (by first | exact Al (by omega) (by omega) | exact At (by omega) (by omega) | exact Am (by omega) (by omega)) ?_))
   have esub : (l : Int) - (n : Int) = ((l - n : Nat) : Int) := by omega
   rw [esub]
   refine AS (ih x (by omega) w2 _ (l - n) (by omega) hfx) rfl ?_
   rintro _ w3 ⟨rfl, k3⟩
   have hmin : min (szF x) (l - n + 1) ≤ l + 1 := by omega
   (refine BR rfl rfl (by first | exact Al (by omega) (by omega) | exact At (by omega) (by omega) | exact Am (by omega) (by omega)) ?_ <;> refine AB (AH rfl ?_))
   repeat refine nx rfl ?_
   (refine AA (AH rfl (BR rfl rfl (by first | exact Al (by omega) (by omega) | exact At (by omega) (by omega) | exact Am (by omega) (by omega)) ?_)) <;> refine AB (AH rfl ?_))
   repeat refine nx rfl ?_
   refine ⟨k + 1, ⟨rfl, ⟨rfl, rfl, ?_, ?_, trivial⟩, ⟨hlt, k2.trans k3⟩⟩, by omega⟩
   ·refine congrArg (Value.int .i64) ?_
    rw [htk]
    show (n : Int) + ((min (szF x) (l - n + 1) : Nat) : Int) = _
    omega
   ·show Value.int .i64 ((k : Int) + 1) = _
    rw [Int.natCast_add]; rfl
  ·(refine AA (AH rfl (AD rfl (AG rfl (by assumption) ?_))) <;> refine As rfl (BM rfl rfl (by omega) (AC rfl (AE rfl (AH rfl (AE rfl (AH rfl (AE rfl (W_leqF rfl rfl (by omega) (AO rfl (AC rfl ?_)))))))))))
   repeat first | refine nx rfl ?_ | refine nf rfl ?_
   refine AA (AH rfl (AB (AH rfl ?_)))
   repeat refine nx rfl ?_
   refine AP rfl ⟨congrArg (Value.int .i64) ?_, kw⟩
   omega
 ·have e : k = f.args.length := by omega
  subst e
  rw [List.take_length] at hn
  (refine AA (AH rfl (AD rfl (AG rfl (by assumption) ?_))) <;> refine As rfl (BN rfl rfl (by omega) (AC rfl (AJ rfl (AJ rfl (AJ rfl (AQ rfl (AC rfl ?_))))))))
  repeat first | refine nx rfl ?_ | refine nf rfl ?_
  refine AA (AH rfl (AB (AH rfl ?_)))
  repeat refine nx rfl ?_
  refine AP rfl ⟨congrArg (Value.int .i64) ?_, kw⟩
  omega
theorem rsmall_ok (w : World) (v : Value) (f : Fml) (l : Nat) (hl : l ≤ 1000000) (hf : FAt BH w v f) : Fn Tryz.prog 11 [v, .int .i64 (l : Int)] w fun u w' => u = .bool (decide (szF f ≤ l)) ∧ Ext w w' := by
 obtain ⟨av, rfl, L, hS, hFA⟩ := hf.form
 refine Ad Tryz.func11 rfl Tryz.ntmps11 (Nat.le_of_ble_eq_true rfl) (by kernel_rfl) ?_
 repeat refine nx rfl ?_
 (refine AA ?_; refine Bs (L := fcC f av) rfl (fun w1 n1 => ?_))
 have b1 := n1.blk
 have k1 := n1.keep
 refine AB (AC rfl ?_)
 repeat refine nx rfl ?_
 refine AA (AW (L := fcC f av) rfl b1 rfl ?_)
 refine AH rfl ?_
 refine AS (capped_ok _ f (Nat.le_refl _) w1 _ l hl (hf.ext k1)) rfl ?_
 rintro _ w2 ⟨rfl, k2⟩
 by_cases h : szF f ≤ l
 ·refine AH rfl (W_leqT rfl rfl (by omega) (AB (AC rfl ?_)))
  repeat refine nx rfl ?_
  exact AP rfl ⟨congrArg Value.bool (by simp [h]), k1.trans k2⟩
 ·refine AH rfl (W_leqF rfl rfl (by omega) (AB (AC rfl ?_)))
  repeat refine nx rfl ?_
  exact AP rfl ⟨congrArg Value.bool (by simp [h]), k1.trans k2⟩
end Go.Proofs.YtfcgdbmoncnibaaGreatDoor
namespace Go.Proofs.YtfcgdbmoncnibaaGreatDoor
open Go.RowKit
set_option linter.unusedVariables false
end Go.Proofs.YtfcgdbmoncnibaaGreatDoor
namespace Go.Proofs.YtfcgdbmoncnibaaGreatDoor
set_option linter.unusedVariables false
theorem whole_back {nt : NT} {l r : List Tok} {v : nt.T} (h : Run (whole nt) l (.ok (v, r))) : RunN nt l (.ok (v, [])) := by
 rcases Run.call_inv h with ⟨u, m, h1, h2⟩ | ⟨e, _, h2⟩
 ·cases m with
  | nil => cases h2.det (show Run (.look _) [] (.ok (u, [])) from Run.look (Run.ret _ _)); exact h1
  | cons x m => cases h2.det (show Run (.look _) (x :: m) (.error (x :: m)) from Run.look (Run.fail _))
 ·cases h2
theorem res_run {nt : NT} {t : List UInt8} {v : nt.T} (h : PRes nt t (.ok v)) : ∃ A, lexM t = .ok A ∧ RunN nt A (.ok (v, [])) := by
 unfold PRes at h
 cases hm : lexM t with
 | error e => rw [hm] at h; cases h
 | ok ts =>
  rw [hm] at h
  obtain ⟨a, h1, h2⟩ := h
  cases a with
  | ok y =>
   obtain ⟨u, r⟩ := y
   cases h2
   exact ⟨ts, rfl, whole_back h1⟩
  | error l => cases l <;> cases h2
theorem fml_read {f : Fml} (hok : okF f = true) : ReadL (prF 0 f) (tkF 0 f) := by
 have := (readsF _ f (Nat.le_refl _) hok 0 [] [] .nil ⟨rfl, by simp⟩).1
 rwa [List.append_nil, List.append_nil] at this
theorem fml_ne {f : Fml} (hok : okF f = true) : prF 0 f ≠ [] := by
 intro e
 have h := fml_read hok
 rw [e] at h
 obtain ⟨x, t, ht, _⟩ := tk_head _ f 0 (Nat.le_refl _) hok
 rw [ht] at h
 have := h.det ReadL.nil rfl
 cases this
theorem nums_of {ts : List Tok} (h : ∀ x ∈ ts, TokWf x) : NumsOk ts := fun x hx hk => by
 obtain ⟨h1, h4, hd⟩ := h x hx hk
 have h2 := numOf_le _ x.text rfl hd
 have h3 := topN_le h4
 omega
theorem parsed_phi {nt : NT} {t : List UInt8} {v : nt.T} (h : PRes nt t (.ok v)) : ∃ A, lexM t = .ok A ∧ Phi nt v A [] ∧ Sz nt v ≤ A.length ∧ A.length ≤ 2000 := by
 obtain ⟨A, hm, hr⟩ := res_run h
 obtain ⟨_, h2, h3⟩ := lexM_toks hm
 have h4 := run_sz hr
 rw [List.length_nil] at h4
 exact ⟨A, hm, run_phi (nums_of h3) h2 hr, by omega, h2⟩
end Go.Proofs.YtfcgdbmoncnibaaGreatDoor
namespace Go.Proofs.YtfcgdbmoncnibaaGreatDoor
set_option linter.unusedVariables false
variable {mk : Prop} [MK mk]
end Go.Proofs.YtfcgdbmoncnibaaGreatDoor
namespace Go.Proofs.YtfcgdbmoncnibaaGreatDoor
set_option linter.unusedVariables false
variable {mk : Prop} [MK mk]
end Go.Proofs.YtfcgdbmoncnibaaGreatDoor
namespace Go.Proofs.YtfcgdbmoncnibaaGreatDoor
set_option linter.unusedVariables false
variable {mk : Prop} [MK mk]
def cmpI (a b : Int) : Int := if a < b then -1 else if b < a then 1 else 0
def cmpS : List UInt8 → List UInt8 → Int
 | [], [] => 0
 | [], _ :: _ => -1
 | _ :: _, [] => 1
 | a :: s, b :: t => if a.toNat < b.toNat then -1 else if b.toNat < a.toNat then 1 else cmpS s t
def CM (a b : Int) : Int := if a = 0 then b else a
mutual
def cmpF : Fml → Fml → Int
 | .mk o n v b l, .mk o' n' v' b' l' => CM (cmpI o o') (CM (cmpS n n') (CM (cmpI v v') (CM (cmpI b b') (CM (cmpI l.length l'.length) (cmpL l l')))))
def cmpL : List Fml → List Fml → Int
 | a :: l, c :: m => CM (cmpF a c) (cmpL l m)
 | [], _ => 0
 | _ :: _, [] => 0
end
theorem thenI_zero {a b : Int} : CM a b = 0 ↔ a = 0 ∧ b = 0 := by
 unfold CM; split <;> simp_all
theorem cmpI_zero {a b : Int} : cmpI a b = 0 ↔ a = b := by unfold cmpI; split <;> (try split) <;> omega
theorem cmpS_zero : ∀ {s t : List UInt8}, cmpS s t = 0 ↔ s = t
 | [], [] => by simp [cmpS]
 | [], _ :: _ => by simp [cmpS]
 | _ :: _, [] => by simp [cmpS]
 | a :: s, b :: t => by
  rw [cmpS]
  split
  ·rename_i h
   refine ⟨fun h => by omega, fun h2 => ?_⟩
   cases h2; omega
  split
  ·rename_i h
   refine ⟨fun h => by omega, fun h2 => ?_⟩
   cases h2; omega
  ·rename_i h1 h2
   have : a = b := UInt8.toNat_inj.1 (by omega)
   rw [cmpS_zero, this]; simp
mutual
theorem cmpF_zero : ∀ (f g : Fml), cmpF f g = 0 ↔ f = g
 | .mk o n v b l, .mk o' n' v' b' l' => by
  rw [cmpF]
  simp only [thenI_zero, cmpI_zero, cmpS_zero, Fml.mk.injEq]
  constructor
  ·rintro ⟨rfl, rfl, rfl, rfl, h, h'⟩
   exact ⟨rfl, rfl, rfl, rfl, (cmpL_zero l l' (by omega)).1 h'⟩
  ·rintro ⟨rfl, rfl, rfl, rfl, rfl⟩
   exact ⟨rfl, rfl, rfl, rfl, rfl, (cmpL_zero l l rfl).2 rfl⟩
theorem cmpL_zero : ∀ (l m : List Fml), l.length = m.length → (cmpL l m = 0 ↔ l = m)
 | a :: l, c :: m, h => by
  rw [cmpL, thenI_zero, cmpF_zero a c, cmpL_zero l m (by simpa using h)]; simp
 | [], [], _ => by simp [cmpL]
 | [], _ :: _, h => by simp at h
 | _ :: _, [], h => by simp at h
end
end Go.Proofs.YtfcgdbmoncnibaaGreatDoor
namespace Go.Proofs.YtfcgdbmoncnibaaGreatDoor
open Go.RowKit
set_option linter.unusedVariables false
variable {mk : Prop} [MK mk]
theorem lib_cmpI (a b : Int) : Lib.compareInt a b = cmpI a b := by
 unfold Lib.compareInt cmpI
 rfl
theorem lib_cmpS : ∀ s t : List UInt8, Lib.compareBytes s t = cmpS s t
 | [], [] => rfl
 | [], _ :: _ => rfl
 | _ :: _, [] => rfl
 | a :: s, b :: t => by
  rw [Lib.compareBytes, cmpS, lib_cmpS s t]
  rfl
theorem cmpInt_ok (a b : Int) (w : World) : Fn Tryz.prog 101 [.int .i64 a, .int .i64 b] w fun v w' => v = .int .i64 (cmpI a b) ∧ w' = w := by
 refine Calls.mono (Tryz.cmp_Compare_int a b w) ?_
 rintro e w' ⟨rfl, rfl⟩
 exact ⟨by rw [lib_cmpI], rfl⟩
theorem cmpStr_ok (a b : List UInt8) (w : World) : Fn Tryz.prog 102 [AM a, AM b] w fun v w' => v = .int .i64 (cmpS a b) ∧ w' = w := by
 refine Calls.mono (Tryz.strings_Compare ⟨a.toArray⟩ ⟨b.toArray⟩ w) ?_
 rintro e w' ⟨rfl, rfl⟩
 exact ⟨by rw [lib_cmpS], rfl⟩
def cmpN (f g : Fml) : Int := CM (cmpI f.op g.op) (CM (cmpS f.name g.name) (CM (cmpI f.val g.val) (CM (cmpI f.bound g.bound) (cmpI f.args.length g.args.length))))
theorem thenI_ne {a b : Int} (h : a ≠ 0) : CM a b = a := if_neg h
theorem CF {a b : Int} (h : a = 0) : CM a b = b := if_pos h
theorem cmpF_split (f g : Fml) : cmpF f g = CM (cmpN f g) (cmpL f.args g.args) := by
 obtain ⟨o, n, v, b, l⟩ := f
 obtain ⟨o', n', v', b', l'⟩ := g
 rw [cmpF]
 simp only [cmpN, Fml.op, Fml.name, Fml.val, Fml.bound, Fml.args]
 have h : ∀ a b c : Int, CM (CM a b) c = CM a (CM b c) := by
  intro a b c
  unfold CM
  by_cases h : a = 0
  ·rw [if_pos h, if_pos h]
  ·rw [if_neg h, if_neg h, if_neg h]
 simp only [h]
set_option maxHeartbeats 1600000 in
theorem cmpNodes_ok (w : World) (b o b' o' : Nat) (f g : Fml) (hf : PF BH w b o f) (hg : PF BH w b' o' g) :
  Fn Tryz.prog 61 [.pointer (some ⟨b, o, none⟩), .pointer (some ⟨b', o', none⟩)] w fun v w' => v = .int .i64 (cmpN f g) ∧ Ext w w' := by
 obtain ⟨_, a, c, L, hc, _, _⟩ := hf.form
 obtain ⟨_, a', c', L', hc', _, _⟩ := hg.form
 have x0 : w.cell? ⟨b, o + 0, none⟩ = some (.int .i64 f.op) := hc 0 _ rfl
 have x1 : w.cell? ⟨b, o + 1, none⟩ = some (AM f.name) := hc 1 _ rfl
 have x2 : w.cell? ⟨b, o + 2, none⟩ = some (.int .i64 f.val) := hc 2 _ rfl
 have x3 : w.cell? ⟨b, o + 3, none⟩ = some (.int .i64 f.bound) := hc 3 _ rfl
 have x4 : w.cell? ⟨b, o + 4, none⟩ = some (.slice a f.args.length c) := hc 4 _ rfl
 have y0 : w.cell? ⟨b', o' + 0, none⟩ = some (.int .i64 g.op) := hc' 0 _ rfl
 have y1 : w.cell? ⟨b', o' + 1, none⟩ = some (AM g.name) := hc' 1 _ rfl
 have y2 : w.cell? ⟨b', o' + 2, none⟩ = some (.int .i64 g.val) := hc' 2 _ rfl
 have y3 : w.cell? ⟨b', o' + 3, none⟩ = some (.int .i64 g.bound) := hc' 3 _ rfl
 have y4 : w.cell? ⟨b', o' + 4, none⟩ = some (.slice a' g.args.length c') := hc' 4 _ rfl
 clear hc hc'
 have kw : Ext w w := Ext.refl w
 have qx0 : ∀ W, Ext w W → W.cell? ⟨b, o + 0, none⟩ = some (.int .i64 f.op) := fun W e => e.cell x0 (by simp)
 have qx1 : ∀ W, Ext w W → W.cell? ⟨b, o + 1, none⟩ = some (AM f.name) := fun W e => e.cell x1 (by simp)
 have qx2 : ∀ W, Ext w W → W.cell? ⟨b, o + 2, none⟩ = some (.int .i64 f.val) := fun W e => e.cell x2 (by simp)
 have qx3 : ∀ W, Ext w W → W.cell? ⟨b, o + 3, none⟩ = some (.int .i64 f.bound) := fun W e => e.cell x3 (by simp)
 have qx4 : ∀ W, Ext w W → W.cell? ⟨b, o + 4, none⟩ = some (.slice a f.args.length c) := fun W e => e.cell x4 (by simp)
 have qy0 : ∀ W, Ext w W → W.cell? ⟨b', o' + 0, none⟩ = some (.int .i64 g.op) := fun W e => e.cell y0 (by simp)
 have qy1 : ∀ W, Ext w W → W.cell? ⟨b', o' + 1, none⟩ = some (AM g.name) := fun W e => e.cell y1 (by simp)
 have qy2 : ∀ W, Ext w W → W.cell? ⟨b', o' + 2, none⟩ = some (.int .i64 g.val) := fun W e => e.cell y2 (by simp)
 have qy3 : ∀ W, Ext w W → W.cell? ⟨b', o' + 3, none⟩ = some (.int .i64 g.bound) := fun W e => e.cell y3 (by simp)
 have qy4 : ∀ W, Ext w W → W.cell? ⟨b', o' + 4, none⟩ = some (.slice a' g.args.length c') := fun W e => e.cell y4 (by simp)
 clear x0 x1 x2 x3 x4 y0 y1 y2 y3 y4
 refine Ad Tryz.func61 rfl Tryz.ntmps61 (Nat.le_of_ble_eq_true rfl) (by kernel_rfl) ?_
 repeat refine nx rfl ?_
 refine AA (AB (AH rfl ?_))
 repeat refine nx rfl ?_
 by_cases h0 : f.op = g.op
 rotate_left
 ·refine A7 (.read 0 (.read 1 (.read 2 (.read 3 (.read 4 (.read 5 (.read 6 (.read 7 (.read 8 (.read 9 .done)))))))))) BA (by kernel_rfl) (fun wd kd ed => ⟨Ext w, ?_, ?_⟩)
  ·exact kw.trans kd
  replace kw := kw.trans kd
  refine D_R rfl rfl (fun W hW => AK rfl Z3) (D_R rfl rfl (fun W hW => AF rfl Z3) (D_R rfl rfl (fun W hW => AD rfl Z3) (D_R rfl rfl (fun W hW => AG rfl (qx0 W hW) Z3) (D_R rfl rfl (fun W hW => AK rfl Z3) (D_R rfl rfl (fun W hW => AF rfl Z3) (D_R rfl rfl (fun W hW => AD rfl Z3) (D_R rfl rfl (fun W hW => AG rfl (qy0 W hW) Z3) (D_neqT rfl rfl rfl rfl (by omega) (D_R rfl rfl (fun W hW => AB (AC rfl Z3)) (Ay ?_))))))))))
  repeat refine nx rfl ?_
  have n0 : cmpI f.op g.op ≠ 0 := fun e => h0 (cmpI_zero.1 e)
  refine A7 (.read 0 (.read 1 (.read 2 (.read 3 (.read 4 (.read 5 (.read 6 (.read 7 (.alt 8 (.read 9 .done) .stop))))))))) BA (by kernel_rfl) (fun wd kd ed => ⟨Ext w, ?_, ?_⟩)
  ·exact kw.trans kd
  replace kw := kw.trans kd
  refine D_R rfl rfl (fun W hW => AK rfl Z3) (D_R rfl rfl (fun W hW => AF rfl Z3) (D_R rfl rfl (fun W hW => AD rfl Z3) (D_R rfl rfl (fun W hW => AG rfl (qx0 W hW) Z3) (D_R rfl rfl (fun W hW => AK rfl Z3) (D_R rfl rfl (fun W hW => AF rfl Z3) (D_R rfl rfl (fun W hW => AD rfl Z3) (D_R rfl rfl (fun W hW => AG rfl (qy0 W hW) Z3) ?_)))))))
  refine D_E rfl ?_
  refine AS (cmpInt_ok f.op g.op _) rfl ?_
  rintro _ _ ⟨rfl, rfl⟩
  refine AI ⟨Ext w, fun _ e => e, kw, ?_⟩
  refine D_R rfl rfl (fun W hW => AB (AH rfl Z3)) (Ay ?_)
  repeat refine nx rfl ?_
  exact AP rfl ⟨congrArg (Value.int .i64) (by simp only [cmpN]; rw [thenI_ne n0]), kw⟩
 have z0 := cmpI_zero.2 h0
 refine A7 (.read 0 (.read 1 (.read 2 (.read 3 (.read 4 (.read 5 (.read 6 (.read 7 (.read 8 (.read 9 .done)))))))))) BA (by kernel_rfl) (fun wd kd ed => ⟨Ext w, ?_, ?_⟩)
 ·exact kw.trans kd
 replace kw := kw.trans kd
 refine D_R rfl rfl (fun W hW => AK rfl Z3) (D_R rfl rfl (fun W hW => AF rfl Z3) (D_R rfl rfl (fun W hW => AD rfl Z3) (D_R rfl rfl (fun W hW => AG rfl (qx0 W hW) Z3) (D_R rfl rfl (fun W hW => AK rfl Z3) (D_R rfl rfl (fun W hW => AF rfl Z3) (D_R rfl rfl (fun W hW => AD rfl Z3) (D_R rfl rfl (fun W hW => AG rfl (qy0 W hW) Z3) (D_neqF rfl rfl rfl rfl (by omega) (D_R rfl rfl (fun W hW => AB (AC rfl Z3)) (Ay ?_))))))))))
 repeat first | refine nx rfl ?_ | refine nf rfl ?_
 refine A7 (.read 0 (.read 1 (.read 2 (.read 3 (.read 4 (.read 5 (.read 6 (.read 7 (.read 8 (.read 9 .done)))))))))) BA (by kernel_rfl) (fun wd kd ed => ⟨Ext w, ?_, ?_⟩)
 ·exact kw.trans kd
 replace kw := kw.trans kd
 (refine D_R rfl rfl (fun W hW => AK rfl Z3) (D_R rfl rfl (fun W hW => AF rfl Z3) (D_R rfl rfl (fun W hW => AD rfl Z3) (D_R rfl rfl (fun W hW => AG rfl (qx1 W hW) Z3) (D_R rfl rfl (fun W hW => AK rfl Z3) (D_R rfl rfl (fun W hW => AF rfl Z3) (D_R rfl rfl (fun W hW => AD rfl Z3) (D_R rfl rfl (fun W hW => AG rfl (qy1 W hW) Z3) ?_))))))) <;> (refine D_sneq rfl rfl rfl rfl (fun hc => ?_) (fun hc => ?_)) <;> refine D_R rfl rfl (fun W hW => AB (AC rfl Z3)) (Ay ?_))
 ·repeat refine nx rfl ?_
  have n1 : cmpS f.name g.name ≠ 0 := fun e => hc (cmpS_zero.1 e)
  refine A7 (.read 0 (.read 1 (.read 2 (.read 3 (.read 4 (.read 5 (.read 6 (.read 7 (.alt 8 (.read 9 .done) .stop))))))))) BA (by kernel_rfl) (fun wd kd ed => ⟨Ext w, ?_, ?_⟩)
  ·exact kw.trans kd
  replace kw := kw.trans kd
  refine D_R rfl rfl (fun W hW => AK rfl Z3) (D_R rfl rfl (fun W hW => AF rfl Z3) (D_R rfl rfl (fun W hW => AD rfl Z3) (D_R rfl rfl (fun W hW => AG rfl (qx1 W hW) Z3) (D_R rfl rfl (fun W hW => AK rfl Z3) (D_R rfl rfl (fun W hW => AF rfl Z3) (D_R rfl rfl (fun W hW => AD rfl Z3) (D_R rfl rfl (fun W hW => AG rfl (qy1 W hW) Z3) ?_)))))))
  refine D_E rfl ?_
  refine AS (cmpStr_ok f.name g.name _) rfl ?_
  rintro _ _ ⟨rfl, rfl⟩
  refine AI ⟨Ext w, fun _ e => e, kw, ?_⟩
  refine D_R rfl rfl (fun W hW => AB (AH rfl Z3)) (Ay ?_)
  repeat refine nx rfl ?_
  exact AP rfl ⟨congrArg (Value.int .i64) (by simp only [cmpN]; rw [CF z0, thenI_ne n1]), kw⟩
 have z1 := cmpS_zero.2 hc
 repeat first | refine nx rfl ?_ | refine nf rfl ?_
 by_cases h2 : f.val = g.val
 rotate_left
 ·refine A7 (.read 0 (.read 1 (.read 2 (.read 3 (.read 4 (.read 5 (.read 6 (.read 7 (.read 8 (.read 9 .done)))))))))) BA (by kernel_rfl) (fun wd kd ed => ⟨Ext w, ?_, ?_⟩)
  ·exact kw.trans kd
  replace kw := kw.trans kd
  refine D_R rfl rfl (fun W hW => AK rfl Z3) (D_R rfl rfl (fun W hW => AF rfl Z3) (D_R rfl rfl (fun W hW => AD rfl Z3) (D_R rfl rfl (fun W hW => AG rfl (qx2 W hW) Z3) (D_R rfl rfl (fun W hW => AK rfl Z3) (D_R rfl rfl (fun W hW => AF rfl Z3) (D_R rfl rfl (fun W hW => AD rfl Z3) (D_R rfl rfl (fun W hW => AG rfl (qy2 W hW) Z3) (D_neqT rfl rfl rfl rfl (by omega) (D_R rfl rfl (fun W hW => AB (AC rfl Z3)) (Ay ?_))))))))))
  repeat refine nx rfl ?_
  have n2 : cmpI f.val g.val ≠ 0 := fun e => h2 (cmpI_zero.1 e)
  refine A7 (.read 0 (.read 1 (.read 2 (.read 3 (.read 4 (.read 5 (.read 6 (.read 7 (.alt 8 (.read 9 .done) .stop))))))))) BA (by kernel_rfl) (fun wd kd ed => ⟨Ext w, ?_, ?_⟩)
  ·exact kw.trans kd
  replace kw := kw.trans kd
  refine D_R rfl rfl (fun W hW => AK rfl Z3) (D_R rfl rfl (fun W hW => AF rfl Z3) (D_R rfl rfl (fun W hW => AD rfl Z3) (D_R rfl rfl (fun W hW => AG rfl (qx2 W hW) Z3) (D_R rfl rfl (fun W hW => AK rfl Z3) (D_R rfl rfl (fun W hW => AF rfl Z3) (D_R rfl rfl (fun W hW => AD rfl Z3) (D_R rfl rfl (fun W hW => AG rfl (qy2 W hW) Z3) ?_)))))))
  refine D_E rfl ?_
  refine AS (cmpInt_ok f.val g.val _) rfl ?_
  rintro _ _ ⟨rfl, rfl⟩
  refine AI ⟨Ext w, fun _ e => e, kw, ?_⟩
  refine D_R rfl rfl (fun W hW => AB (AH rfl Z3)) (Ay ?_)
  repeat refine nx rfl ?_
  exact AP rfl ⟨congrArg (Value.int .i64) (by simp only [cmpN]; rw [CF z0, CF z1, thenI_ne n2]), kw⟩
 have z2 := cmpI_zero.2 h2
 refine A7 (.read 0 (.read 1 (.read 2 (.read 3 (.read 4 (.read 5 (.read 6 (.read 7 (.read 8 (.read 9 .done)))))))))) BA (by kernel_rfl) (fun wd kd ed => ⟨Ext w, ?_, ?_⟩)
 ·exact kw.trans kd
 replace kw := kw.trans kd
 refine D_R rfl rfl (fun W hW => AK rfl Z3) (D_R rfl rfl (fun W hW => AF rfl Z3) (D_R rfl rfl (fun W hW => AD rfl Z3) (D_R rfl rfl (fun W hW => AG rfl (qx2 W hW) Z3) (D_R rfl rfl (fun W hW => AK rfl Z3) (D_R rfl rfl (fun W hW => AF rfl Z3) (D_R rfl rfl (fun W hW => AD rfl Z3) (D_R rfl rfl (fun W hW => AG rfl (qy2 W hW) Z3) (D_neqF rfl rfl rfl rfl (by omega) (D_R rfl rfl (fun W hW => AB (AC rfl Z3)) (Ay ?_))))))))))
 repeat first | refine nx rfl ?_ | refine nf rfl ?_
 by_cases h3 : f.bound = g.bound
 rotate_left
 ·refine A7 (.read 0 (.read 1 (.read 2 (.read 3 (.read 4 (.read 5 (.read 6 (.read 7 (.read 8 (.read 9 .done)))))))))) BA (by kernel_rfl) (fun wd kd ed => ⟨Ext w, ?_, ?_⟩)
  ·exact kw.trans kd
  replace kw := kw.trans kd
  refine D_R rfl rfl (fun W hW => AK rfl Z3) (D_R rfl rfl (fun W hW => AF rfl Z3) (D_R rfl rfl (fun W hW => AD rfl Z3) (D_R rfl rfl (fun W hW => AG rfl (qx3 W hW) Z3) (D_R rfl rfl (fun W hW => AK rfl Z3) (D_R rfl rfl (fun W hW => AF rfl Z3) (D_R rfl rfl (fun W hW => AD rfl Z3) (D_R rfl rfl (fun W hW => AG rfl (qy3 W hW) Z3) (D_neqT rfl rfl rfl rfl (by omega) (D_R rfl rfl (fun W hW => AB (AC rfl Z3)) (Ay ?_))))))))))
  repeat refine nx rfl ?_
  have n3 : cmpI f.bound g.bound ≠ 0 := fun e => h3 (cmpI_zero.1 e)
  refine A7 (.read 0 (.read 1 (.read 2 (.read 3 (.read 4 (.read 5 (.read 6 (.read 7 (.alt 8 (.read 9 .done) .stop))))))))) BA (by kernel_rfl) (fun wd kd ed => ⟨Ext w, ?_, ?_⟩)
  ·exact kw.trans kd
  replace kw := kw.trans kd
  refine D_R rfl rfl (fun W hW => AK rfl Z3) (D_R rfl rfl (fun W hW => AF rfl Z3) (D_R rfl rfl (fun W hW => AD rfl Z3) (D_R rfl rfl (fun W hW => AG rfl (qx3 W hW) Z3) (D_R rfl rfl (fun W hW => AK rfl Z3) (D_R rfl rfl (fun W hW => AF rfl Z3) (D_R rfl rfl (fun W hW => AD rfl Z3) (D_R rfl rfl (fun W hW => AG rfl (qy3 W hW) Z3) ?_)))))))
  refine D_E rfl ?_
  refine AS (cmpInt_ok f.bound g.bound _) rfl ?_
  rintro _ _ ⟨rfl, rfl⟩
  refine AI ⟨Ext w, fun _ e => e, kw, ?_⟩
  refine D_R rfl rfl (fun W hW => AB (AH rfl Z3)) (Ay ?_)
  repeat refine nx rfl ?_
  exact AP rfl ⟨congrArg (Value.int .i64) (by simp only [cmpN]; rw [CF z0, CF z1, CF z2, thenI_ne n3]), kw⟩
 have z3 := cmpI_zero.2 h3
 refine A7 (.read 0 (.read 1 (.read 2 (.read 3 (.read 4 (.read 5 (.read 6 (.read 7 (.read 8 (.read 9 .done)))))))))) BA (by kernel_rfl) (fun wd kd ed => ⟨Ext w, ?_, ?_⟩)
 ·exact kw.trans kd
 replace kw := kw.trans kd
 refine D_R rfl rfl (fun W hW => AK rfl Z3) (D_R rfl rfl (fun W hW => AF rfl Z3) (D_R rfl rfl (fun W hW => AD rfl Z3) (D_R rfl rfl (fun W hW => AG rfl (qx3 W hW) Z3) (D_R rfl rfl (fun W hW => AK rfl Z3) (D_R rfl rfl (fun W hW => AF rfl Z3) (D_R rfl rfl (fun W hW => AD rfl Z3) (D_R rfl rfl (fun W hW => AG rfl (qy3 W hW) Z3) (D_neqF rfl rfl rfl rfl (by omega) (D_R rfl rfl (fun W hW => AB (AC rfl Z3)) (Ay ?_))))))))))
 repeat first | refine nx rfl ?_ | refine nf rfl ?_
 refine A7 (.read 0 (.read 1 (.read 2 (.read 3 (.read 4 (.read 5 (.read 6 (.read 7 (.read 8 (.read 9 (.alt 10 (.read 11 .done) .stop))))))))))) BA (by kernel_rfl) (fun wd kd ed => ⟨Ext w, ?_, ?_⟩)
 ·exact kw.trans kd
 replace kw := kw.trans kd
 refine D_R rfl rfl (fun W hW => AK rfl Z3) (D_R rfl rfl (fun W hW => AF rfl Z3) (D_R rfl rfl (fun W hW => AD rfl Z3) (D_R rfl rfl (fun W hW => AG rfl (qx4 W hW) Z3) (D_R rfl rfl (fun W hW => As rfl Z3) (D_R rfl rfl (fun W hW => AK rfl Z3) (D_R rfl rfl (fun W hW => AF rfl Z3) (D_R rfl rfl (fun W hW => AD rfl Z3) (D_R rfl rfl (fun W hW => AG rfl (qy4 W hW) Z3) (D_R rfl rfl (fun W hW => As rfl Z3) ?_)))))))))
 refine D_E rfl ?_
 refine AS (cmpInt_ok f.args.length g.args.length _) rfl ?_
 rintro _ _ ⟨rfl, rfl⟩
 refine AI ⟨Ext w, fun _ e => e, kw, ?_⟩
 refine D_R rfl rfl (fun W hW => AB (AH rfl Z3)) (Ay ?_)
 repeat refine nx rfl ?_
 exact AP rfl ⟨congrArg (Value.int .i64) (by simp only [cmpN]; rw [CF z0, CF z1, CF z2, CF z3]), kw⟩
end Go.Proofs.YtfcgdbmoncnibaaGreatDoor
namespace Go.Proofs.YtfcgdbmoncnibaaGreatDoor
open Go.RowKit
set_option linter.unusedVariables false
variable {mk : Prop} [MK mk]
theorem sl_same {ok ok' : Nat → Prop} {w : World} {a : Option Addr} {n c c' k : Nat} {cs cs' : List Value} (h : Sl ok w (.slice a n c) n cs) (h' : Sl ok' w (.slice a n c') n cs') (hl : cs.length = n * k) (hl' : cs'.length = n * k) : cs = cs' := by
 by_cases h0 : n = 0
 ·subst h0
  have e1 : cs = [] := List.eq_nil_of_length_eq_zero (by simpa using hl)
  have e2 : cs' = [] := List.eq_nil_of_length_eq_zero (by simpa using hl')
  rw [e1, e2]
 ·obtain ⟨_, _, e, _, _, _, h4⟩ := h
  obtain ⟨_, _, e', _, _, _, h4'⟩ := h'
  cases e; cases e'
  obtain ⟨b, o, rfl, _, hc⟩ := h4.resolve_left h0
  obtain ⟨b', o', e, _, hc'⟩ := h4'.resolve_left h0
  cases e
  refine List.ext_getElem? fun i => ?_
  by_cases hi : i < n * k
  ·have e1 := List.getElem?_eq_getElem (l := cs) (i := i) (by omega)
   have e2 := List.getElem?_eq_getElem (l := cs') (i := i) (by omega)
   have h1 := hc i _ e1
   have h2 := hc' i _ e2
   rw [e1, e2, ← h1, ← h2]
  ·rw [List.getElem?_eq_none (by omega), List.getElem?_eq_none (by omega)]
theorem flat_inj (n : Nat) (hn : 0 < n) : ∀ {L M : List (List Value)}, (∀ d ∈ L, d.length = n) → (∀ d ∈ M, d.length = n) → L.flatten = M.flatten → L = M
 | [], [], _, _, _ => rfl
 | [], d :: M, _, hM, e => by
  have := congrArg List.length e
  have h1 := hM d (by simp)
  simp only [List.flatten_nil, List.length_nil, List.flatten_cons, List.length_append] at this
  omega
 | c :: L, [], hL, _, e => by
  have := congrArg List.length e
  have h1 := hL c (by simp)
  simp only [List.flatten_nil, List.length_nil, List.flatten_cons, List.length_append] at this
  omega
 | c :: L, d :: M, hL, hM, e => by
  rw [List.flatten_cons, List.flatten_cons] at e
  obtain ⟨e1, e2⟩ := List.append_inj e (by rw [hL c (by simp), hM d (by simp)])
  rw [e1, flat_inj n hn (fun x hx => hL x (by simp [hx])) (fun x hx => hM x (by simp [hx])) e2]
theorem FAt.uniq {ok ok' : Nat → Prop} {w : World} : ∀ (f g : Fml) (v : Value), FAt ok w v f → FAt ok' w v g → f = g
 | .mk op nm x b args, g, v, hf, hg => by
  obtain ⟨av, rfl, L, hS, hL, h5, hA⟩ := hf.form
  obtain ⟨av', e, L', hS', hL', h5', hA'⟩ := hg.form
  simp only [Value.agg.injEq, Array.mk.injEq, List.cons.injEq, Value.int.injEq, true_and, and_true] at e
  obtain ⟨e1, e2, e3, e4, e5⟩ := e
  subst e5
  obtain ⟨a, c, rfl, hS0⟩ := id hS
  obtain ⟨a', c', e6, hS0'⟩ := id hS'
  have hlen : args.length = g.args.length := (Value.slice.inj e6).2.1
  have e7 : L.flatten = L'.flatten := by
   have hS2 : Sl ok' w (.slice a args.length c) args.length L'.flatten := by rw [hlen]; rw [← hlen]; exact hlen ▸ hS'
   refine sl_same (k := 5) hS hS2 ?_ ?_
   ·rw [CG 5 L h5, hL]
   ·rw [CG 5 L' h5', hL']; exact congrArg (· * 5) hlen.symm
  have e8 := flat_inj 5 (by omega) h5 h5' e7
  subst e8
  have e9 : args = g.args := by
   refine List.ext_getElem? fun i => ?_
   by_cases hi : i < args.length
   ·have hLi : L[i]? = some L[i] := List.getElem?_eq_getElem (by omega)
    have ha : args[i]? = some args[i] := List.getElem?_eq_getElem hi
    have hb : g.args[i]? = some g.args[i] := List.getElem?_eq_getElem (by omega)
    rw [ha, hb, FAt.uniq args[i] g.args[i] _ (hA i _ _ hLi ha) (hA' i _ _ hLi hb)]
   ·rw [List.getElem?_eq_none (by omega), List.getElem?_eq_none (by omega)]
  have e2' : nm = g.name := by
   have h2 : AM nm = AM g.name := e2
   simp only [AM, Value.string.injEq, ByteArray.mk.injEq] at h2
   simpa using congrArg Array.toList h2
  obtain ⟨o, n', v', b', l'⟩ := g
  have e1 : op = o := e1
  have e2 : nm = n' := e2'
  have e3 : x = v' := e3
  have e4 : b = b' := e4
  have e5 : args = l' := e9
  rw [e1, e2, e3, e4, e5]
 termination_by f => f
 decreasing_by
  have := List.sizeOf_lt_of_mem (List.getElem_mem hi)
  simp_wf
  omega
def FL (ok : Nat → Prop) (w : World) (v : Value) (l : List Fml) : Prop := ∃ a c L, v = .slice a l.length c ∧ Sl ok w (.slice a l.length c) l.length L.flatten ∧ FsAt ok w L l
theorem FL.keep {ok : Nat → Prop} {X : List Nat} {w w' : World} {v : Value} {l : List Fml} (h : FL ok w v l) (k : Keep X w w') (hX : ∀ b, ok b → b ∉ X) : FL ok w' v l := by
 obtain ⟨a, c, L, rfl, h1, h2⟩ := h
 exact ⟨a, c, L, rfl, h1.keep k hX, h2.keep k hX⟩
theorem PF.args {ok : Nat → Prop} {w : World} {b o : Nat} {f : Fml} (h : PF ok w b o f) : ∃ v, w.cell? ⟨b, o + 4, none⟩ = some v ∧ FL ok w v f.args := by
 obtain ⟨_, a, c, L, hc, hS, hF⟩ := h.form
 exact ⟨_, hc 4 _ rfl, a, c, L, rfl, hS, hF⟩
theorem FL.cons {ok : Nat → Prop} {w : World} {v : Value} {x : Fml} {l : List Fml} (h : FL ok w v (x :: l)) : ∃ b o c, v = .slice (some ⟨b, o, none⟩) (l.length + 1) c ∧ 1 ≤ c ∧ PF ok w b o x ∧ FL ok w (.slice (adv c 1 5 (some ⟨b, o, none⟩)) l.length (c - 1)) l := by
 obtain ⟨a, c, L, rfl, hS, hF⟩ := h
 obtain ⟨a', c', e, h1, h2, h3, h4⟩ := hS
 cases e
 obtain ⟨b, o, rfl, hb, hc⟩ := h4.resolve_left (by simp)
 obtain ⟨hL, h5, hA⟩ := hF
 match L, hL, h5, hA, hc with
 | d :: L, hL, h5, hA, hc =>
  have hd := h5 d (by simp)
  have hcd : Cells w b o d := fun i u hu => hc i u (by rw [List.flatten_cons, List.getElem?_append_left (List.getElem?_eq_some_iff.1 hu).1]; exact hu)
  have hLl : L.length = l.length := by simpa using hL
  refine ⟨b, o, c, rfl, by simp at h1; omega, ⟨hb, d, hd, hcd, hA 0 d x rfl rfl⟩, _, _, L, rfl, ⟨_, _, rfl, by simp at h1; omega, by omega, ?_, ?_⟩, hLl, fun c hc => h5 c (by simp [hc]), fun i c g hc hg => hA (i + 1) c g (by simpa using hc) (by simpa using hg)⟩
  ·intro ha
   unfold adv at ha
   split at ha
   ·cases ha
   ·simp at ha
  ·by_cases h0 : l.length = 0
   ·exact .inl h0
   ·refine .inr ⟨b, o + 5, ?_, hb, ?_⟩
    ·unfold adv
     rw [if_neg (by simp at h1; omega)]
     rfl
    ·intro i u hu
     have := hc (5 + i) u (by rw [List.flatten_cons, List.getElem?_append_right (by omega), hd, show 5 + i - 5 = i by omega]; exact hu)
     rw [Nat.add_assoc]; exact this
theorem FL.form {ok : Nat → Prop} {w : World} {v : Value} {l : List Fml} (h : FL ok w v l) : ∃ a c, v = .slice a l.length c := by
 obtain ⟨a, c, L, rfl, _⟩ := h
 exact ⟨a, c, rfl⟩
theorem PF.uniq {ok ok' : Nat → Prop} {w : World} {b o : Nat} {f g : Fml} (hf : PF ok w b o f) (hg : PF ok' w b o g) : f = g := by
 obtain ⟨_, d, hd, hc, h1⟩ := hf
 obtain ⟨_, d', hd', hc', h2⟩ := hg
 have : d = d' := by
  refine List.ext_getElem? fun i => ?_
  by_cases hi : i < 5
  ·have e1 := List.getElem?_eq_getElem (l := d) (i := i) (by omega)
   have e2 := List.getElem?_eq_getElem (l := d') (i := i) (by omega)
   rw [e1, e2, ← hc i _ e1, ← hc' i _ e2]
  ·rw [List.getElem?_eq_none (by omega), List.getElem?_eq_none (by omega)]
 subst this
 exact FAt.uniq f g _ h1 h2
theorem cell_blk {w : World} {b o : Nat} {v : Value} (h : w.cell? ⟨b, o, none⟩ = some v) : ∃ c t fr, w.heap[b]? = some (.cells c t fr) ∧ 0 < c.size ∧ c[o]? = some v := by
 unfold World.cell? at h
 split at h
 ·rename_i c t fr heq
  simp at h
  exact ⟨c, t, fr, heq, by have := (Array.getElem?_eq_some_iff.1 h).1; omega, h⟩
 ·cases h
theorem unm_blk {w : World} {b o : Nat} {n : Int} (hu : Unm w b) (h : w.cell? ⟨b, o, none⟩ = some (.int .i64 n)) : ∃ c t, w.heap[b]? = some (.cells c t (0, 0)) ∧ 0 < c.size := by
 obtain ⟨c, t, fr, h1, h2, h3⟩ := cell_blk h
 rcases hu c t fr h1 with rfl | h4
 ·exact ⟨c, t, h1, h2⟩
 ·obtain ⟨m, e⟩ := h4 o _ h3
  cases e
section
attribute [local semireducible] WC AU Bv BQ Bx Cr C5 Bp
variable {P : Program} {all : Array Oper} {Z : Fr → DS → List PanicEntry → World → Prop} {K : Fr → DS → World → Prop} {rest : List Oper} {f : Fr} {ds : DS} {w : World} {d : Nat} {ty : TypeId} {pos : String} {af : Array Edge}
theorem W_slice_arr_h {T e size len : Nat} {b o : Nat} {x hi : Operand} {k' : IntKind} {h' : Int} [hT : ArrT P T len e size] (hx : ev f x = .pointer (some ⟨b, o, none⟩)) (hh : ev f hi = .int k' h') (h1 : 0 ≤ h') (h2 : h' ≤ len)
  (h : AU P all Z K rest (upd f d (.slice (some ⟨b, o, none⟩) h'.toNat len)) ds w) : AU P all Z K (⟨some d, .slice T x none (some hi) none, ty, pos, af, none⟩ :: rest) f ds w := by
 obtain ⟨q, hq, hs⟩ := hT.out
 refine A3 rfl ?_ h
 simp only [execOp, hx, hh, Option.map_some, Option.map_none, Instr.sliceAt, Sem.run_bind, run_underlying hT.und, Result.andThen_ok, Instr.sureAddr, Instr.sliceBounds, Instr.sliceBound, asIntOf, Sem.run_pure, sizeOf, typeInfo, program]
 simp [Sem.run, hq, hs, h1, h2, Addr.add_lit]
theorem run_append_roomE (t ty e e0 : TypeId) (i : TypeInfo) (ht : P.underlying t = some (.slice e)) (hi : P.info? e = some i)
  (g sLen sCap : Nat) (cur : Array Value) (hg : w.heap[g]? = some (.cells cur e0 (0, 0)))
  (a : Addr) (m c : Nat) (news : List Value) (hl : news.length = m * i.size) (hnews : ∀ j u, news[j]? = some u → w.cell? (a.add j) = some u) (h1 : ∀ u ∈ news, u.oneCell' = true)
  (hroom : sLen + m ≤ sCap) (hfit : sLen * i.size + news.length ≤ cur.size) :
  (Builtin.append_ #[t, t] ty #[.slice (some ⟨g, 0, none⟩) sLen sCap, .slice (some a) m c]).run P w =
   .ok (.slice (some ⟨g, 0, none⟩) (sLen + m) sCap) (w.setRow g (cur.toList.take (sLen * i.size) ++ news ++ cur.toList.drop (sLen * i.size + news.length)).toArray) := by
 have hf := run_firstCells_some (P := P) w i.size m a m c news hl hnews
 have hst := run_storeCells_at P g (sLen * i.size) e0 news 0 cur w hg (by simpa using hfit) h1
 simp only [Nat.add_zero] at hst
 simp [Builtin.append_, run_underlying ht, sizeOf, typeInfo, hi, Builtin.lenOf, hroom, hf, Addr.add_lit, hst]
theorem W_append1 {T e e0 size bytes n cap g : Nat} {z : Value} {s x : Operand} {sv : Value} {cur : Array Value} {cs : List Value} {ok : Nat → Prop} [hT : SlT P T e size bytes z] (hv : ev f s = .slice (some ⟨g, 0, none⟩) n cap) (hx : ev f x = sv)
  (hg : w.heap[g]? = some (.cells cur e0 (0, 0))) (hcs : cur.size = cap * size) (hnc : n ≤ cap) (hcm : cap ≤ maxLen) (hs : Sl ok w sv 1 cs) (hsz : 0 < size) (hzs : z.cells.size = size) (hl : cs.length = size) (h1 : oneC cs) (hm : n + 1 ≤ 9223372036854775807) (hb : (n + 1) * bytes ≤ 140737488355328)
  (h : ∀ g' cap' e' (cur' : Array Value) w', (g' = g ∨ g' = w.heap.size) → w'.heap[g']? = some (.cells cur' e' (0, 0)) → cur'.size = cap' * size → n + 1 ≤ cap' → cap' ≤ maxLen → cur'.toList.take ((n + 1) * size) = cur.toList.take (n * size) ++ cs → Keep [g] w w' →
   AU P all Z K rest (upd f d (.slice (some ⟨g', 0, none⟩) (n + 1) cap')) ds w') :
  AU P all Z K (⟨some d, .call ⟨.builtin .append, #[s, x], #[T, T]⟩, ty, pos, af, none⟩ :: rest) f ds w := by
 obtain ⟨i, hi, hz, hsi, hby⟩ := hT.out
 obtain ⟨a, cp, rfl, hmc, _, hnil, hcells⟩ := hs
 obtain ⟨b, off, rfl, _, hc⟩ := hcells.resolve_left (by omega)
 have hnews : ∀ j u, cs[j]? = some u → w.cell? ((⟨b, off, none⟩ : Addr).add j) = some u := fun j u hu => by rw [Addr.add_lit]; exact hc j u hu
 have hsl : cs.length = 1 * i.size := by rw [hsi]; omega
 have htk : (cur.toList.take (n * size)).length = n * size := by
  rw [List.length_take, Array.length_toList, hcs]
  exact Nat.min_eq_left (Nat.mul_le_mul_right _ hnc)
 by_cases hroom : n + 1 ≤ cap
 ·have hfit : n * i.size + cs.length ≤ cur.size := by
   rw [hsi, hl, hcs, ← Nat.succ_mul]; exact Nat.mul_le_mul_right _ hroom
  have hr := run_append_roomE (P := P) (w := w) T ty e e0 i hT.und hi g n cap cur hg ⟨b, off, none⟩ 1 cp cs hsl hnews h1 hroom hfit
  refine A3 (w' := w.setRow g (cur.toList.take (n * i.size) ++ cs ++ cur.toList.drop (n * i.size + cs.length)).toArray) rfl (by simp [execOp, resolve, invoke, builtin, hv, hx, hr]) (h g cap e0 _ _ (.inl rfl) (setRow_heap w g cur _ e0 _ hg) ?_ hroom hcm ?_ ?_)
  ·simp only [List.size_toArray, List.length_append, List.length_take, List.length_drop, Array.length_toList]
   omega
  ·rw [hsi, List.append_assoc]
   have : (n + 1) * size = (cur.toList.take (n * size) ++ cs).length := by rw [List.length_append, htk, hl, Nat.succ_mul]
   rw [this, ← List.append_assoc]
   exact List.take_left
  ·exact ⟨rfl, rfl, rfl, by simp, fun k _ hk => setRow_other w g k _ (by simpa using hk), fun _ => mark_put (g := g) (by simp [World.setRow]) (fun k hk => setRow_other w g k _ hk) (Unm.cells (setRow_heap w g _ _ e0 _ hg))⟩
 ·have holds : ∀ j u, (cur.toList.take (n * size))[j]? = some u → w.cell? ((⟨g, 0, none⟩ : Addr).add j) = some u := fun j u hu => by
   rw [Addr.add_lit, Nat.zero_add]
   rw [List.getElem?_take] at hu
   split at hu
   ·simp only [World.cell?, hg]
    simpa using hu
   ·cases hu
  have hm63 : ((n + 1 : Nat) : Int) ≤ 9223372036854775807 := by omega
  have hr := run_append_grow (P := P) w T ty e i z hT.und hi hz ⟨g, 0, none⟩ n cap (cur.toList.take (n * size)) (by rw [hsi]; exact htk) holds ⟨b, off, none⟩ 1 cp cs hsl hnews (by omega) hm63 (by rw [hby]; exact growslice_fits (by omega) hb)
  refine A3 (w' := w.drew.alloc (.cells ((cur.toList.take (n * size)).toArray ++ cs.toArray ++ Builtin.zeroCells z.cells (grownCap w (n + 1) cap e - (n + 1))) e)) rfl (by simp [execOp, resolve, invoke, builtin, hv, hx, hr]) (h w.heap.size _ e _ _ (.inr rfl) (heap_alloc_new w.drew _) ?_ (grownCap_ge w (n + 1) cap e) (grownCap_le_maxLen w (n + 1) cap e (by unfold maxLen; omega)) ?_ ?_)
  ·simp only [Array.size_append, List.size_toArray, size_zeroCells, hzs, htk, hl]
   have hge := grownCap_ge w (n + 1) cap e
   rw [← Nat.succ_mul, ← Nat.add_mul]
   congr 1
   omega
  ·simp only [Array.toList_append, List.append_assoc]
   have : (n + 1) * size = (cur.toList.take (n * size) ++ cs).length := by rw [List.length_append, htk, hl, Nat.succ_mul]
   rw [this, ← List.append_assoc]
   exact List.take_left
  ·exact ⟨rfl, rfl, rfl, by simp, fun k hk _ => heap_alloc_old w.drew _ hk, fun _ => mark_new (by simp) (fun k hk => heap_alloc_old w.drew _ hk) (Unm.cells (heap_alloc_new w.drew _))⟩
end
end Go.Proofs.YtfcgdbmoncnibaaGreatDoor
