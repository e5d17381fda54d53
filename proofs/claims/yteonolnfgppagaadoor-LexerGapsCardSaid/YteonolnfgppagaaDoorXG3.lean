/- The lexer's laws: Gaps. Conditions: none. -/
import Derived.Test.YteonolnfgppagaaDoorXG2
import Derived.Test.YteonolnfgppagaaDoorXQ4
namespace Go.Proofs.YteonolnfgppagaaDoor
open Go.RowKit
set_option linter.unusedVariables false

theorem gaps_ok (t : List UInt8) (w : World) (hl : t.length ≤ 1000000) : Fn Tryd.prog 10 [strV t] w fun v w' => v = .bool (decide (gapW t 0 = t.length)) ∧ w' = w := by
  refine fn_of_wc Tryd.func10 rfl Tryd.ntmps10 (Nat.le_of_ble_eq_true rfl) (by kernel_rfl) ?_
  repeat'
    first
      | refine Q_then ?_ | refine C_cond_t rfl ?_ | refine C_cond_f rfl ?_ | refine C_seq ?_ | refine C_block ?_ | refine C_skip ?_ | refine C_ret ?_ | refine C_exit ?_
      | refine Q_then_ret ?_ | refine Q_then_exit ?_ | refine Q_block ?_ | refine Q_block_ret ?_ | refine Q_block_here ?_ | refine Q_block_on rfl ?_ | refine C_scope ?_ | refine C_label ?_ | refine Q_asn ?_ | refine Q_then_pan ?_ | refine Q_block_pan ?_ | refine Q_scope (fun l h => by cases h) ?_
  (refine C_region ?_
   <;> (refine M_assign ?_; (first | refine M_bool rfl ?_ | refine W_move ?_))
   <;> refine W_nil ?_)
  repeat'
    first
      | refine Q_then ?_ | refine C_cond_t rfl ?_ | refine C_cond_f rfl ?_ | refine C_seq ?_ | refine C_block ?_ | refine C_skip ?_ | refine C_ret ?_ | refine C_exit ?_
      | refine Q_then_ret ?_ | refine Q_then_exit ?_ | refine Q_block ?_ | refine Q_block_ret ?_ | refine Q_block_here ?_ | refine Q_block_on rfl ?_ | refine C_scope ?_ | refine C_label ?_ | refine Q_asn ?_ | refine Q_then_pan ?_ | refine Q_block_pan ?_ | refine Q_scope (fun l h => by cases h) ?_
  (refine C_region ?_
   <;> (first | refine M_str rfl ?_ | refine W_move ?_))
  -- at operation 1: <dst=(some 4) op=(call <callee=(value (func 17)) args=[(tmp 3)] argTypes=[9]>) type=3 guard=none>
  refine W_call (gap_ok t w hl) rfl ?_
  rintro v w' ⟨rfl, rfl⟩
  ((first | refine M_str rfl ?_ | refine W_move ?_)
   <;> refine W_slen rfl ?_
   <;> (refine W_eql rfl rfl (fun hc => ?_) (fun hc => ?_) <;> try (exfalso; omega))
   <;> (refine M_assign ?_; (first | refine M_bool rfl ?_ | refine W_move ?_))
   <;> refine W_nil ?_)
  all_goals
    repeat'
      first
        | refine Q_then ?_ | refine C_cond_t rfl ?_ | refine C_cond_f rfl ?_ | refine C_seq ?_ | refine C_block ?_ | refine C_skip ?_ | refine C_ret ?_ | refine C_exit ?_
        | refine Q_then_ret ?_ | refine Q_then_exit ?_ | refine Q_block ?_ | refine Q_block_ret ?_ | refine Q_block_here ?_ | refine Q_block_on rfl ?_ | refine C_scope ?_ | refine C_label ?_ | refine Q_asn ?_ | refine Q_then_pan ?_ | refine Q_block_pan ?_ | refine Q_scope (fun l h => by cases h) ?_
    exact fin_ret1 rfl ⟨by simp [upd, Nat.beq]; omega, rfl⟩
end Go.Proofs.YteonolnfgppagaaDoor
