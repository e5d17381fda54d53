/- The lexer's laws: gaps. Conditions: none. -/
import Derived.Test.YteonolnfgppagaaDoorXS
import Derived.Test.YteonolnfgppagaaDoorXQ3
namespace Go.Proofs.YteonolnfgppagaaDoor
open Go.RowKit
set_option linter.unusedVariables false

def isBlank (c : UInt8) : Bool := decide (c.toNat = 32) || decide (c.toNat = 9) || decide (c.toNat = 10) || decide (c.toNat = 13)
theorem blankB_ok (c : UInt8) (w : World) : Fn Tryd.prog 23 [enc8 c] w fun v w' => v = .bool (isBlank c) ∧ w' = w := by
  refine fn_of_wc Tryd.func23 rfl Tryd.ntmps23 (Nat.le_of_ble_eq_true rfl) (by kernel_rfl) ?_
  repeat'
    first
      | refine Q_then ?_ | refine C_cond_t rfl ?_ | refine C_cond_f rfl ?_ | refine C_seq ?_ | refine C_block ?_ | refine C_skip ?_ | refine C_ret ?_ | refine C_exit ?_
      | refine Q_then_ret ?_ | refine Q_then_exit ?_ | refine Q_block ?_ | refine Q_block_ret ?_ | refine Q_block_here ?_ | refine Q_block_on rfl ?_ | refine C_scope ?_ | refine C_label ?_ | refine Q_asn ?_ | refine Q_then_pan ?_ | refine Q_block_pan ?_ | refine Q_scope (fun l h => by cases h) ?_
  (refine C_region ?_
   <;> (refine M_assign ?_; (first | refine M_bool rfl ?_ | refine W_move ?_))
   <;> refine W_nil ?_)
  repeat'
    first
      | refine Q_then ?_ | refine C_cond_t rfl ?_ | refine C_cond_f rfl ?_ | refine C_seq ?_ | refine C_block ?_ | refine C_skip ?_ | refine C_ret ?_ | refine C_exit ?_
      | refine Q_then_ret ?_ | refine Q_then_exit ?_ | refine Q_block ?_ | refine Q_block_ret ?_ | refine Q_block_here ?_ | refine Q_block_on rfl ?_ | refine C_scope ?_ | refine C_label ?_ | refine Q_asn ?_ | refine Q_then_pan ?_ | refine Q_block_pan ?_ | refine Q_scope (fun l h => by cases h) ?_
  (refine C_region ?_
   <;> (first | refine M_int rfl ?_ | refine W_move ?_)
   <;> (refine W_eql rfl rfl (fun hc => ?_) (fun hc => ?_) <;> try (exfalso; omega))
   <;> (first | refine M_bool rfl ?_ | refine W_move ?_)
   <;> (first | refine W_no rfl ?_ | (refine W_yes rfl ?_; (first | refine M_int rfl ?_ | refine W_move ?_)))
   <;> (first | refine W_no rfl ?_ | (refine W_yes rfl ?_; (refine W_eql rfl rfl (fun hc => ?_) (fun hc => ?_) <;> try (exfalso; omega))))
   <;> ((first | refine M_pick_t rfl ?_ | refine M_pick_f rfl ?_); (first | refine M_bool rfl ?_ | refine W_move ?_))
   <;> (first | refine M_bool rfl ?_ | refine W_move ?_)
   <;> (first | refine W_no rfl ?_ | (refine W_yes rfl ?_; (first | refine M_int rfl ?_ | refine W_move ?_)))
   <;> (first | refine W_no rfl ?_ | (refine W_yes rfl ?_; (refine W_eql rfl rfl (fun hc => ?_) (fun hc => ?_) <;> try (exfalso; omega))))
   <;> ((first | refine M_pick_t rfl ?_ | refine M_pick_f rfl ?_); (first | refine M_bool rfl ?_ | refine W_move ?_))
   <;> (first | refine M_bool rfl ?_ | refine W_move ?_)
   <;> (first | refine W_no rfl ?_ | (refine W_yes rfl ?_; (first | refine M_int rfl ?_ | refine W_move ?_)))
   <;> (first | refine W_no rfl ?_ | (refine W_yes rfl ?_; (refine W_eql rfl rfl (fun hc => ?_) (fun hc => ?_) <;> try (exfalso; omega))))
   <;> ((first | refine M_pick_t rfl ?_ | refine M_pick_f rfl ?_); (first | refine M_bool rfl ?_ | refine W_move ?_))
   <;> (refine M_assign ?_; (first | refine M_bool rfl ?_ | refine W_move ?_))
   <;> refine W_nil ?_)
  all_goals
    repeat'
      first
        | refine Q_then ?_ | refine C_cond_t rfl ?_ | refine C_cond_f rfl ?_ | refine C_seq ?_ | refine C_block ?_ | refine C_skip ?_ | refine C_ret ?_ | refine C_exit ?_
        | refine Q_then_ret ?_ | refine Q_then_exit ?_ | refine Q_block ?_ | refine Q_block_ret ?_ | refine Q_block_here ?_ | refine Q_block_on rfl ?_ | refine C_scope ?_ | refine C_label ?_ | refine Q_asn ?_ | refine Q_then_pan ?_ | refine Q_block_pan ?_ | refine Q_scope (fun l h => by cases h) ?_
    exact fin_ret1 rfl ⟨by simp [isBlank, upd, Nat.beq]; omega, rfl⟩

/-- the gaps at the beginning, from an offset on -/
def gapF (t : List UInt8) : Nat → Nat → Nat
  | 0, a => a
  | n + 1, a => if a < t.length then (if (t.getD a 0).toNat = 37 then gapF t n (whileB inComm t a) else if isBlank (t.getD a 0) = true then gapF t n (a + 1) else a) else a
theorem gapF_fuel (t : List UInt8) : ∀ (n m a : Nat), a ≤ t.length → t.length < n + a → t.length < m + a → gapF t n a = gapF t m a
  | 0, _, _, h, h1, _ => by omega
  | _, 0, _, h, _, h2 => by omega
  | n + 1, m + 1, a, h, h1, h2 => by
    unfold gapF
    split
    · rename_i hl
      split
      · rename_i h37
        have hc : t[a]? = some t[a] := List.getElem?_eq_getElem hl
        have hle := whileB_le (p := inComm) (t := t) (a := a) (by omega)
        have hst := whileB_step (p := inComm) hc (by rw [getD_of hc] at h37; simp [inComm, h37])
        have hge := whileB_ge inComm t (a + 1)
        exact gapF_fuel t n m _ hle (by omega) (by omega)
      · split
        · exact gapF_fuel t n m _ (by omega) (by omega) (by omega)
        · rfl
    · rfl
def gapW (t : List UInt8) (a : Nat) : Nat := gapF t (t.length + 1 - a) a
theorem gapW_end {t : List UInt8} : gapW t t.length = t.length := by
  unfold gapW
  rw [show t.length + 1 - t.length = 0 + 1 by omega]
  unfold gapF
  rw [if_neg (by omega)]
theorem gapW_step {t : List UInt8} {a : Nat} {c : UInt8} (hc : t[a]? = some c) : gapW t a = if c.toNat = 37 then gapW t (whileB inComm t a) else if isBlank c = true then gapW t (a + 1) else a := by
  have hl : a < t.length := (List.getElem?_eq_some_iff.1 hc).1
  unfold gapW
  rw [show t.length + 1 - a = (t.length - a) + 1 by omega]
  conv => lhs; unfold gapF
  rw [if_pos hl, getD_of hc]
  split
  · rename_i h37
    have hle := whileB_le (p := inComm) (t := t) (a := a) (by omega)
    have hst := whileB_step (p := inComm) hc (by simp [inComm, h37])
    have hge := whileB_ge inComm t (a + 1)
    exact gapF_fuel t _ _ _ hle (by omega) (by omega)
  · split
    · exact gapF_fuel t _ _ _ (by omega) (by omega) (by omega)
    · rfl
end Go.Proofs.YteonolnfgppagaaDoor
