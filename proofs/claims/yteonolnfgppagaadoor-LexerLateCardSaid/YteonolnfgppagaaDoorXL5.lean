/- The walk through LexerLate. Conditions: none. -/
import Derived.Test.YteonolnfgppagaaDoorX10
import Derived.Test.YteonolnfgppagaaDoorXQ
namespace Go.Proofs.YteonolnfgppagaaDoor
open Go.RowKit
set_option linter.unusedVariables false

theorem late_ok (w : World) (t u : List UInt8) (hG : GV w) : Fn Tryd.prog 7 [strV t, strV u] w fun v w' => v = .bool true ∧ Ext w w' := by
  refine fn_of_wc Tryd.func7 rfl Tryd.ntmps7 (Nat.le_of_ble_eq_true rfl) (by kernel_rfl) ?_
  repeat'
    first
      | refine Q_then ?_ | refine C_cond_t rfl ?_ | refine C_cond_f rfl ?_ | refine C_seq ?_ | refine C_block ?_ | refine C_skip ?_ | refine C_ret ?_ | refine C_exit ?_
      | refine Q_then_ret ?_ | refine Q_then_exit ?_ | refine Q_block ?_ | refine Q_block_ret ?_ | refine Q_block_here ?_ | refine Q_block_on rfl ?_ | refine C_scope ?_ | refine C_label ?_ | refine Q_asn ?_ | refine Q_then_pan ?_ | refine Q_block_pan ?_ | refine Q_scope (fun l h => by cases h) ?_
  (refine C_region ?_
   <;> (refine M_assign ?_; (first | refine M_bool rfl ?_ | refine W_move ?_))
   <;> refine W_nil ?_)
  repeat'
    first
      | refine Q_then ?_ | refine C_cond_t rfl ?_ | refine C_cond_f rfl ?_ | refine C_seq ?_ | refine C_block ?_ | refine C_skip ?_ | refine C_ret ?_ | refine C_exit ?_
      | refine Q_then_ret ?_ | refine Q_then_exit ?_ | refine Q_block ?_ | refine Q_block_ret ?_ | refine Q_block_here ?_ | refine Q_block_on rfl ?_ | refine C_scope ?_ | refine C_label ?_ | refine Q_asn ?_ | refine Q_then_pan ?_ | refine Q_block_pan ?_ | refine Q_scope (fun l h => by cases h) ?_
  (refine C_region ?_)
  -- at operation 0: <dst=(some 12) op=(call <callee=(value (func 8)) args=[] argTypes=[]>) type=4 guard=none>
  refine W_call (head_ok w hG) rfl ?_
  rintro v w1 ⟨rfl, k1⟩
  ((refine M_assign ?_; (first | refine M_bool rfl ?_ | refine W_move ?_))
   <;> refine W_nil ?_)
  repeat'
    first
      | refine Q_then ?_ | refine C_cond_t rfl ?_ | refine C_cond_f rfl ?_ | refine C_seq ?_ | refine C_block ?_ | refine C_skip ?_ | refine C_ret ?_ | refine C_exit ?_
      | refine Q_then_ret ?_ | refine Q_then_exit ?_ | refine Q_block ?_ | refine Q_block_ret ?_ | refine Q_block_here ?_ | refine Q_block_on rfl ?_ | refine C_scope ?_ | refine C_label ?_ | refine Q_asn ?_ | refine Q_then_pan ?_ | refine Q_block_pan ?_ | refine Q_scope (fun l h => by cases h) ?_
  by_cases ht : 1500 < t.length
  · (refine C_region ?_
     <;> (first | refine M_str rfl ?_ | refine W_move ?_)
     <;> refine W_slen rfl ?_
     <;> (refine W_gtr rfl rfl (fun hc => ?_) (fun hc => ?_) <;> try (exfalso; omega))
     <;> (first | refine M_bool rfl ?_ | refine W_move ?_)
     <;> (first | refine W_no rfl ?_ | (refine W_yes rfl ?_; (first | refine M_str rfl ?_ | refine W_move ?_)))
     <;> (first | refine W_no rfl ?_ | (refine W_yes rfl ?_; refine W_slen rfl ?_))
     <;> (first | refine W_no rfl ?_ | (refine W_yes rfl ?_; (refine W_gtr rfl rfl (fun hc => ?_) (fun hc => ?_) <;> try (exfalso; omega))))
     <;> ((first | refine M_pick_t rfl ?_ | refine M_pick_f rfl ?_); (first | refine M_bool rfl ?_ | refine W_move ?_))
     <;> refine W_nil ?_)
    repeat'
      first
        | refine Q_then ?_ | refine C_cond_t rfl ?_ | refine C_cond_f rfl ?_ | refine C_seq ?_ | refine C_block ?_ | refine C_skip ?_ | refine C_ret ?_ | refine C_exit ?_
        | refine Q_then_ret ?_ | refine Q_then_exit ?_ | refine Q_block ?_ | refine Q_block_ret ?_ | refine Q_block_here ?_ | refine Q_block_on rfl ?_ | refine C_scope ?_ | refine C_label ?_ | refine Q_asn ?_ | refine Q_then_pan ?_ | refine Q_block_pan ?_ | refine Q_scope (fun l h => by cases h) ?_
    (refine C_region ?_
     <;> (first | refine M_bool rfl ?_ | refine W_move ?_)
     <;> (refine M_assign ?_; (first | refine M_bool rfl ?_ | refine W_move ?_))
     <;> refine W_nil ?_)
    repeat'
      first
        | refine Q_then ?_ | refine C_cond_t rfl ?_ | refine C_cond_f rfl ?_ | refine C_seq ?_ | refine C_block ?_ | refine C_skip ?_ | refine C_ret ?_ | refine C_exit ?_
        | refine Q_then_ret ?_ | refine Q_then_exit ?_ | refine Q_block ?_ | refine Q_block_ret ?_ | refine Q_block_here ?_ | refine Q_block_on rfl ?_ | refine C_scope ?_ | refine C_label ?_ | refine Q_asn ?_ | refine Q_then_pan ?_ | refine Q_block_pan ?_ | refine Q_scope (fun l h => by cases h) ?_
    exact fin_ret1 rfl ⟨rfl, k1⟩
  · by_cases hu : 1500 < u.length
    · (refine C_region ?_
       <;> (first | refine M_str rfl ?_ | refine W_move ?_)
       <;> refine W_slen rfl ?_
       <;> (refine W_gtr rfl rfl (fun hc => ?_) (fun hc => ?_) <;> try (exfalso; omega))
       <;> (first | refine M_bool rfl ?_ | refine W_move ?_)
       <;> (first | refine W_no rfl ?_ | (refine W_yes rfl ?_; (first | refine M_str rfl ?_ | refine W_move ?_)))
       <;> (first | refine W_no rfl ?_ | (refine W_yes rfl ?_; refine W_slen rfl ?_))
       <;> (first | refine W_no rfl ?_ | (refine W_yes rfl ?_; (refine W_gtr rfl rfl (fun hc => ?_) (fun hc => ?_) <;> try (exfalso; omega))))
       <;> ((first | refine M_pick_t rfl ?_ | refine M_pick_f rfl ?_); (first | refine M_bool rfl ?_ | refine W_move ?_))
       <;> refine W_nil ?_)
      repeat'
        first
          | refine Q_then ?_ | refine C_cond_t rfl ?_ | refine C_cond_f rfl ?_ | refine C_seq ?_ | refine C_block ?_ | refine C_skip ?_ | refine C_ret ?_ | refine C_exit ?_
          | refine Q_then_ret ?_ | refine Q_then_exit ?_ | refine Q_block ?_ | refine Q_block_ret ?_ | refine Q_block_here ?_ | refine Q_block_on rfl ?_ | refine C_scope ?_ | refine C_label ?_ | refine Q_asn ?_ | refine Q_then_pan ?_ | refine Q_block_pan ?_ | refine Q_scope (fun l h => by cases h) ?_
      (refine C_region ?_
       <;> (first | refine M_bool rfl ?_ | refine W_move ?_)
       <;> (refine M_assign ?_; (first | refine M_bool rfl ?_ | refine W_move ?_))
       <;> refine W_nil ?_)
      repeat'
        first
          | refine Q_then ?_ | refine C_cond_t rfl ?_ | refine C_cond_f rfl ?_ | refine C_seq ?_ | refine C_block ?_ | refine C_skip ?_ | refine C_ret ?_ | refine C_exit ?_
          | refine Q_then_ret ?_ | refine Q_then_exit ?_ | refine Q_block ?_ | refine Q_block_ret ?_ | refine Q_block_here ?_ | refine Q_block_on rfl ?_ | refine C_scope ?_ | refine C_label ?_ | refine Q_asn ?_ | refine Q_then_pan ?_ | refine Q_block_pan ?_ | refine Q_scope (fun l h => by cases h) ?_
      exact fin_ret1 rfl ⟨rfl, k1⟩
    · (refine C_region ?_
       <;> (first | refine M_str rfl ?_ | refine W_move ?_)
       <;> refine W_slen rfl ?_
       <;> (refine W_gtr rfl rfl (fun hc => ?_) (fun hc => ?_) <;> try (exfalso; omega))
       <;> (first | refine M_bool rfl ?_ | refine W_move ?_)
       <;> (first | refine W_no rfl ?_ | (refine W_yes rfl ?_; (first | refine M_str rfl ?_ | refine W_move ?_)))
       <;> (first | refine W_no rfl ?_ | (refine W_yes rfl ?_; refine W_slen rfl ?_))
       <;> (first | refine W_no rfl ?_ | (refine W_yes rfl ?_; (refine W_gtr rfl rfl (fun hc => ?_) (fun hc => ?_) <;> try (exfalso; omega))))
       <;> ((first | refine M_pick_t rfl ?_ | refine M_pick_f rfl ?_); (first | refine M_bool rfl ?_ | refine W_move ?_))
       <;> refine W_nil ?_)
      repeat'
        first
          | refine Q_then ?_ | refine C_cond_t rfl ?_ | refine C_cond_f rfl ?_ | refine C_seq ?_ | refine C_block ?_ | refine C_skip ?_ | refine C_ret ?_ | refine C_exit ?_
          | refine Q_then_ret ?_ | refine Q_then_exit ?_ | refine Q_block ?_ | refine Q_block_ret ?_ | refine Q_block_here ?_ | refine Q_block_on rfl ?_ | refine C_scope ?_ | refine C_label ?_ | refine Q_asn ?_ | refine Q_then_pan ?_ | refine Q_block_pan ?_ | refine Q_scope (fun l h => by cases h) ?_
      (refine C_region ?_
       <;> (first | refine M_str rfl ?_ | refine W_move ?_))
      -- at operation 1: <dst=(some 24) op=(call <callee=(value (func 9)) args=[(tmp 23)] argTypes=[9]>) type=25 guard=none>
      refine W_call (lexC w1 t (hG.ext k1)) rfl ?_
      rintro v w2 ⟨a, c, e, q, ts, rfl, k2, hT, h⟩
      have k12 := k1.trans k2
      ((first | refine M_tuple rfl ?_ | refine W_move ?_)
       <;> refine W_extract rfl rfl ?_
       <;> refine W_extract rfl rfl ?_
       <;> refine W_extract rfl rfl ?_
       <;> (refine M_assign ?_; (first | refine M_slice rfl ?_ | refine W_move ?_))
       <;> (refine M_assign ?_; (first | refine M_int rfl ?_ | refine W_move ?_))
       <;> (refine M_assign ?_; (first | refine M_int rfl ?_ | refine W_move ?_))
       <;> refine W_nil ?_)
      repeat'
        first
          | refine Q_then ?_ | refine C_cond_t rfl ?_ | refine C_cond_f rfl ?_ | refine C_seq ?_ | refine C_block ?_ | refine C_skip ?_ | refine C_ret ?_ | refine C_exit ?_
          | refine Q_then_ret ?_ | refine Q_then_exit ?_ | refine Q_block ?_ | refine Q_block_ret ?_ | refine Q_block_here ?_ | refine Q_block_on rfl ?_ | refine C_scope ?_ | refine C_label ?_ | refine Q_asn ?_ | refine Q_then_pan ?_ | refine Q_block_pan ?_ | refine Q_scope (fun l h => by cases h) ?_
      rcases h with ⟨hm, rfl, rfl⟩ | ⟨p, hm, he, rfl, rfl⟩
      · (refine C_region ?_
         <;> (first | refine M_int rfl ?_ | refine W_move ?_)
         <;> (refine W_eql rfl rfl (fun hc => ?_) (fun hc => ?_) <;> try (exfalso; omega))
         <;> refine W_nil ?_)
        repeat'
          first
            | refine Q_then ?_ | refine C_cond_t rfl ?_ | refine C_cond_f rfl ?_ | refine C_seq ?_ | refine C_block ?_ | refine C_skip ?_ | refine C_ret ?_ | refine C_exit ?_
            | refine Q_then_ret ?_ | refine Q_then_exit ?_ | refine Q_block ?_ | refine Q_block_ret ?_ | refine Q_block_here ?_ | refine Q_block_on rfl ?_ | refine C_scope ?_ | refine C_label ?_ | refine Q_asn ?_ | refine Q_then_pan ?_ | refine Q_block_pan ?_ | refine Q_scope (fun l h => by cases h) ?_
        (refine C_region ?_
         <;> (first | refine M_bool rfl ?_ | refine W_move ?_)
         <;> (first | refine M_bool rfl ?_ | refine W_move ?_)
         <;> (first | refine W_no rfl ?_ | (refine W_yes rfl ?_; (first | refine M_int rfl ?_ | refine W_move ?_)))
         <;> (first | refine W_no rfl ?_ | (refine W_yes rfl ?_; (refine W_eql rfl rfl (fun hc => ?_) (fun hc => ?_) <;> try (exfalso; omega))))
         <;> ((first | refine M_pick_t rfl ?_ | refine M_pick_f rfl ?_); (first | refine M_bool rfl ?_ | refine W_move ?_))
         <;> (refine M_assign ?_; (first | refine M_bool rfl ?_ | refine W_move ?_))
         <;> refine W_nil ?_)
        repeat'
          first
            | refine Q_then ?_ | refine C_cond_t rfl ?_ | refine C_cond_f rfl ?_ | refine C_seq ?_ | refine C_block ?_ | refine C_skip ?_ | refine C_ret ?_ | refine C_exit ?_
            | refine Q_then_ret ?_ | refine Q_then_exit ?_ | refine Q_block ?_ | refine Q_block_ret ?_ | refine Q_block_here ?_ | refine Q_block_on rfl ?_ | refine C_scope ?_ | refine C_label ?_ | refine Q_asn ?_ | refine Q_then_pan ?_ | refine Q_block_pan ?_ | refine Q_scope (fun l h => by cases h) ?_
        exact fin_ret1 rfl ⟨rfl, k12⟩
      · (refine C_region ?_
         <;> (first | refine M_int rfl ?_ | refine W_move ?_)
         <;> (refine W_eql rfl rfl (fun hc => ?_) (fun hc => ?_) <;> try (exfalso; omega))
         <;> refine W_nil ?_)
        repeat'
          first
            | refine Q_then ?_ | refine C_cond_t rfl ?_ | refine C_cond_f rfl ?_ | refine C_seq ?_ | refine C_block ?_ | refine C_skip ?_ | refine C_ret ?_ | refine C_exit ?_
            | refine Q_then_ret ?_ | refine Q_then_exit ?_ | refine Q_block ?_ | refine Q_block_ret ?_ | refine Q_block_here ?_ | refine Q_block_on rfl ?_ | refine C_scope ?_ | refine C_label ?_ | refine Q_asn ?_ | refine Q_then_pan ?_ | refine Q_block_pan ?_ | refine Q_scope (fun l h => by cases h) ?_
        (refine C_region ?_
         <;> (first | refine M_str rfl ?_ | refine W_move ?_))
        -- at operation 1: <dst=(some 37) op=(binOp add 9 (tmp 36) (const (string <data=[10]>)) 9) type=9 guard=none>
        refine W_sadd rfl rfl (by simp; omega) ?_
        ((first | refine M_str rfl ?_ | refine W_move ?_))
        -- at operation 3: <dst=(some 39) op=(binOp add 9 (tmp 37) (tmp 38) 9) type=9 guard=none>
        refine W_sadd rfl rfl (by simp; omega) ?_
        have hl := late_law (by omega) (by omega) hm (u := u)
        refine W_call (lexE w2 (t ++ 10 :: u) e p hl (hG.ext k12)) (by simp [evL, ev, upd, Nat.beq]) ?_
        rintro v w3 ⟨a', c', rfl, k3⟩
        ((first | refine M_tuple rfl ?_ | refine W_move ?_)
         <;> refine W_extract rfl rfl ?_
         <;> refine W_extract rfl rfl ?_
         <;> refine W_extract rfl rfl ?_
         <;> (refine M_assign ?_; (first | refine M_slice rfl ?_ | refine W_move ?_))
         <;> (refine M_assign ?_; (first | refine M_int rfl ?_ | refine W_move ?_))
         <;> (refine M_assign ?_; (first | refine M_int rfl ?_ | refine W_move ?_))
         <;> refine W_nil ?_)
        repeat'
          first
            | refine Q_then ?_ | refine C_cond_t rfl ?_ | refine C_cond_f rfl ?_ | refine C_seq ?_ | refine C_block ?_ | refine C_skip ?_ | refine C_ret ?_ | refine C_exit ?_
            | refine Q_then_ret ?_ | refine Q_then_exit ?_ | refine Q_block ?_ | refine Q_block_ret ?_ | refine Q_block_here ?_ | refine Q_block_on rfl ?_ | refine C_scope ?_ | refine C_label ?_ | refine Q_asn ?_ | refine Q_then_pan ?_ | refine Q_block_pan ?_ | refine Q_scope (fun l h => by cases h) ?_
        (refine C_region ?_
         <;> (first | refine M_bool rfl ?_ | refine W_move ?_)
         <;> (first | refine M_bool rfl ?_ | refine W_move ?_)
         <;> (first | refine W_no rfl ?_ | (refine W_yes rfl ?_; (first | refine M_int rfl ?_ | refine W_move ?_)))
         <;> (first | refine W_no rfl ?_ | (refine W_yes rfl ?_; (first | refine M_int rfl ?_ | refine W_move ?_)))
         <;> (first | refine W_no rfl ?_ | (refine W_yes rfl ?_; (refine W_eql rfl rfl (fun hc => ?_) (fun hc => ?_) <;> try (exfalso; omega))))
         <;> ((first | refine M_pick_t rfl ?_ | refine M_pick_f rfl ?_); (first | refine M_bool rfl ?_ | refine W_move ?_))
         <;> (first | refine M_bool rfl ?_ | refine W_move ?_)
         <;> (first | refine W_no rfl ?_ | (refine W_yes rfl ?_; (first | refine M_int rfl ?_ | refine W_move ?_)))
         <;> (first | refine W_no rfl ?_ | (refine W_yes rfl ?_; (first | refine M_int rfl ?_ | refine W_move ?_)))
         <;> (first | refine W_no rfl ?_ | (refine W_yes rfl ?_; (refine W_eql rfl rfl (fun hc => ?_) (fun hc => ?_) <;> try (exfalso; omega))))
         <;> ((first | refine M_pick_t rfl ?_ | refine M_pick_f rfl ?_); (first | refine M_bool rfl ?_ | refine W_move ?_))
         <;> (refine M_assign ?_; (first | refine M_bool rfl ?_ | refine W_move ?_))
         <;> refine W_nil ?_)
        repeat'
          first
            | refine Q_then ?_ | refine C_cond_t rfl ?_ | refine C_cond_f rfl ?_ | refine C_seq ?_ | refine C_block ?_ | refine C_skip ?_ | refine C_ret ?_ | refine C_exit ?_
            | refine Q_then_ret ?_ | refine Q_then_exit ?_ | refine Q_block ?_ | refine Q_block_ret ?_ | refine Q_block_here ?_ | refine Q_block_on rfl ?_ | refine C_scope ?_ | refine C_label ?_ | refine Q_asn ?_ | refine Q_then_pan ?_ | refine Q_block_pan ?_ | refine Q_scope (fun l h => by cases h) ?_
        exact fin_ret1 rfl ⟨rfl, k12.trans k3⟩
end Go.Proofs.YteonolnfgppagaaDoor
