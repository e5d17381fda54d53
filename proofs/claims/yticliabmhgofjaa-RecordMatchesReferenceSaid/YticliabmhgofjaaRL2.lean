/- Records: both implementations agree. Conditions: none. -/
import Derived.Test.YticliabmhgofjaaRQ
namespace Go.Proofs.Yticliabmhgofjaa
open Go.RowKit
set_option linter.unusedVariables false


theorem RecordMatchesReference_law (v g b sv lv : Value) (r : List Int) (n : Int) (e : Evt) (st lp : List Evt) (w : World) (h : Ints w v r) (he : EvAt w g b e) (hs1 : EvsAt w sv st) (hl1 : EvsAt w lv lp) :
    Fn Try.prog 3 [v, .int .i64 n, .agg #[g, b], sv, lv] w fun v w' => v = .bool true ∧ Ext w w' := by
  obtain ⟨a, c, rfl, hlc, hc, _⟩ := h.form
  obtain ⟨sa, sc, rfl, _⟩ := hs1.form
  obtain ⟨la, lc, rfl, _⟩ := hl1.form
  refine fn_of_wc Try.func3 rfl Try.ntmps3 (Nat.le_of_ble_eq_true rfl) (by kernel_rfl) ?_
  repeat'
    first
      | refine Q_then ?_ | refine C_cond_t rfl ?_ | refine C_cond_f rfl ?_ | refine C_seq ?_ | refine C_block ?_ | refine C_skip ?_ | refine C_ret ?_ | refine C_exit ?_
      | refine Q_then_ret ?_ | refine Q_then_exit ?_ | refine Q_block ?_ | refine Q_block_ret ?_ | refine Q_block_here ?_ | refine Q_block_on rfl ?_ | refine C_scope ?_ | refine C_label ?_ | refine Q_asn ?_
  refine C_region ?_
  refine W_box (L := [g, b]) rfl (fun w1 n1 => ?_)
  have b1 := n1.blk
  have k1 := n1.keep
  clear n1
  generalize w.heap.size = pe at *
  ((refine M_assign ?_; (first | refine M_bool rfl ?_ | refine W_move ?_))
   <;> refine W_nil ?_)
  repeat'
    first
      | refine Q_then ?_ | refine C_cond_t rfl ?_ | refine C_cond_f rfl ?_ | refine C_seq ?_ | refine C_block ?_ | refine C_skip ?_ | refine C_ret ?_ | refine C_exit ?_
      | refine Q_then_ret ?_ | refine Q_then_exit ?_ | refine Q_block ?_ | refine Q_block_ret ?_ | refine Q_block_here ?_ | refine Q_block_on rfl ?_ | refine C_scope ?_ | refine C_label ?_ | refine Q_asn ?_
  (refine C_region ?_)
  -- at operation 0: <dst=(some 16) op=(call <callee=(value (func 9)) args=[] argTypes=[]>) type=4 guard=none>
  refine W_call (head_any _) rfl ?_
  rintro _ w2 ⟨rfl, k2⟩
  replace b1 := b1.keep k2 (by simp)
  replace k1 := k1.trans k2
  clear k2
  ((refine M_assign ?_; (first | refine M_bool rfl ?_ | refine W_move ?_))
   <;> refine W_nil ?_)
  repeat'
    first
      | refine Q_then ?_ | refine C_cond_t rfl ?_ | refine C_cond_f rfl ?_ | refine C_seq ?_ | refine C_block ?_ | refine C_skip ?_ | refine C_ret ?_ | refine C_exit ?_
      | refine Q_then_ret ?_ | refine Q_then_exit ?_ | refine Q_block ?_ | refine Q_block_ret ?_ | refine Q_block_here ?_ | refine Q_block_on rfl ?_ | refine C_scope ?_ | refine C_label ?_ | refine Q_asn ?_
  by_cases hr : 200 < r.length
  · (refine C_region ?_
     <;> (first | refine M_slice rfl ?_ | refine W_move ?_)
     <;> refine W_len rfl ?_
     <;> (refine W_gtr rfl rfl (fun hc => ?_) (fun hc => ?_) <;> try (exfalso; omega))
     <;> (first | refine M_bool rfl ?_ | refine W_move ?_)
     <;> (first | refine W_no rfl ?_ | (refine W_yes rfl ?_; (first | refine M_int rfl ?_ | refine W_move ?_)))
     <;> (first | refine W_no rfl ?_ | (refine W_yes rfl ?_; (refine W_gtr rfl rfl (fun hc => ?_) (fun hc => ?_) <;> try (exfalso; omega))))
     <;> (first | refine W_no rfl ?_ | (refine W_yes rfl ?_; (first | refine M_bool rfl ?_ | refine W_move ?_)))
     <;> (first | refine W_no rfl ?_ | (refine W_yes rfl ?_; (first | refine M_int rfl ?_ | refine W_move ?_)))
     <;> (first | refine W_no rfl ?_ | (refine W_yes rfl ?_; (refine W_leq rfl rfl (fun hc => ?_) (fun hc => ?_) <;> try (exfalso; omega))))
     <;> (first | refine W_no rfl ?_ | (refine W_yes rfl ?_; ((first | refine M_pick_t rfl ?_ | refine M_pick_f rfl ?_); (first | refine M_bool rfl ?_ | refine W_move ?_))))
     <;> ((first | refine M_pick_t rfl ?_ | refine M_pick_f rfl ?_); (first | refine M_bool rfl ?_ | refine W_move ?_))
     <;> (first | refine M_bool rfl ?_ | refine W_move ?_))
    ((first | refine W_no rfl ?_ | (refine W_yes rfl ?_; (first | refine W_load_aggB rfl (by assumption) (by rfl) ?_ | refine W_load_agg rfl (by rfl) (Blk.cells (by assumption)) ?_)))
     <;> refine W_no rfl ?_
     <;> (first | refine W_no rfl ?_ | (refine W_yes rfl ?_; refine W_not rfl ?_))
     <;> ((first | refine M_pick_t rfl ?_ | refine M_pick_f rfl ?_); (first | refine M_bool rfl ?_ | refine W_move ?_))
     <;> (first | refine M_bool rfl ?_ | refine W_move ?_)
     <;> (first | refine W_no rfl ?_ | (refine W_yes rfl ?_; (first | refine M_slice rfl ?_ | refine W_move ?_)))
     <;> refine W_no rfl ?_
     <;> (first | refine W_no rfl ?_ | (refine W_yes rfl ?_; refine W_not rfl ?_))
     <;> ((first | refine M_pick_t rfl ?_ | refine M_pick_f rfl ?_); (first | refine M_bool rfl ?_ | refine W_move ?_))
     <;> (first | refine M_bool rfl ?_ | refine W_move ?_)
     <;> (first | refine W_no rfl ?_ | (refine W_yes rfl ?_; (first | refine M_slice rfl ?_ | refine W_move ?_)))
     <;> refine W_no rfl ?_
     <;> (first | refine W_no rfl ?_ | (refine W_yes rfl ?_; refine W_not rfl ?_))
     <;> ((first | refine M_pick_t rfl ?_ | refine M_pick_f rfl ?_); (first | refine M_bool rfl ?_ | refine W_move ?_))
     <;> refine W_nil ?_)
    repeat'
      first
        | refine Q_then ?_ | refine C_cond_t rfl ?_ | refine C_cond_f rfl ?_ | refine C_seq ?_ | refine C_block ?_ | refine C_skip ?_ | refine C_ret ?_ | refine C_exit ?_
        | refine Q_then_ret ?_ | refine Q_then_exit ?_ | refine Q_block ?_ | refine Q_block_ret ?_ | refine Q_block_here ?_ | refine Q_block_on rfl ?_ | refine C_scope ?_ | refine C_label ?_ | refine Q_asn ?_
    (refine C_region ?_
     <;> (first | refine M_bool rfl ?_ | refine W_move ?_)
     <;> (refine M_assign ?_; (first | refine M_bool rfl ?_ | refine W_move ?_))
     <;> refine W_nil ?_)
    repeat'
      first
        | refine Q_then ?_ | refine C_cond_t rfl ?_ | refine C_cond_f rfl ?_ | refine C_seq ?_ | refine C_block ?_ | refine C_skip ?_ | refine C_ret ?_ | refine C_exit ?_
        | refine Q_then_ret ?_ | refine Q_then_exit ?_ | refine Q_block ?_ | refine Q_block_ret ?_ | refine Q_block_here ?_ | refine Q_block_on rfl ?_ | refine C_scope ?_ | refine C_label ?_ | refine Q_asn ?_
    exact fin_ret1 rfl ⟨rfl, k1⟩
  by_cases hn : 200 < n ∧ n ≤ 6000
  · (refine C_region ?_
     <;> (first | refine M_slice rfl ?_ | refine W_move ?_)
     <;> refine W_len rfl ?_
     <;> (refine W_gtr rfl rfl (fun hc => ?_) (fun hc => ?_) <;> try (exfalso; omega))
     <;> (first | refine M_bool rfl ?_ | refine W_move ?_)
     <;> (first | refine W_no rfl ?_ | (refine W_yes rfl ?_; (first | refine M_int rfl ?_ | refine W_move ?_)))
     <;> (first | refine W_no rfl ?_ | (refine W_yes rfl ?_; (refine W_gtr rfl rfl (fun hc => ?_) (fun hc => ?_) <;> try (exfalso; omega))))
     <;> (first | refine W_no rfl ?_ | (refine W_yes rfl ?_; (first | refine M_bool rfl ?_ | refine W_move ?_)))
     <;> (first | refine W_no rfl ?_ | (refine W_yes rfl ?_; (first | refine M_int rfl ?_ | refine W_move ?_)))
     <;> (first | refine W_no rfl ?_ | (refine W_yes rfl ?_; (refine W_leq rfl rfl (fun hc => ?_) (fun hc => ?_) <;> try (exfalso; omega))))
     <;> (first | refine W_no rfl ?_ | (refine W_yes rfl ?_; ((first | refine M_pick_t rfl ?_ | refine M_pick_f rfl ?_); (first | refine M_bool rfl ?_ | refine W_move ?_))))
     <;> ((first | refine M_pick_t rfl ?_ | refine M_pick_f rfl ?_); (first | refine M_bool rfl ?_ | refine W_move ?_))
     <;> (first | refine M_bool rfl ?_ | refine W_move ?_))
    ((first | refine W_no rfl ?_ | (refine W_yes rfl ?_; (first | refine W_load_aggB rfl (by assumption) (by rfl) ?_ | refine W_load_agg rfl (by rfl) (Blk.cells (by assumption)) ?_)))
     <;> refine W_no rfl ?_
     <;> (first | refine W_no rfl ?_ | (refine W_yes rfl ?_; refine W_not rfl ?_))
     <;> ((first | refine M_pick_t rfl ?_ | refine M_pick_f rfl ?_); (first | refine M_bool rfl ?_ | refine W_move ?_))
     <;> (first | refine M_bool rfl ?_ | refine W_move ?_)
     <;> (first | refine W_no rfl ?_ | (refine W_yes rfl ?_; (first | refine M_slice rfl ?_ | refine W_move ?_)))
     <;> refine W_no rfl ?_
     <;> (first | refine W_no rfl ?_ | (refine W_yes rfl ?_; refine W_not rfl ?_))
     <;> ((first | refine M_pick_t rfl ?_ | refine M_pick_f rfl ?_); (first | refine M_bool rfl ?_ | refine W_move ?_))
     <;> (first | refine M_bool rfl ?_ | refine W_move ?_)
     <;> (first | refine W_no rfl ?_ | (refine W_yes rfl ?_; (first | refine M_slice rfl ?_ | refine W_move ?_)))
     <;> refine W_no rfl ?_
     <;> (first | refine W_no rfl ?_ | (refine W_yes rfl ?_; refine W_not rfl ?_))
     <;> ((first | refine M_pick_t rfl ?_ | refine M_pick_f rfl ?_); (first | refine M_bool rfl ?_ | refine W_move ?_))
     <;> refine W_nil ?_)
    repeat'
      first
        | refine Q_then ?_ | refine C_cond_t rfl ?_ | refine C_cond_f rfl ?_ | refine C_seq ?_ | refine C_block ?_ | refine C_skip ?_ | refine C_ret ?_ | refine C_exit ?_
        | refine Q_then_ret ?_ | refine Q_then_exit ?_ | refine Q_block ?_ | refine Q_block_ret ?_ | refine Q_block_here ?_ | refine Q_block_on rfl ?_ | refine C_scope ?_ | refine C_label ?_ | refine Q_asn ?_
    (refine C_region ?_
     <;> (first | refine M_bool rfl ?_ | refine W_move ?_)
     <;> (refine M_assign ?_; (first | refine M_bool rfl ?_ | refine W_move ?_))
     <;> refine W_nil ?_)
    repeat'
      first
        | refine Q_then ?_ | refine C_cond_t rfl ?_ | refine C_cond_f rfl ?_ | refine C_seq ?_ | refine C_block ?_ | refine C_skip ?_ | refine C_ret ?_ | refine C_exit ?_
        | refine Q_then_ret ?_ | refine Q_then_exit ?_ | refine Q_block ?_ | refine Q_block_ret ?_ | refine Q_block_here ?_ | refine Q_block_on rfl ?_ | refine C_scope ?_ | refine C_label ?_ | refine Q_asn ?_
    exact fin_ret1 rfl ⟨rfl, k1⟩
  (refine C_region ?_
   <;> (first | refine M_slice rfl ?_ | refine W_move ?_)
   <;> refine W_len rfl ?_
   <;> (refine W_gtr rfl rfl (fun hc => ?_) (fun hc => ?_) <;> try (exfalso; omega))
   <;> (first | refine M_bool rfl ?_ | refine W_move ?_)
   <;> (first | refine W_no rfl ?_ | (refine W_yes rfl ?_; (first | refine M_int rfl ?_ | refine W_move ?_)))
   <;> (first | refine W_no rfl ?_ | (refine W_yes rfl ?_; (refine W_gtr rfl rfl (fun hc => ?_) (fun hc => ?_) <;> try (exfalso; omega))))
   <;> (first | refine W_no rfl ?_ | (refine W_yes rfl ?_; (first | refine M_bool rfl ?_ | refine W_move ?_)))
   <;> (first | refine W_no rfl ?_ | (refine W_yes rfl ?_; (first | refine M_int rfl ?_ | refine W_move ?_)))
   <;> (first | refine W_no rfl ?_ | (refine W_yes rfl ?_; (refine W_leq rfl rfl (fun hc => ?_) (fun hc => ?_) <;> try (exfalso; omega))))
   <;> (first | refine W_no rfl ?_ | (refine W_yes rfl ?_; ((first | refine M_pick_t rfl ?_ | refine M_pick_f rfl ?_); (first | refine M_bool rfl ?_ | refine W_move ?_))))
   <;> ((first | refine M_pick_t rfl ?_ | refine M_pick_f rfl ?_); (first | refine M_bool rfl ?_ | refine W_move ?_))
   <;> (first | refine M_bool rfl ?_ | refine W_move ?_))
  all_goals
    refine W_yes rfl ?_
    refine W_load_aggB rfl b1 rfl ?_
    refine W_yes rfl ?_
    refine W_call (Short_any _ _ e _ (he.keep k1)) rfl ?_
    rintro _ w3 ⟨rfl, k3⟩
    replace b1 := b1.keep k3 (by simp)
    replace k1 := k1.trans k3
    clear k3
    cases hs : shortE e with
    | false =>
      ((first | refine W_no rfl ?_ | (refine W_yes rfl ?_; refine W_not rfl ?_))
       <;> ((first | refine M_pick_t rfl ?_ | refine M_pick_f rfl ?_); (first | refine M_bool rfl ?_ | refine W_move ?_))
       <;> (first | refine M_bool rfl ?_ | refine W_move ?_)
       <;> (first | refine W_no rfl ?_ | (refine W_yes rfl ?_; (first | refine M_slice rfl ?_ | refine W_move ?_)))
       <;> refine W_no rfl ?_
       <;> (first | refine W_no rfl ?_ | (refine W_yes rfl ?_; refine W_not rfl ?_))
       <;> ((first | refine M_pick_t rfl ?_ | refine M_pick_f rfl ?_); (first | refine M_bool rfl ?_ | refine W_move ?_))
       <;> (first | refine M_bool rfl ?_ | refine W_move ?_)
       <;> (first | refine W_no rfl ?_ | (refine W_yes rfl ?_; (first | refine M_slice rfl ?_ | refine W_move ?_)))
       <;> refine W_no rfl ?_
       <;> (first | refine W_no rfl ?_ | (refine W_yes rfl ?_; refine W_not rfl ?_))
       <;> ((first | refine M_pick_t rfl ?_ | refine M_pick_f rfl ?_); (first | refine M_bool rfl ?_ | refine W_move ?_))
       <;> refine W_nil ?_)
      repeat'
        first
          | refine Q_then ?_ | refine C_cond_t rfl ?_ | refine C_cond_f rfl ?_ | refine C_seq ?_ | refine C_block ?_ | refine C_skip ?_ | refine C_ret ?_ | refine C_exit ?_
          | refine Q_then_ret ?_ | refine Q_then_exit ?_ | refine Q_block ?_ | refine Q_block_ret ?_ | refine Q_block_here ?_ | refine Q_block_on rfl ?_ | refine C_scope ?_ | refine C_label ?_ | refine Q_asn ?_
      (refine C_region ?_
       <;> (first | refine M_bool rfl ?_ | refine W_move ?_)
       <;> (refine M_assign ?_; (first | refine M_bool rfl ?_ | refine W_move ?_))
       <;> refine W_nil ?_)
      repeat'
        first
          | refine Q_then ?_ | refine C_cond_t rfl ?_ | refine C_cond_f rfl ?_ | refine C_seq ?_ | refine C_block ?_ | refine C_skip ?_ | refine C_ret ?_ | refine C_exit ?_
          | refine Q_then_ret ?_ | refine Q_then_exit ?_ | refine Q_block ?_ | refine Q_block_ret ?_ | refine Q_block_here ?_ | refine Q_block_on rfl ?_ | refine C_scope ?_ | refine C_label ?_ | refine Q_asn ?_
      exact fin_ret1 rfl ⟨rfl, k1⟩
    | true =>
    ((first | refine W_no rfl ?_ | (refine W_yes rfl ?_; refine W_not rfl ?_))
     <;> ((first | refine M_pick_t rfl ?_ | refine M_pick_f rfl ?_); (first | refine M_bool rfl ?_ | refine W_move ?_))
     <;> (first | refine M_bool rfl ?_ | refine W_move ?_)
     <;> (first | refine W_no rfl ?_ | (refine W_yes rfl ?_; (first | refine M_slice rfl ?_ | refine W_move ?_))))
    -- at operation 18: <dst=(some 35) op=(call <callee=(value (func 11)) args=[(tmp 34)] argTypes=[25]>) type=4 guard=(some [16, false])>
    refine W_yes rfl ?_
    refine W_call (AllShort_any _ st _ (hs1.keep k1)) rfl ?_
    rintro _ w4 ⟨rfl, k4⟩
    replace b1 := b1.keep k4 (by simp)
    replace k1 := k1.trans k4
    clear k4
    cases hst : allShort st with
    | false =>
      ((first | refine W_no rfl ?_ | (refine W_yes rfl ?_; refine W_not rfl ?_))
       <;> ((first | refine M_pick_t rfl ?_ | refine M_pick_f rfl ?_); (first | refine M_bool rfl ?_ | refine W_move ?_))
       <;> (first | refine M_bool rfl ?_ | refine W_move ?_)
       <;> (first | refine W_no rfl ?_ | (refine W_yes rfl ?_; (first | refine M_slice rfl ?_ | refine W_move ?_)))
       <;> refine W_no rfl ?_
       <;> (first | refine W_no rfl ?_ | (refine W_yes rfl ?_; refine W_not rfl ?_))
       <;> ((first | refine M_pick_t rfl ?_ | refine M_pick_f rfl ?_); (first | refine M_bool rfl ?_ | refine W_move ?_))
       <;> refine W_nil ?_)
      repeat'
        first
          | refine Q_then ?_ | refine C_cond_t rfl ?_ | refine C_cond_f rfl ?_ | refine C_seq ?_ | refine C_block ?_ | refine C_skip ?_ | refine C_ret ?_ | refine C_exit ?_
          | refine Q_then_ret ?_ | refine Q_then_exit ?_ | refine Q_block ?_ | refine Q_block_ret ?_ | refine Q_block_here ?_ | refine Q_block_on rfl ?_ | refine C_scope ?_ | refine C_label ?_ | refine Q_asn ?_
      (refine C_region ?_
       <;> (first | refine M_bool rfl ?_ | refine W_move ?_)
       <;> (refine M_assign ?_; (first | refine M_bool rfl ?_ | refine W_move ?_))
       <;> refine W_nil ?_)
      repeat'
        first
          | refine Q_then ?_ | refine C_cond_t rfl ?_ | refine C_cond_f rfl ?_ | refine C_seq ?_ | refine C_block ?_ | refine C_skip ?_ | refine C_ret ?_ | refine C_exit ?_
          | refine Q_then_ret ?_ | refine Q_then_exit ?_ | refine Q_block ?_ | refine Q_block_ret ?_ | refine Q_block_here ?_ | refine Q_block_on rfl ?_ | refine C_scope ?_ | refine C_label ?_ | refine Q_asn ?_
      exact fin_ret1 rfl ⟨rfl, k1⟩
    | true =>
    ((first | refine W_no rfl ?_ | (refine W_yes rfl ?_; refine W_not rfl ?_))
     <;> ((first | refine M_pick_t rfl ?_ | refine M_pick_f rfl ?_); (first | refine M_bool rfl ?_ | refine W_move ?_))
     <;> (first | refine M_bool rfl ?_ | refine W_move ?_)
     <;> (first | refine W_no rfl ?_ | (refine W_yes rfl ?_; (first | refine M_slice rfl ?_ | refine W_move ?_))))
    -- at operation 23: <dst=(some 40) op=(call <callee=(value (func 11)) args=[(tmp 39)] argTypes=[25]>) type=4 guard=(some [21, false])>
    refine W_yes rfl ?_
    refine W_call (AllShort_any _ lp _ (hl1.keep k1)) rfl ?_
    rintro _ w5 ⟨rfl, k5⟩
    replace b1 := b1.keep k5 (by simp)
    replace k1 := k1.trans k5
    clear k5
    cases hlp : allShort lp with
    | false =>
      ((first | refine W_no rfl ?_ | (refine W_yes rfl ?_; refine W_not rfl ?_))
       <;> ((first | refine M_pick_t rfl ?_ | refine M_pick_f rfl ?_); (first | refine M_bool rfl ?_ | refine W_move ?_))
       <;> refine W_nil ?_)
      repeat'
        first
          | refine Q_then ?_ | refine C_cond_t rfl ?_ | refine C_cond_f rfl ?_ | refine C_seq ?_ | refine C_block ?_ | refine C_skip ?_ | refine C_ret ?_ | refine C_exit ?_
          | refine Q_then_ret ?_ | refine Q_then_exit ?_ | refine Q_block ?_ | refine Q_block_ret ?_ | refine Q_block_here ?_ | refine Q_block_on rfl ?_ | refine C_scope ?_ | refine C_label ?_ | refine Q_asn ?_
      (refine C_region ?_
       <;> (first | refine M_bool rfl ?_ | refine W_move ?_)
       <;> (refine M_assign ?_; (first | refine M_bool rfl ?_ | refine W_move ?_))
       <;> refine W_nil ?_)
      repeat'
        first
          | refine Q_then ?_ | refine C_cond_t rfl ?_ | refine C_cond_f rfl ?_ | refine C_seq ?_ | refine C_block ?_ | refine C_skip ?_ | refine C_ret ?_ | refine C_exit ?_
          | refine Q_then_ret ?_ | refine Q_then_exit ?_ | refine Q_block ?_ | refine Q_block_ret ?_ | refine Q_block_here ?_ | refine Q_block_on rfl ?_ | refine C_scope ?_ | refine C_label ?_ | refine Q_asn ?_
      exact fin_ret1 rfl ⟨rfl, k1⟩
    | true =>
    ((first | refine W_no rfl ?_ | (refine W_yes rfl ?_; refine W_not rfl ?_))
     <;> ((first | refine M_pick_t rfl ?_ | refine M_pick_f rfl ?_); (first | refine M_bool rfl ?_ | refine W_move ?_))
     <;> refine W_nil ?_)
    repeat'
      first
        | refine Q_then ?_ | refine C_cond_t rfl ?_ | refine C_cond_f rfl ?_ | refine C_seq ?_ | refine C_block ?_ | refine C_skip ?_ | refine C_ret ?_ | refine C_exit ?_
        | refine Q_then_ret ?_ | refine Q_then_exit ?_ | refine Q_block ?_ | refine Q_block_ret ?_ | refine Q_block_here ?_ | refine Q_block_on rfl ?_ | refine C_scope ?_ | refine C_label ?_ | refine Q_asn ?_
    (refine C_region ?_
     <;> (first | refine M_slice rfl ?_ | refine W_move ?_)
     <;> (first | refine W_load_aggB rfl (by assumption) (by rfl) ?_ | refine W_load_agg rfl (by rfl) (Blk.cells (by assumption)) ?_))
    -- at operation 2: <dst=(some 47) op=(call <callee=(value (func 12)) args=[(tmp 45), (tmp 46)] argTypes=[22, 24]>) type=29 guard=none>
    refine W_call (Step_any _ _ _ r e _ (h.keep k1) (he.keep k1)) rfl ?_
    rintro _ w6 ⟨xv, rfl, o6, k6⟩
    obtain ⟨xa, xc, rfl⟩ := own_form o6
    replace o6 := Ints.own o6
    replace b1 := b1.keep k6 (by simp)
    replace k1 := k1.trans k6
    clear k6
    ((first | refine M_tuple rfl ?_ | refine W_move ?_)
     <;> refine W_extract rfl rfl ?_
     <;> refine W_extract rfl rfl ?_
     <;> (refine M_assign ?_; (first | refine M_slice rfl ?_ | refine W_move ?_))
     <;> (refine M_assign ?_; (first | refine M_int rfl ?_ | refine W_move ?_))
     <;> refine W_nil ?_)
    repeat'
      first
        | refine Q_then ?_ | refine C_cond_t rfl ?_ | refine C_cond_f rfl ?_ | refine C_seq ?_ | refine C_block ?_ | refine C_skip ?_ | refine C_ret ?_ | refine C_exit ?_
        | refine Q_then_ret ?_ | refine Q_then_exit ?_ | refine Q_block ?_ | refine Q_block_ret ?_ | refine Q_block_here ?_ | refine Q_block_on rfl ?_ | refine C_scope ?_ | refine C_label ?_ | refine Q_asn ?_
    (refine C_region ?_
     <;> (first | refine M_slice rfl ?_ | refine W_move ?_)
     <;> (first | refine W_load_aggB rfl (by assumption) (by rfl) ?_ | refine W_load_agg rfl (by rfl) (Blk.cells (by assumption)) ?_))
    -- at operation 2: <dst=(some 53) op=(call <callee=(value (func 13)) args=[(tmp 51), (tmp 52)] argTypes=[22, 24]>) type=29 guard=none>
    refine W_call (refStep_any _ _ _ r e _ (h.keep k1) (he.keep k1) (by omega)) rfl ?_
    rintro _ w7 ⟨yv, rfl, o7, k7⟩
    obtain ⟨ya, yc, rfl⟩ := own_form o7
    replace o7 := Ints.own o7
    replace o6 := o6.keep k7
    replace k1 := k1.trans k7
    clear k7 b1
    ((first | refine M_tuple rfl ?_ | refine W_move ?_)
     <;> refine W_extract rfl rfl ?_
     <;> refine W_extract rfl rfl ?_
     <;> (refine M_assign ?_; (first | refine M_slice rfl ?_ | refine W_move ?_))
     <;> (refine M_assign ?_; (first | refine M_int rfl ?_ | refine W_move ?_))
     <;> refine W_nil ?_)
    repeat'
      first
        | refine Q_then ?_ | refine C_cond_t rfl ?_ | refine C_cond_f rfl ?_ | refine C_seq ?_ | refine C_block ?_ | refine C_skip ?_ | refine C_ret ?_ | refine C_exit ?_
        | refine Q_then_ret ?_ | refine Q_then_exit ?_ | refine Q_block ?_ | refine Q_block_ret ?_ | refine Q_block_here ?_ | refine Q_block_on rfl ?_ | refine C_scope ?_ | refine C_label ?_ | refine Q_asn ?_
    (refine C_region ?_
     <;> (first | refine M_bool rfl ?_ | refine W_move ?_)
     <;> (first | refine M_bool rfl ?_ | refine W_move ?_)
     <;> (first | refine W_no rfl ?_ | (refine W_yes rfl ?_; (first | refine M_int rfl ?_ | refine W_move ?_))))
    -- at operation 3: <dst=(some 59) op=(call <callee=(value (func 15)) args=[(tmp 58)] argTypes=[3]>) type=22 guard=(some [1, true])>
    refine W_yes rfl ?_
    refine W_call (Start_any n _) rfl ?_
    rintro sv1 w8 ⟨o8, k8⟩
    replace o8 := Ints.own o8
    replace o6 := o6.keep k8
    replace o7 := o7.keep k8
    replace k1 := k1.trans k8
    clear k8
    ((first | refine W_no rfl ?_ | (refine W_yes rfl ?_; (first | refine M_int rfl ?_ | refine W_move ?_))))
    -- at operation 5: <dst=(some 61) op=(call <callee=(value (func 16)) args=[(tmp 60)] argTypes=[3]>) type=22 guard=(some [1, true])>
    refine W_yes rfl ?_
    refine W_call (refStart_any n _) rfl ?_
    rintro sv2 w9 ⟨o9, k9⟩
    replace o9 := Ints.own o9
    replace o8 := o8.keep k9
    replace o6 := o6.keep k9
    replace o7 := o7.keep k9
    replace k1 := k1.trans k9
    clear k9
    refine W_yes rfl ?_
    refine W_call (Ints_any _ _ (startL n) (startL n) _ o8 o9) rfl ?_
    rintro _ w10 ⟨rfl, k10⟩
    rw [beq_self_eq_true]
    replace o6 := o6.keep k10
    replace o7 := o7.keep k10
    replace k1 := k1.trans k10
    clear k10 o8 o9
    (((first | refine M_pick_t rfl ?_ | refine M_pick_f rfl ?_); (first | refine M_bool rfl ?_ | refine W_move ?_))
     <;> (first | refine M_bool rfl ?_ | refine W_move ?_)
     <;> (first | refine W_no rfl ?_ | (refine W_yes rfl ?_; (first | refine M_slice rfl ?_ | refine W_move ?_)))
     <;> (first | refine W_no rfl ?_ | (refine W_yes rfl ?_; (first | refine M_int rfl ?_ | refine W_move ?_))))
    -- at operation 11: <dst=(some 67) op=(call <callee=(value (func 17)) args=[(tmp 65), (tmp 66)] argTypes=[22, 3]>) type=4 guard=(some [8, true])>
    refine W_yes rfl ?_
    refine W_call (Valid_any _ r n _ (h.keep k1)) rfl ?_
    rintro _ w11 ⟨rfl, k11⟩
    replace o6 := o6.keep k11
    replace o7 := o7.keep k11
    replace k1 := k1.trans k11
    clear k11
    ((first | refine W_no rfl ?_ | (refine W_yes rfl ?_; (first | refine M_slice rfl ?_ | refine W_move ?_)))
     <;> (first | refine W_no rfl ?_ | (refine W_yes rfl ?_; (first | refine M_int rfl ?_ | refine W_move ?_))))
    -- at operation 14: <dst=(some 70) op=(call <callee=(value (func 18)) args=[(tmp 68), (tmp 69)] argTypes=[22, 3]>) type=4 guard=(some [8, true])>
    refine W_yes rfl ?_
    refine W_call (refValid_any _ r n _ (h.keep k1)) rfl ?_
    rintro _ w12 ⟨rfl, k12⟩
    replace o6 := o6.keep k12
    replace o7 := o7.keep k12
    replace k1 := k1.trans k12
    clear k12
    refine W_yes rfl ?_
    refine W_beql rfl rfl ?_
    rw [beq_self_eq_true]
    (((first | refine M_pick_t rfl ?_ | refine M_pick_f rfl ?_); (first | refine M_bool rfl ?_ | refine W_move ?_))
     <;> (first | refine M_bool rfl ?_ | refine W_move ?_)
     <;> (first | refine W_no rfl ?_ | (refine W_yes rfl ?_; (first | refine M_slice rfl ?_ | refine W_move ?_)))
     <;> (first | refine W_no rfl ?_ | (refine W_yes rfl ?_; (first | refine M_slice rfl ?_ | refine W_move ?_))))
    -- at operation 20: <dst=(some 76) op=(call <callee=(value (func 14)) args=[(tmp 74), (tmp 75)] argTypes=[22, 22]>) type=4 guard=(some [17, true])>
    refine W_yes rfl ?_
    refine W_call (Ints_any _ _ _ _ _ o6 o7) rfl ?_
    rintro _ w13 ⟨rfl, k13⟩
    rw [beq_self_eq_true]
    replace k1 := k1.trans k13
    clear k13 o6 o7
    (((first | refine M_pick_t rfl ?_ | refine M_pick_f rfl ?_); (first | refine M_bool rfl ?_ | refine W_move ?_))
     <;> (first | refine M_bool rfl ?_ | refine W_move ?_)
     <;> (first | refine W_no rfl ?_ | (refine W_yes rfl ?_; (first | refine M_int rfl ?_ | refine W_move ?_)))
     <;> (first | refine W_no rfl ?_ | (refine W_yes rfl ?_; (first | refine M_int rfl ?_ | refine W_move ?_)))
     <;> (first | refine W_no rfl ?_ | (refine W_yes rfl ?_; (refine W_eql rfl rfl (fun hc => ?_) (fun hc => ?_) <;> try (exfalso; omega))))
     <;> ((first | refine M_pick_t rfl ?_ | refine M_pick_f rfl ?_); (first | refine M_bool rfl ?_ | refine W_move ?_))
     <;> (first | refine M_bool rfl ?_ | refine W_move ?_)
     <;> (first | refine W_no rfl ?_ | (refine W_yes rfl ?_; (first | refine M_int rfl ?_ | refine W_move ?_)))
     <;> (first | refine W_no rfl ?_ | (refine W_yes rfl ?_; (first | refine M_slice rfl ?_ | refine W_move ?_)))
     <;> (first | refine W_no rfl ?_ | (refine W_yes rfl ?_; (first | refine M_slice rfl ?_ | refine W_move ?_))))
    -- at operation 31: <dst=(some 87) op=(call <callee=(value (func 19)) args=[(tmp 84), (tmp 85), (tmp 86)] argTypes=[3, 25, 25]>) type=4 guard=(some [27, true])>
    refine W_yes rfl ?_
    refine W_call (Wins_any _ _ n lp _ (hl1.keep k1)) rfl ?_
    rintro _ w14 ⟨rfl, k14⟩
    replace k1 := k1.trans k14
    clear k14
    ((first | refine W_no rfl ?_ | (refine W_yes rfl ?_; (first | refine M_int rfl ?_ | refine W_move ?_)))
     <;> (first | refine W_no rfl ?_ | (refine W_yes rfl ?_; (first | refine M_slice rfl ?_ | refine W_move ?_)))
     <;> (first | refine W_no rfl ?_ | (refine W_yes rfl ?_; (first | refine M_slice rfl ?_ | refine W_move ?_))))
    -- at operation 35: <dst=(some 91) op=(call <callee=(value (func 20)) args=[(tmp 88), (tmp 89), (tmp 90)] argTypes=[3, 25, 25]>) type=4 guard=(some [27, true])>
    refine W_yes rfl ?_
    refine W_call (refWins_any _ _ n lp _ (hl1.keep k1)) rfl ?_
    rintro _ w15 ⟨rfl, k15⟩
    replace k1 := k1.trans k15
    clear k15
    refine W_yes rfl ?_
    refine W_beql rfl rfl ?_
    rw [beq_self_eq_true]
    (((first | refine M_pick_t rfl ?_ | refine M_pick_f rfl ?_); (first | refine M_bool rfl ?_ | refine W_move ?_))
     <;> (refine M_assign ?_; (first | refine M_bool rfl ?_ | refine W_move ?_))
     <;> refine W_nil ?_)
    repeat'
      first
        | refine Q_then ?_ | refine C_cond_t rfl ?_ | refine C_cond_f rfl ?_ | refine C_seq ?_ | refine C_block ?_ | refine C_skip ?_ | refine C_ret ?_ | refine C_exit ?_
        | refine Q_then_ret ?_ | refine Q_then_exit ?_ | refine Q_block ?_ | refine Q_block_ret ?_ | refine Q_block_here ?_ | refine Q_block_on rfl ?_ | refine C_scope ?_ | refine C_label ?_ | refine Q_asn ?_
    exact fin_ret1 rfl ⟨rfl, k1⟩
end Go.Proofs.Yticliabmhgofjaa
