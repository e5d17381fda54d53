/- JournalTails: the records of a journal are the first ones, whatever follows. Conditions: none. -/
import Derived.Test.YtfbahfibgmdlnaaL4
namespace Go.Proofs.Ytfbahfibgmdlnaa
open Go.RowKit
set_option linter.unusedVariables false

theorem Tails_law (v1 v2 : Value) (ls : List (List UInt8)) (tl : List UInt8) (w : World) (h : LB anyB w v1 ls) (ht : BytesAt anyB w v2 tl) :
    Fn Try.prog 7 [v1, v2] w fun v w' => v = .bool true ∧ Ext w w' := by
  obtain ⟨a, cp, rfl, _⟩ := h.form
  obtain ⟨ta, tc, rfl, _⟩ := id ht
  refine fn_of_wc Try.func7 rfl Try.ntmps7 (Nat.le_of_ble_eq_true rfl) (by kernel_rfl) ?_
  repeat'
    first
      | refine Q_then ?_ | refine C_cond_t rfl ?_ | refine C_cond_f rfl ?_ | refine C_seq ?_ | refine C_block ?_ | refine C_skip ?_ | refine C_ret ?_ | refine C_exit ?_
      | refine Q_then_ret ?_ | refine Q_then_exit ?_ | refine Q_block ?_ | refine Q_block_ret ?_ | refine Q_block_here ?_ | refine Q_block_on rfl ?_ | refine C_scope ?_ | refine C_label ?_ | refine Q_asn ?_
  (refine C_region ?_
   <;> (refine M_assign ?_; (first | refine M_bool rfl ?_ | refine W_move ?_))
   <;> refine W_nil ?_)
  repeat'
    first
      | refine Q_then ?_ | refine C_cond_t rfl ?_ | refine C_cond_f rfl ?_ | refine C_seq ?_ | refine C_block ?_ | refine C_skip ?_ | refine C_ret ?_ | refine C_exit ?_
      | refine Q_then_ret ?_ | refine Q_then_exit ?_ | refine Q_block ?_ | refine Q_block_ret ?_ | refine Q_block_here ?_ | refine Q_block_on rfl ?_ | refine C_scope ?_ | refine C_label ?_ | refine Q_asn ?_
  (refine C_region ?_)
  -- at operation 0: <dst=(some 11) op=(call <callee=(value (func 10)) args=[] argTypes=[]>) type=4 guard=none>
  refine W_call (head_any _) rfl ?_
  rintro _ w1 ⟨rfl, k1⟩
  replace h := h.keep k1 (by simp)
  replace ht := ht.ext k1
  ((refine M_assign ?_; (first | refine M_bool rfl ?_ | refine W_move ?_))
   <;> refine W_nil ?_)
  repeat'
    first
      | refine Q_then ?_ | refine C_cond_t rfl ?_ | refine C_cond_f rfl ?_ | refine C_seq ?_ | refine C_block ?_ | refine C_skip ?_ | refine C_ret ?_ | refine C_exit ?_
      | refine Q_then_ret ?_ | refine Q_then_exit ?_ | refine Q_block ?_ | refine Q_block_ret ?_ | refine Q_block_here ?_ | refine Q_block_on rfl ?_ | refine C_scope ?_ | refine C_label ?_ | refine Q_asn ?_
  (refine C_region ?_
   <;> (first | refine M_slice rfl ?_ | refine W_move ?_))
  -- at operation 1: <dst=(some 13) op=(call <callee=(value (func 22)) args=[(tmp 12)] argTypes=[31]>) type=4 guard=none>
  refine W_call (short_any _ ls _ h) rfl ?_
  rintro _ w2 ⟨rfl, k2⟩
  replace h := h.keep k2 (by simp)
  replace ht := ht.ext k2
  replace k1 := k1.trans k2
  clear k2
  cases hsh : short ls with
  | false =>
    (refine W_not rfl ?_
     <;> (first | refine M_bool rfl ?_ | refine W_move ?_)
     <;> (first | refine W_no rfl ?_ | (refine W_yes rfl ?_; (first | refine M_slice rfl ?_ | refine W_move ?_)))
     <;> (first | refine W_no rfl ?_ | (refine W_yes rfl ?_; refine W_len rfl ?_))
     <;> (first | refine W_no rfl ?_ | (refine W_yes rfl ?_; (refine W_gtr rfl rfl (fun hc => ?_) (fun hc => ?_) <;> try (exfalso; omega))))
     <;> ((first | refine M_pick_t rfl ?_ | refine M_pick_f rfl ?_); (first | refine M_bool rfl ?_ | refine W_move ?_))
     <;> refine W_nil ?_)
    repeat'
      first
        | refine Q_then ?_ | refine C_cond_t rfl ?_ | refine C_cond_f rfl ?_ | refine C_seq ?_ | refine C_block ?_ | refine C_skip ?_ | refine C_ret ?_ | refine C_exit ?_
        | refine Q_then_ret ?_ | refine Q_then_exit ?_ | refine Q_block ?_ | refine Q_block_ret ?_ | refine Q_block_here ?_ | refine Q_block_on rfl ?_ | refine C_scope ?_ | refine C_label ?_ | refine Q_asn ?_
    (refine C_region ?_
     <;> (first | refine M_bool rfl ?_ | refine W_move ?_)
     <;> (refine M_assign ?_; (first | refine M_bool rfl ?_ | refine W_move ?_))
     <;> refine W_nil ?_)
    repeat'
      first
        | refine Q_then ?_ | refine C_cond_t rfl ?_ | refine C_cond_f rfl ?_ | refine C_seq ?_ | refine C_block ?_ | refine C_skip ?_ | refine C_ret ?_ | refine C_exit ?_
        | refine Q_then_ret ?_ | refine Q_then_exit ?_ | refine Q_block ?_ | refine Q_block_ret ?_ | refine Q_block_here ?_ | refine Q_block_on rfl ?_ | refine C_scope ?_ | refine C_label ?_ | refine Q_asn ?_
    exact fin_ret1 rfl ⟨rfl, k1⟩
  | true =>
  obtain ⟨rs, hw, hr15, hrs, hlen, hrec⟩ := short_cat hsh
  (refine W_not rfl ?_
   <;> (first | refine M_bool rfl ?_ | refine W_move ?_)
   <;> (first | refine W_no rfl ?_ | (refine W_yes rfl ?_; (first | refine M_slice rfl ?_ | refine W_move ?_)))
   <;> (first | refine W_no rfl ?_ | (refine W_yes rfl ?_; refine W_len rfl ?_))
   <;> (first | refine W_no rfl ?_ | (refine W_yes rfl ?_; (refine W_gtr rfl rfl (fun hc => ?_) (fun hc => ?_) <;> try (exfalso; omega))))
   <;> ((first | refine M_pick_t rfl ?_ | refine M_pick_f rfl ?_); (first | refine M_bool rfl ?_ | refine W_move ?_))
   <;> refine W_nil ?_)
  · repeat'
      first
        | refine Q_then ?_ | refine C_cond_t rfl ?_ | refine C_cond_f rfl ?_ | refine C_seq ?_ | refine C_block ?_ | refine C_skip ?_ | refine C_ret ?_ | refine C_exit ?_
        | refine Q_then_ret ?_ | refine Q_then_exit ?_ | refine Q_block ?_ | refine Q_block_ret ?_ | refine Q_block_here ?_ | refine Q_block_on rfl ?_ | refine C_scope ?_ | refine C_label ?_ | refine Q_asn ?_
    (refine C_region ?_
     <;> (first | refine M_bool rfl ?_ | refine W_move ?_)
     <;> (refine M_assign ?_; (first | refine M_bool rfl ?_ | refine W_move ?_))
     <;> refine W_nil ?_)
    repeat'
      first
        | refine Q_then ?_ | refine C_cond_t rfl ?_ | refine C_cond_f rfl ?_ | refine C_seq ?_ | refine C_block ?_ | refine C_skip ?_ | refine C_ret ?_ | refine C_exit ?_
        | refine Q_then_ret ?_ | refine Q_then_exit ?_ | refine Q_block ?_ | refine Q_block_ret ?_ | refine Q_block_here ?_ | refine Q_block_on rfl ?_ | refine C_scope ?_ | refine C_label ?_ | refine Q_asn ?_
    exact fin_ret1 rfl ⟨rfl, k1⟩
  repeat'
    first
      | refine Q_then ?_ | refine C_cond_t rfl ?_ | refine C_cond_f rfl ?_ | refine C_seq ?_ | refine C_block ?_ | refine C_skip ?_ | refine C_ret ?_ | refine C_exit ?_
      | refine Q_then_ret ?_ | refine Q_then_exit ?_ | refine Q_block ?_ | refine Q_block_ret ?_ | refine Q_block_here ?_ | refine Q_block_on rfl ?_ | refine C_scope ?_ | refine C_label ?_ | refine Q_asn ?_
  (refine C_region ?_
   <;> (first | refine M_slice rfl ?_ | refine W_move ?_))
  -- at operation 1: <dst=(some 22) op=(call <callee=(value (func 23)) args=[(tmp 21)] argTypes=[31]>) type=24 guard=none>
  refine W_call (whole_any _ ls _ h (short_iff hsh).1) rfl ?_
  rintro jv w3 ⟨oj, k3⟩
  rw [hw] at oj
  obtain ⟨ja, jc, rfl⟩ := own_form oj
  replace ht := ht.ext k3
  replace k1 := k1.trans k3
  clear k3 h
  ((refine M_assign ?_; (first | refine M_slice rfl ?_ | refine W_move ?_))
   <;> refine W_nil ?_)
  repeat'
    first
      | refine Q_then ?_ | refine C_cond_t rfl ?_ | refine C_cond_f rfl ?_ | refine C_seq ?_ | refine C_block ?_ | refine C_skip ?_ | refine C_ret ?_ | refine C_exit ?_
      | refine Q_then_ret ?_ | refine Q_then_exit ?_ | refine Q_block ?_ | refine Q_block_ret ?_ | refine Q_block_here ?_ | refine Q_block_on rfl ?_ | refine C_scope ?_ | refine C_label ?_ | refine Q_asn ?_
  (refine C_region ?_
   <;> (first | refine M_slice rfl ?_ | refine W_move ?_))
  -- at operation 1: <dst=(some 25) op=(call <callee=(value (func 15)) args=[(tmp 24)] argTypes=[24]>) type=32 guard=none>
  refine W_call (Records_any _ (cat rs) _ (own_bytes oj rfl)) rfl ?_
  rintro _ w4 ⟨lv, rfl, hl, k4⟩
  rw [hrec] at hl
  dsimp only at hl
  simp only [hrec]
  replace hl := hl.LB
  obtain ⟨la, lc, rfl, hlc, hlc2⟩ := hl.form
  replace oj := ownsRow_ext oj k4
  replace ht := ht.ext k4
  replace k1 := k1.trans k4
  clear k4
  ((first | refine M_tuple rfl ?_ | refine W_move ?_)
   <;> refine W_extract rfl rfl ?_
   <;> refine W_extract rfl rfl ?_
   <;> (refine M_assign ?_; (first | refine M_slice rfl ?_ | refine W_move ?_))
   <;> (refine M_assign ?_; (first | refine M_int rfl ?_ | refine W_move ?_))
   <;> refine W_nil ?_)
  repeat'
    first
      | refine Q_then ?_ | refine C_cond_t rfl ?_ | refine C_cond_f rfl ?_ | refine C_seq ?_ | refine C_block ?_ | refine C_skip ?_ | refine C_ret ?_ | refine C_exit ?_
      | refine Q_then_ret ?_ | refine Q_then_exit ?_ | refine Q_block ?_ | refine Q_block_ret ?_ | refine Q_block_here ?_ | refine Q_block_on rfl ?_ | refine C_scope ?_ | refine C_label ?_ | refine Q_asn ?_
  refine C_region ?_
  refine W_buildSlice1 (out := []) rfl (by omega) rfl rfl (fun w5 n5 => ?_)
  have o5 := own_nil n5
  have z5 := n5.size
  ((first | refine M_slice rfl ?_ | refine W_move ?_))
  -- at operation 2: <dst=(some 31) op=(call <callee=(builtin append) args=[(tmp 29), (tmp 30)] argTypes=[24, 24]>) type=24 guard=none>
  refine W_apd8 rfl rfl rfl o5 (own_bytes (ownsRow_ext oj n5.keep) rfl) (by omega) (by omega) (fun v6 w6 a6 => ?_)
  have k6 : Ext w4 w6 := n5.keep.apd o5 (Nat.le_refl _) a6
  have z6 := k6.size
  obtain ⟨xa, xc, rfl⟩ := own_form a6.own
  ((first | refine M_slice rfl ?_ | refine W_move ?_))
  -- at operation 4: <dst=(some 33) op=(call <callee=(builtin append) args=[(tmp 31), (tmp 32)] argTypes=[24, 24]>) type=24 guard=none>
  refine W_apd8 rfl rfl rfl a6.own (ht.ext k6) (by omega) (by omega) (fun v7 w7 a7 => ?_)
  have k7 : Ext w4 w7 := k6.apd a6.own (Nat.le_refl _) a7
  have o7 := a7.own
  obtain ⟨ya, yc, rfl⟩ := own_form o7
  clear a6 o5 n5
  replace oj := ownsRow_ext oj k7
  replace hl := hl.keep k7 (by simp)
  replace k1 := k1.trans k7
  clear k6 k7 a7
  obtain ⟨ms, hms⟩ : ∃ ms, (recs (500 - rs.length) tl).1 = ms := ⟨_, rfl⟩
  obtain ⟨mn, hmn⟩ : ∃ mn, (recs (500 - rs.length) tl).2 = mn := ⟨_, rfl⟩
  have hr2 := recs_of_cat rs 500 tl (fun r hr => (hrs r hr).1) (by omega)
  rw [hms, hmn] at hr2
  have hmn2 := recs_le (500 - rs.length) tl
  have hms2 := (recs_cat (500 - rs.length) tl).2.1
  rw [hmn] at hmn2
  rw [hms] at hms2
  refine W_call (Records_any _ (cat rs ++ tl) _ (own_bytes o7 (by simp))) rfl ?_
  rintro _ w8 ⟨mv, rfl, hm, k8⟩
  rw [hr2] at hm
  dsimp only at hm
  simp only [hr2]
  replace hm := hm.LB
  obtain ⟨ma, mc, rfl, hmc, hmc2⟩ := hm.form
  replace hl := hl.keep k8 (by simp)
  replace k1 := k1.trans k8
  clear k8 o7
  rw [List.length_append] at hm hmc ⊢
  ((first | refine M_tuple rfl ?_ | refine W_move ?_)
   <;> refine W_extract rfl rfl ?_
   <;> refine W_extract rfl rfl ?_
   <;> (refine M_assign ?_; (first | refine M_slice rfl ?_ | refine W_move ?_))
   <;> (refine M_assign ?_; (first | refine M_int rfl ?_ | refine W_move ?_))
   <;> refine W_nil ?_)
  repeat'
    first
      | refine Q_then ?_ | refine C_cond_t rfl ?_ | refine C_cond_f rfl ?_ | refine C_seq ?_ | refine C_block ?_ | refine C_skip ?_ | refine C_ret ?_ | refine C_exit ?_
      | refine Q_then_ret ?_ | refine Q_then_exit ?_ | refine Q_block ?_ | refine Q_block_ret ?_ | refine Q_block_here ?_ | refine Q_block_on rfl ?_ | refine C_scope ?_ | refine C_label ?_ | refine Q_asn ?_
  (refine C_region ?_
   <;> (first | refine M_bool rfl ?_ | refine W_move ?_)
   <;> (first | refine M_bool rfl ?_ | refine W_move ?_)
   <;> (first | refine W_no rfl ?_ | (refine W_yes rfl ?_; (first | refine M_int rfl ?_ | refine W_move ?_)))
   <;> (first | refine W_no rfl ?_ | (refine W_yes rfl ?_; (first | refine M_slice rfl ?_ | refine W_move ?_)))
   <;> (first | refine W_no rfl ?_ | (refine W_yes rfl ?_; refine W_len rfl ?_))
   <;> (first | refine W_no rfl ?_ | (refine W_yes rfl ?_; (refine W_eql rfl rfl (fun hc => ?_) (fun hc => ?_) <;> try (exfalso; omega))))
   <;> ((first | refine M_pick_t rfl ?_ | refine M_pick_f rfl ?_); (first | refine M_bool rfl ?_ | refine W_move ?_))
   <;> (first | refine M_bool rfl ?_ | refine W_move ?_)
   <;> (first | refine W_no rfl ?_ | (refine W_yes rfl ?_; (first | refine M_int rfl ?_ | refine W_move ?_)))
   <;> (first | refine W_no rfl ?_ | (refine W_yes rfl ?_; (first | refine M_int rfl ?_ | refine W_move ?_)))
   <;> (first | refine W_no rfl ?_ | (refine W_yes rfl ?_; (refine W_geq rfl rfl (fun hc => ?_) (fun hc => ?_) <;> try (exfalso; omega))))
   <;> ((first | refine M_pick_t rfl ?_ | refine M_pick_f rfl ?_); (first | refine M_bool rfl ?_ | refine W_move ?_))
   <;> (first | refine M_bool rfl ?_ | refine W_move ?_)
   <;> (first | refine W_no rfl ?_ | (refine W_yes rfl ?_; (first | refine M_slice rfl ?_ | refine W_move ?_)))
   <;> (first | refine W_no rfl ?_ | (refine W_yes rfl ?_; refine W_len rfl ?_))
   <;> (first | refine W_no rfl ?_ | (refine W_yes rfl ?_; (first | refine M_slice rfl ?_ | refine W_move ?_)))
   <;> (first | refine W_no rfl ?_ | (refine W_yes rfl ?_; refine W_len rfl ?_))
   <;> (first | refine W_no rfl ?_ | (refine W_yes rfl ?_; (refine W_geq rfl rfl (fun hc => ?_) (fun hc => ?_) <;> try (exfalso; omega))))
   <;> ((first | refine M_pick_t rfl ?_ | refine M_pick_f rfl ?_); (first | refine M_bool rfl ?_ | refine W_move ?_))
   <;> (first | refine M_bool rfl ?_ | refine W_move ?_)
   <;> (first | refine W_no rfl ?_ | (refine W_yes rfl ?_; (first | refine M_slice rfl ?_ | refine W_move ?_)))
   <;> (first | refine W_no rfl ?_ | (refine W_yes rfl ?_; (first | refine M_slice rfl ?_ | refine W_move ?_)))
   <;> (first | refine W_no rfl ?_ | (refine W_yes rfl ?_; refine W_len rfl ?_))
   <;> (first | refine W_no rfl ?_ | (refine W_yes rfl ?_; refine W_slice_h rfl rfl (by omega) (by omega) ?_))
   <;> (first | refine W_no rfl ?_ | (refine W_yes rfl ?_; (first | refine M_slice rfl ?_ | refine W_move ?_))))
  -- at operation 25: <dst=(some 62) op=(call <callee=(value (func 20)) args=[(tmp 60), (tmp 61)] argTypes=[31, 31]>) type=4 guard=(some [19, true])>
  refine W_yes rfl ?_
  have hcut : LB anyB w8 (.slice ma rs.length mc) rs := by
    have := hm.cut (j := rs.length) (by simp)
    rwa [List.take_left'] at this
    rfl
  refine W_call (SameRecords_any _ _ rs rs _ hcut hl) rfl ?_
  rintro _ w9 ⟨rfl, k9⟩
  rw [beq_self_eq_true]
  replace k1 := k1.trans k9
  (((first | refine M_pick_t rfl ?_ | refine M_pick_f rfl ?_); (first | refine M_bool rfl ?_ | refine W_move ?_))
   <;> (refine M_assign ?_; (first | refine M_bool rfl ?_ | refine W_move ?_))
   <;> refine W_nil ?_)
  repeat'
    first
      | refine Q_then ?_ | refine C_cond_t rfl ?_ | refine C_cond_f rfl ?_ | refine C_seq ?_ | refine C_block ?_ | refine C_skip ?_ | refine C_ret ?_ | refine C_exit ?_
      | refine Q_then_ret ?_ | refine Q_then_exit ?_ | refine Q_block ?_ | refine Q_block_ret ?_ | refine Q_block_here ?_ | refine Q_block_on rfl ?_ | refine C_scope ?_ | refine C_label ?_ | refine Q_asn ?_
  exact fin_ret1 rfl ⟨rfl, k1⟩
end Go.Proofs.Ytfbahfibgmdlnaa
