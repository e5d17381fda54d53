/- The journal's functions on numbers and bytes, walked. Conditions: none. -/
import Derived.Test.YtfbahfibgmdlnaaTy
import Derived.Test.YtfbahfibgmdlnaaJP
namespace Go.Proofs.Ytfbahfibgmdlnaa
set_option linter.unusedVariables false

theorem joined_any (h l : UInt8) (w : World) :
    Fn Try.prog 24 [enc8 h, enc8 l] w fun v w' => v = .int .i64 (un h l : Nat) ∧ w' = w := by
  have h1 := h.toNat_lt
  have h2 := l.toNat_lt
  have e : ((un h l : Nat) : Int) = (h.toNat : Int) * 256 + (l.toNat : Int) := by simp [un]
  rw [e]
  refine fn_of_wc Try.func24 rfl Try.ntmps24 (Nat.le_of_ble_eq_true rfl) (by kernel_rfl) ?_
  repeat'
    first
      | refine W_nil ?_ | refine C_seq ?_ | refine C_region ?_
      | refine M_int rfl ?_ | refine M_slice rfl ?_ | refine M_bool rfl ?_ | refine M_ptr rfl ?_ | refine M_str rfl ?_ | refine M_tuple rfl ?_ | refine M_agg rfl ?_ | refine M_func rfl ?_ | refine M_map rfl ?_
      | refine M_assign ?_ | refine M_pick_t rfl ?_ | refine M_pick_f rfl ?_
      | refine Q_then ?_ | refine C_cond_t rfl ?_ | refine C_cond_f rfl ?_ | refine C_block ?_ | refine C_skip ?_ | refine C_ret ?_ | refine C_exit ?_
      | refine Q_then_ret ?_ | refine Q_then_exit ?_ | refine Q_block ?_ | refine Q_block_ret ?_ | refine Q_block_here ?_ | refine Q_block_on rfl ?_
      | refine W_len rfl ?_ | refine W_fieldAddr rfl ?_ | refine W_extract rfl rfl ?_ | refine W_not rfl ?_
      | refine W_yes rfl ?_ | refine W_no rfl ?_
      | refine W_slen rfl ?_ | refine W_makeFunc rfl rfl ?_
      | refine C_scope ?_ | refine C_label ?_ | refine Q_asn ?_
      | refine W_conv rfl (by first | exact inR_i64 (by omega) (by omega) | exact inR_u8 (by omega) (by omega) | exact inR_u16 (by omega) (by omega)) ?_
      | refine W_add rfl rfl (by first | exact inR_i64 (by omega) (by omega) | exact inR_u8 (by omega) (by omega)) ?_
      | refine W_sub rfl rfl (by first | exact inR_i64 (by omega) (by omega) | exact inR_u8 (by omega) (by omega)) ?_
      | refine W_mul rfl rfl (by first | exact inR_i64 (by omega) (by omega) | exact inR_u8 (by omega) (by omega)) ?_
      | refine W_quo rfl rfl (by omega) (by omega) (by first | exact inR_i64 (by omega) (by omega) | exact inR_u8 (by omega) (by omega)) ?_
      | refine W_rem rfl rfl (by omega) (by omega) ?_
      | refine W_idx1 rfl rfl rfl (by omega) ?_
      | refine W_load rfl (Blk.cell (by assumption) (by rfl)) ?_
      | refine W_load rfl (by assumption) ?_
      | (refine W_lss rfl rfl (fun hc => ?_) (fun hc => ?_) <;> try (exfalso; omega))
      | (refine W_leq rfl rfl (fun hc => ?_) (fun hc => ?_) <;> try (exfalso; omega))
      | (refine W_gtr rfl rfl (fun hc => ?_) (fun hc => ?_) <;> try (exfalso; omega))
      | (refine W_geq rfl rfl (fun hc => ?_) (fun hc => ?_) <;> try (exfalso; omega))
      | (refine W_eql rfl rfl (fun hc => ?_) (fun hc => ?_) <;> try (exfalso; omega))
      | (refine W_neq rfl rfl (fun hc => ?_) (fun hc => ?_) <;> try (exfalso; omega))
  exact fin_ret1 rfl ⟨rfl, rfl⟩

theorem halves_any (n : Nat) (w : World) (h1 : n ≤ 65535) :
    Fn Try.prog 26 [.int .i64 n] w fun v w' => v = .tuple #[enc8 (b8 (n / 256)), enc8 (b8 (n % 256))] ∧ w' = w := by
  rw [enc8_b8 (by omega), enc8_b8 (by omega)]
  refine fn_of_wc Try.func26 rfl Try.ntmps26 (Nat.le_of_ble_eq_true rfl) (by kernel_rfl) ?_
  repeat'
    first
      | refine W_nil ?_ | refine C_seq ?_ | refine C_region ?_
      | refine M_int rfl ?_ | refine M_slice rfl ?_ | refine M_bool rfl ?_ | refine M_ptr rfl ?_ | refine M_str rfl ?_ | refine M_tuple rfl ?_ | refine M_agg rfl ?_ | refine M_func rfl ?_ | refine M_map rfl ?_
      | refine M_assign ?_ | refine M_pick_t rfl ?_ | refine M_pick_f rfl ?_
      | refine Q_then ?_ | refine C_cond_t rfl ?_ | refine C_cond_f rfl ?_ | refine C_block ?_ | refine C_skip ?_ | refine C_ret ?_ | refine C_exit ?_
      | refine Q_then_ret ?_ | refine Q_then_exit ?_ | refine Q_block ?_ | refine Q_block_ret ?_ | refine Q_block_here ?_ | refine Q_block_on rfl ?_
      | refine W_len rfl ?_ | refine W_fieldAddr rfl ?_ | refine W_extract rfl rfl ?_ | refine W_not rfl ?_
      | refine W_yes rfl ?_ | refine W_no rfl ?_
      | refine W_slen rfl ?_ | refine W_makeFunc rfl rfl ?_
      | refine C_scope ?_ | refine C_label ?_ | refine Q_asn ?_
      | refine W_conv rfl (by first | exact inR_i64 (by omega) (by omega) | exact inR_u8 (by omega) (by omega) | exact inR_u16 (by omega) (by omega)) ?_
      | refine W_add rfl rfl (by first | exact inR_i64 (by omega) (by omega) | exact inR_u8 (by omega) (by omega)) ?_
      | refine W_sub rfl rfl (by first | exact inR_i64 (by omega) (by omega) | exact inR_u8 (by omega) (by omega)) ?_
      | refine W_mul rfl rfl (by first | exact inR_i64 (by omega) (by omega) | exact inR_u8 (by omega) (by omega)) ?_
      | refine W_quo rfl rfl (by omega) (by omega) (by first | exact inR_i64 (by omega) (by omega) | exact inR_u8 (by omega) (by omega)) ?_
      | refine W_rem rfl rfl (by omega) (by omega) ?_
      | refine W_idx1 rfl rfl rfl (by omega) ?_
      | refine W_load rfl (Blk.cell (by assumption) (by rfl)) ?_
      | refine W_load rfl (by assumption) ?_
      | (refine W_lss rfl rfl (fun hc => ?_) (fun hc => ?_) <;> try (exfalso; omega))
      | (refine W_leq rfl rfl (fun hc => ?_) (fun hc => ?_) <;> try (exfalso; omega))
      | (refine W_gtr rfl rfl (fun hc => ?_) (fun hc => ?_) <;> try (exfalso; omega))
      | (refine W_geq rfl rfl (fun hc => ?_) (fun hc => ?_) <;> try (exfalso; omega))
      | (refine W_eql rfl rfl (fun hc => ?_) (fun hc => ?_) <;> try (exfalso; omega))
      | (refine W_neq rfl rfl (fun hc => ?_) (fun hc => ?_) <;> try (exfalso; omega))
  exact fin_ret2 rfl ⟨rfl, rfl⟩

theorem two_any (n : Nat) (w : World) (h1 : n ≤ 65535) :
    Fn Try.prog 30 [.int .i64 n] w fun v w' => w'.ownsRow w.heap.size 5 1 v 2 (cells8 (two n)) ∧ Ext w w' := by
  have e1 := enc8_b8 (n := n / 256) (by omega)
  have e2 := enc8_b8 (n := n % 256) (by omega)
  refine fn_of_wc Try.func30 rfl Try.ntmps30 (Nat.le_of_ble_eq_true rfl) (by kernel_rfl) ?_
  repeat'
    first
      | refine Q_then ?_ | refine C_cond_t rfl ?_ | refine C_cond_f rfl ?_ | refine C_seq ?_ | refine C_block ?_ | refine C_skip ?_ | refine C_ret ?_ | refine C_exit ?_
      | refine Q_then_ret ?_ | refine Q_then_exit ?_ | refine Q_block ?_ | refine Q_block_ret ?_ | refine Q_block_here ?_ | refine Q_block_on rfl ?_ | refine C_scope ?_ | refine C_label ?_ | refine Q_asn ?_
  (refine C_region ?_
   <;> (refine M_assign ?_; (first | refine M_slice rfl ?_ | refine W_move ?_))
   <;> refine W_nil ?_)
  repeat'
    first
      | refine Q_then ?_ | refine C_cond_t rfl ?_ | refine C_cond_f rfl ?_ | refine C_seq ?_ | refine C_block ?_ | refine C_skip ?_ | refine C_ret ?_ | refine C_exit ?_
      | refine Q_then_ret ?_ | refine Q_then_exit ?_ | refine Q_block ?_ | refine Q_block_ret ?_ | refine Q_block_here ?_ | refine Q_block_on rfl ?_ | refine C_scope ?_ | refine C_label ?_ | refine Q_asn ?_
  (refine C_region ?_
   <;> (first | refine M_int rfl ?_ | refine W_move ?_)
   <;> refine W_quo rfl rfl (by omega) (by omega) (by first | exact inR_i64 (by omega) (by omega) | exact inR_u8 (by omega) (by omega) | exact inR_u16 (by omega) (by omega)) ?_
   <;> refine W_conv rfl (by first | exact inR_i64 (by omega) (by omega) | exact inR_u8 (by omega) (by omega) | exact inR_u16 (by omega) (by omega)) ?_
   <;> (first | refine M_int rfl ?_ | refine W_move ?_)
   <;> refine W_rem rfl rfl (by omega) (by omega) ?_
   <;> refine W_conv rfl (by first | exact inR_i64 (by omega) (by omega) | exact inR_u8 (by omega) (by omega) | exact inR_u16 (by omega) (by omega)) ?_)
  -- at operation 6: <dst=(some 9) op=(buildSlice 24 2 [[0, (tmp 5)], [1, (tmp 8)]]) type=24 guard=none>
  refine W_buildSlice1 (out := cells8 (two n)) rfl (by omega) rfl ?_ (fun w1 hw1 => ?_)
  · simp only [cells8, two, List.map_cons, List.map_nil, e1, e2]; rfl
  ((refine M_assign ?_; (first | refine M_slice rfl ?_ | refine W_move ?_))
   <;> refine W_nil ?_)
  repeat'
    first
      | refine Q_then ?_ | refine C_cond_t rfl ?_ | refine C_cond_f rfl ?_ | refine C_seq ?_ | refine C_block ?_ | refine C_skip ?_ | refine C_ret ?_ | refine C_exit ?_
      | refine Q_then_ret ?_ | refine Q_then_exit ?_ | refine Q_block ?_ | refine Q_block_ret ?_ | refine Q_block_here ?_ | refine Q_block_on rfl ?_ | refine C_scope ?_ | refine C_label ?_ | refine Q_asn ?_
  exact fin_ret1 rfl ⟨hw1.own rfl (by unfold maxLen; omega) (Nat.le_refl _), hw1.keep⟩

theorem Writable_any (e : Ent) (w : World) :
    Fn Try.prog 21 [entV e] w fun v w' => v = .bool (writable e) ∧ Ext w w' := by
  refine fn_of_wc Try.func21 rfl Try.ntmps21 (Nat.le_of_ble_eq_true rfl) (by kernel_rfl) ?_
  repeat'
    first
      | refine Q_then ?_ | refine C_cond_t rfl ?_ | refine C_cond_f rfl ?_ | refine C_seq ?_ | refine C_block ?_ | refine C_skip ?_ | refine C_ret ?_ | refine C_exit ?_
      | refine Q_then_ret ?_ | refine Q_then_exit ?_ | refine Q_block ?_ | refine Q_block_ret ?_ | refine Q_block_here ?_ | refine Q_block_on rfl ?_ | refine C_scope ?_ | refine C_label ?_ | refine Q_asn ?_
  refine C_region ?_
  refine W_box (L := [_, _, _]) rfl (fun w1 hw1 => ?_)
  obtain ⟨k1, s1, b1⟩ := hw1
  ((refine M_assign ?_; (first | refine M_bool rfl ?_ | refine W_move ?_))
   <;> refine W_nil ?_)
  repeat'
    first
      | refine Q_then ?_ | refine C_cond_t rfl ?_ | refine C_cond_f rfl ?_ | refine C_seq ?_ | refine C_block ?_ | refine C_skip ?_ | refine C_ret ?_ | refine C_exit ?_
      | refine Q_then_ret ?_ | refine Q_then_exit ?_ | refine Q_block ?_ | refine Q_block_ret ?_ | refine Q_block_here ?_ | refine Q_block_on rfl ?_ | refine C_scope ?_ | refine C_label ?_ | refine Q_asn ?_
  (refine C_region ?_
   <;> refine W_fieldAddr rfl ?_
   <;> (first | refine W_load rfl (Blk.cell (by assumption) (by rfl)) ?_ | refine W_load rfl (by assumption) ?_)
   <;> (refine W_geq rfl rfl (fun hc => ?_) (fun hc => ?_) <;> try (exfalso; omega))
   <;> (first | refine M_bool rfl ?_ | refine W_move ?_)
   <;> (first | refine W_no rfl ?_ | (refine W_yes rfl ?_; refine W_fieldAddr rfl ?_))
   <;> (first | refine W_no rfl ?_ | (refine W_yes rfl ?_; (first | refine W_load rfl (Blk.cell (by assumption) (by rfl)) ?_ | refine W_load rfl (by assumption) ?_)))
   <;> (first | refine W_no rfl ?_ | (refine W_yes rfl ?_; (refine W_leq rfl rfl (fun hc => ?_) (fun hc => ?_) <;> try (exfalso; omega))))
   <;> ((first | refine M_pick_t rfl ?_ | refine M_pick_f rfl ?_); (first | refine M_bool rfl ?_ | refine W_move ?_))
   <;> (first | refine M_bool rfl ?_ | refine W_move ?_)
   <;> (first | refine W_no rfl ?_ | (refine W_yes rfl ?_; refine W_fieldAddr rfl ?_))
   <;> (first | refine W_no rfl ?_ | (refine W_yes rfl ?_; (first | refine W_load rfl (Blk.cell (by assumption) (by rfl)) ?_ | refine W_load rfl (by assumption) ?_)))
   <;> (first | refine W_no rfl ?_ | (refine W_yes rfl ?_; (refine W_geq rfl rfl (fun hc => ?_) (fun hc => ?_) <;> try (exfalso; omega))))
   <;> ((first | refine M_pick_t rfl ?_ | refine M_pick_f rfl ?_); (first | refine M_bool rfl ?_ | refine W_move ?_))
   <;> (first | refine M_bool rfl ?_ | refine W_move ?_)
   <;> (first | refine W_no rfl ?_ | (refine W_yes rfl ?_; refine W_fieldAddr rfl ?_))
   <;> (first | refine W_no rfl ?_ | (refine W_yes rfl ?_; (first | refine W_load rfl (Blk.cell (by assumption) (by rfl)) ?_ | refine W_load rfl (by assumption) ?_)))
   <;> (first | refine W_no rfl ?_ | (refine W_yes rfl ?_; (refine W_leq rfl rfl (fun hc => ?_) (fun hc => ?_) <;> try (exfalso; omega))))
   <;> ((first | refine M_pick_t rfl ?_ | refine M_pick_f rfl ?_); (first | refine M_bool rfl ?_ | refine W_move ?_))
   <;> (first | refine M_bool rfl ?_ | refine W_move ?_)
   <;> (first | refine W_no rfl ?_ | (refine W_yes rfl ?_; refine W_fieldAddr rfl ?_))
   <;> (first | refine W_no rfl ?_ | (refine W_yes rfl ?_; (first | refine W_load rfl (Blk.cell (by assumption) (by rfl)) ?_ | refine W_load rfl (by assumption) ?_)))
   <;> (first | refine W_no rfl ?_ | (refine W_yes rfl ?_; refine W_slen rfl ?_))
   <;> (first | refine W_no rfl ?_ | (refine W_yes rfl ?_; (refine W_leq rfl rfl (fun hc => ?_) (fun hc => ?_) <;> try (exfalso; omega))))
   <;> ((first | refine M_pick_t rfl ?_ | refine M_pick_f rfl ?_); (first | refine M_bool rfl ?_ | refine W_move ?_))
   <;> (refine M_assign ?_; (first | refine M_bool rfl ?_ | refine W_move ?_))
   <;> refine W_nil ?_)
  all_goals
    repeat'
      first
        | refine Q_then ?_ | refine C_cond_t rfl ?_ | refine C_cond_f rfl ?_ | refine C_seq ?_ | refine C_block ?_ | refine C_skip ?_ | refine C_ret ?_ | refine C_exit ?_
        | refine Q_then_ret ?_ | refine Q_then_exit ?_ | refine Q_block ?_ | refine Q_block_ret ?_ | refine Q_block_here ?_ | refine Q_block_on rfl ?_ | refine C_scope ?_ | refine C_label ?_ | refine Q_asn ?_
  all_goals refine fin_ret1 rfl ⟨?_, k1⟩
  all_goals refine congrArg Value.bool ?_
  all_goals first
    | (symm; simp only [writable, Bool.and_eq_true, decide_eq_true_eq]; omega)
    | (symm; simp only [writable, Bool.and_eq_false_iff, decide_eq_false_iff_not]; omega)
end Go.Proofs.Ytfbahfibgmdlnaa
