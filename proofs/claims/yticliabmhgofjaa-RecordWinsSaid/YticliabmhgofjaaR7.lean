/- The fixed examples of records, walked: head answers true. Conditions: none. -/
import Derived.Test.YticliabmhgofjaaR6
namespace Go.Proofs.Yticliabmhgofjaa
open Go.RowKit
set_option linter.unusedVariables false

theorem xs1 : stepR [1, 2, 3] (evtL 2 0) = ([1, 2, 3], 4) := by kernel_rfl
theorem xs2 : stepR [1, 2, 3] (evtL 2 1) = ([2, 3, 1], 1) := by kernel_rfl
theorem xs3 : stepR [2, 3, 1] (evtL 2 1) = ([2, 3, 1], 2) := by kernel_rfl
theorem xs4 : stepR [1, 2] (evtL 0 0) = ([1, 2], 5) := by kernel_rfl
theorem xs5 : stepR [1, 1] (evtL 1 0) = ([], 0) := by kernel_rfl
theorem xs6 : stepR [1, 2] (evtL 1 1) = ([2, 1], 1) := by kernel_rfl
theorem xw1 : winsL 2 [evtL 1 0, evtL 0 2] = true := by kernel_rfl
theorem xw2 : winsL 2 [evtL 1 0, evtL 0 1] = false := by kernel_rfl
theorem xw3 : winsL 2 [evtL 1 0] = true := by kernel_rfl
theorem xw4 : winsL 2 [] = false := by kernel_rfl
theorem xt1 : startL 3 = [1, 2, 3] := by kernel_rfl
theorem xt2 : startL 0 = [] := by kernel_rfl
theorem xv1 : validL [2, 1] 2 = true := by kernel_rfl
theorem xv2 : validL [2, 1] 3 = false := by kernel_rfl
theorem xv3 : validL [] 0 = true := by kernel_rfl

theorem made1 : (madeCells (Value.agg #[.slice none 0 0, .slice none 0 0]).cells (1 * 2)).toList = [.slice none 0 0, .slice none 0 0] := by kernel_rfl
theorem made2 : (madeCells (Value.agg #[.slice none 0 0, .slice none 0 0]).cells (2 * 2)).toList = [.slice none 0 0, .slice none 0 0, .slice none 0 0, .slice none 0 0] := by kernel_rfl
theorem evs_two {w w' : World} {g1 b1 g2 b2 : Value} {e1 e2 : Evt} (n : New w w' 24 [g1, b1, g2, b2]) (h1 : EvAt w' g1 b1 e1) (h2 : EvAt w' g2 b2 e2) : EvsAt w' (.slice (some ⟨w.heap.size, 0, none⟩) 2 2) [e1, e2] :=
  ⟨[(g1, b1), (g2, b2)], ⟨_, _, rfl, Nat.le_refl _, by omega, (fun h => by cases h), .inr ⟨_, _, rfl, trivial, n.blk.cells⟩⟩, rfl, fun i p e hp he => by
    match i, hp, he with
    | 0, hp, he => simp at hp he; subst hp; subst he; exact h1
    | 1, hp, he => simp at hp he; subst hp; subst he; exact h2⟩
theorem evs_one {w w' : World} {g1 b1 : Value} {e1 : Evt} (n : New w w' 24 [g1, b1]) (h1 : EvAt w' g1 b1 e1) : EvsAt w' (.slice (some ⟨w.heap.size, 0, none⟩) 1 1) [e1] :=
  ⟨[(g1, b1)], ⟨_, _, rfl, Nat.le_refl _, by omega, (fun h => by cases h), .inr ⟨_, _, rfl, trivial, n.blk.cells⟩⟩, rfl, fun i p e hp he => by
    match i, hp, he with
    | 0, hp, he => simp at hp he; subst hp; subst he; exact h1⟩

theorem head_any (w : World) : Fn Try.prog 9 [] w fun v w' => v = .bool true ∧ Ext w w' := by
  have k := Ext.refl w
  refine fn_of_wc Try.func9 rfl Try.ntmps9 (Nat.le_of_ble_eq_true rfl) (by kernel_rfl) ?_
  repeat'
    first
      | refine Q_then ?_ | refine C_cond_t rfl ?_ | refine C_cond_f rfl ?_ | refine C_seq ?_ | refine C_block ?_ | refine C_skip ?_ | refine C_ret ?_ | refine C_exit ?_
      | refine Q_then_ret ?_ | refine Q_then_exit ?_ | refine Q_block ?_ | refine Q_block_ret ?_ | refine Q_block_here ?_ | refine Q_block_on rfl ?_ | refine C_scope ?_ | refine C_label ?_ | refine Q_asn ?_
  (refine C_region ?_
   <;> (refine M_assign ?_; (first | refine M_bool rfl ?_ | refine W_move ?_))
   <;> refine W_nil ?_)
  repeat'
    first
      | refine Q_then ?_ | refine C_cond_t rfl ?_ | refine C_cond_f rfl ?_ | refine C_seq ?_ | refine C_block ?_ | refine C_skip ?_ | refine C_ret ?_ | refine C_exit ?_
      | refine Q_then_ret ?_ | refine Q_then_exit ?_ | refine Q_block ?_ | refine Q_block_ret ?_ | refine Q_block_here ?_ | refine Q_block_on rfl ?_ | refine C_scope ?_ | refine C_label ?_ | refine Q_asn ?_
  refine C_region ?_
  refine W_buildSlice1 (out := intC [1, 2, 3]) rfl (by omega) rfl rfl (fun W2 n2 => ?_)
  have hr : Ints W2 _ [1, 2, 3] := n2.ints (by simp)
  replace k := k.trans n2.keep
  have q := n2.keep
  clear n2
  refine W_call (event_any 2 0 _) rfl ?_
  rintro _ W2 ⟨gv, bv, rfl, he, q⟩
  replace k := k.trans q
  replace hr := hr.keep q
  refine W_call (Step_any _ _ _ [1, 2, 3] (evtL 2 0) _ hr he) rfl ?_
  rintro _ W2 ⟨rv, rfl, o2, q⟩
  rw [xs1] at o2
  dsimp only at o2
  simp only [xs1]
  have ha := Ints.own o2
  obtain ⟨ra, rc, rfl⟩ := own_form o2
  replace k := k.trans q
  clear he o2
  clear hr
  ((first | refine M_tuple rfl ?_ | refine W_move ?_)
   <;> refine W_extract rfl rfl ?_
   <;> refine W_extract rfl rfl ?_
   <;> (refine M_assign ?_; (first | refine M_slice rfl ?_ | refine W_move ?_))
   <;> (refine M_assign ?_; (first | refine M_int rfl ?_ | refine W_move ?_))
   <;> refine W_nil ?_)
  repeat'
    first
      | refine Q_then ?_ | refine C_cond_t rfl ?_ | refine C_cond_f rfl ?_ | refine C_seq ?_ | refine C_block ?_ | refine C_skip ?_ | refine C_ret ?_ | refine C_exit ?_
      | refine Q_then_ret ?_ | refine Q_then_exit ?_ | refine Q_block ?_ | refine Q_block_ret ?_ | refine Q_block_here ?_ | refine Q_block_on rfl ?_ | refine C_scope ?_ | refine C_label ?_ | refine Q_asn ?_
  refine C_region ?_
  refine W_buildSlice1 (out := intC [1, 2, 3]) rfl (by omega) rfl rfl (fun W2 n2 => ?_)
  have hr : Ints W2 _ [1, 2, 3] := n2.ints (by simp)
  replace k := k.trans n2.keep
  have q := n2.keep
  clear n2
  replace ha := ha.keep q
  refine W_call (event_any 2 1 _) rfl ?_
  rintro _ W2 ⟨gv, bv, rfl, he, q⟩
  replace k := k.trans q
  replace hr := hr.keep q
  replace ha := ha.keep q
  refine W_call (Step_any _ _ _ [1, 2, 3] (evtL 2 1) _ hr he) rfl ?_
  rintro _ W2 ⟨rv, rfl, o2, q⟩
  rw [xs2] at o2
  dsimp only at o2
  simp only [xs2]
  have hb := Ints.own o2
  obtain ⟨ra, rc, rfl⟩ := own_form o2
  replace k := k.trans q
  clear he o2
  replace ha := ha.keep q
  clear hr
  ((first | refine M_tuple rfl ?_ | refine W_move ?_)
   <;> refine W_extract rfl rfl ?_
   <;> refine W_extract rfl rfl ?_
   <;> (refine M_assign ?_; (first | refine M_slice rfl ?_ | refine W_move ?_))
   <;> (refine M_assign ?_; (first | refine M_int rfl ?_ | refine W_move ?_))
   <;> refine W_nil ?_)
  repeat'
    first
      | refine Q_then ?_ | refine C_cond_t rfl ?_ | refine C_cond_f rfl ?_ | refine C_seq ?_ | refine C_block ?_ | refine C_skip ?_ | refine C_ret ?_ | refine C_exit ?_
      | refine Q_then_ret ?_ | refine Q_then_exit ?_ | refine Q_block ?_ | refine Q_block_ret ?_ | refine Q_block_here ?_ | refine Q_block_on rfl ?_ | refine C_scope ?_ | refine C_label ?_ | refine Q_asn ?_
  (refine C_region ?_
   <;> (first | refine M_slice rfl ?_ | refine W_move ?_))
  -- at operation 1: <dst=(some 29) op=(call <callee=(value (func 25)) args=[(const (int i64 2)), (const (int i64 1))] argTypes=[3, 3]>) type=24 guard=none>
  refine W_call (event_any 2 1 _) rfl ?_
  rintro _ W2 ⟨gv, bv, rfl, he, q⟩
  replace k := k.trans q
  replace ha := ha.keep q
  replace hb := hb.keep q
  refine W_call (Step_any _ _ _ [2, 3, 1] (evtL 2 1) _ hb he) rfl ?_
  rintro _ W2 ⟨rv, rfl, o2, q⟩
  rw [xs3] at o2
  dsimp only at o2
  simp only [xs3]
  have hcc := Ints.own o2
  obtain ⟨ra, rc, rfl⟩ := own_form o2
  replace k := k.trans q
  clear he o2
  replace ha := ha.keep q
  replace hb := hb.keep q
  ((first | refine M_tuple rfl ?_ | refine W_move ?_)
   <;> refine W_extract rfl rfl ?_
   <;> refine W_extract rfl rfl ?_
   <;> (refine M_assign ?_; (first | refine M_slice rfl ?_ | refine W_move ?_))
   <;> (refine M_assign ?_; (first | refine M_int rfl ?_ | refine W_move ?_))
   <;> refine W_nil ?_)
  repeat'
    first
      | refine Q_then ?_ | refine C_cond_t rfl ?_ | refine C_cond_f rfl ?_ | refine C_seq ?_ | refine C_block ?_ | refine C_skip ?_ | refine C_ret ?_ | refine C_exit ?_
      | refine Q_then_ret ?_ | refine Q_then_exit ?_ | refine Q_block ?_ | refine Q_block_ret ?_ | refine Q_block_here ?_ | refine Q_block_on rfl ?_ | refine C_scope ?_ | refine C_label ?_ | refine Q_asn ?_
  refine C_region ?_
  refine W_buildSlice1 (out := intC [1, 2]) rfl (by omega) rfl rfl (fun W2 n2 => ?_)
  have hr : Ints W2 _ [1, 2] := n2.ints (by simp)
  replace k := k.trans n2.keep
  have q := n2.keep
  clear n2
  replace ha := ha.keep q
  replace hb := hb.keep q
  replace hcc := hcc.keep q
  refine W_call (event_any 0 0 _) rfl ?_
  rintro _ W2 ⟨gv, bv, rfl, he, q⟩
  replace k := k.trans q
  replace hr := hr.keep q
  replace ha := ha.keep q
  replace hb := hb.keep q
  replace hcc := hcc.keep q
  refine W_call (Step_any _ _ _ [1, 2] (evtL 0 0) _ hr he) rfl ?_
  rintro _ W2 ⟨rv, rfl, o2, q⟩
  rw [xs4] at o2
  dsimp only at o2
  simp only [xs4]
  have hd := Ints.own o2
  obtain ⟨ra, rc, rfl⟩ := own_form o2
  replace k := k.trans q
  clear he o2
  replace ha := ha.keep q
  replace hb := hb.keep q
  replace hcc := hcc.keep q
  clear hr hd
  ((first | refine M_tuple rfl ?_ | refine W_move ?_)
   <;> refine W_extract rfl rfl ?_
   <;> refine W_extract rfl rfl ?_
   <;> (refine M_assign ?_; (first | refine M_slice rfl ?_ | refine W_move ?_))
   <;> (refine M_assign ?_; (first | refine M_int rfl ?_ | refine W_move ?_))
   <;> refine W_nil ?_)
  repeat'
    first
      | refine Q_then ?_ | refine C_cond_t rfl ?_ | refine C_cond_f rfl ?_ | refine C_seq ?_ | refine C_block ?_ | refine C_skip ?_ | refine C_ret ?_ | refine C_exit ?_
      | refine Q_then_ret ?_ | refine Q_then_exit ?_ | refine Q_block ?_ | refine Q_block_ret ?_ | refine Q_block_here ?_ | refine Q_block_on rfl ?_ | refine C_scope ?_ | refine C_label ?_ | refine Q_asn ?_
  refine C_region ?_
  refine W_buildSlice1 (out := intC [1, 1]) rfl (by omega) rfl rfl (fun W2 n2 => ?_)
  have hr : Ints W2 _ [1, 1] := n2.ints (by simp)
  replace k := k.trans n2.keep
  have q := n2.keep
  clear n2
  replace ha := ha.keep q
  replace hb := hb.keep q
  replace hcc := hcc.keep q
  refine W_call (event_any 1 0 _) rfl ?_
  rintro _ W2 ⟨gv, bv, rfl, he, q⟩
  replace k := k.trans q
  replace hr := hr.keep q
  replace ha := ha.keep q
  replace hb := hb.keep q
  replace hcc := hcc.keep q
  refine W_call (Step_any _ _ _ [1, 1] (evtL 1 0) _ hr he) rfl ?_
  rintro _ W2 ⟨rv, rfl, o2, q⟩
  rw [xs5] at o2
  dsimp only at o2
  simp only [xs5]
  have hd := Ints.own o2
  obtain ⟨ra, rc, rfl⟩ := own_form o2
  replace k := k.trans q
  clear he o2
  replace ha := ha.keep q
  replace hb := hb.keep q
  replace hcc := hcc.keep q
  clear hr hd
  ((first | refine M_tuple rfl ?_ | refine W_move ?_)
   <;> refine W_extract rfl rfl ?_
   <;> refine W_extract rfl rfl ?_
   <;> (refine M_assign ?_; (first | refine M_slice rfl ?_ | refine W_move ?_))
   <;> (refine M_assign ?_; (first | refine M_int rfl ?_ | refine W_move ?_))
   <;> refine W_nil ?_)
  repeat'
    first
      | refine Q_then ?_ | refine C_cond_t rfl ?_ | refine C_cond_f rfl ?_ | refine C_seq ?_ | refine C_block ?_ | refine C_skip ?_ | refine C_ret ?_ | refine C_exit ?_
      | refine Q_then_ret ?_ | refine Q_then_exit ?_ | refine Q_block ?_ | refine Q_block_ret ?_ | refine Q_block_here ?_ | refine Q_block_on rfl ?_ | refine C_scope ?_ | refine C_label ?_ | refine Q_asn ?_
  (refine C_region ?_
   <;> (first | refine M_slice rfl ?_ | refine W_move ?_))
  -- at operation 1: <dst=(some 46) op=(buildSlice 22 3 [[0, (const (int i64 1))], [1, (const (int i64 2))], [2, (const (int i64 3))]]) type=22 guard=none>
  refine W_buildSlice1 (out := intC [1, 2, 3]) rfl (by omega) rfl rfl (fun W2 n2 => ?_)
  have hr : Ints W2 _ [1, 2, 3] := n2.ints (by simp)
  replace k := k.trans n2.keep
  have q := n2.keep
  clear n2
  replace ha := ha.keep q
  replace hb := hb.keep q
  replace hcc := hcc.keep q
  refine W_call (Ints_any _ _ [1, 2, 3] [1, 2, 3] _ ha hr) rfl ?_
  rintro _ W2 ⟨rfl, q⟩
  rw [beq_self_eq_true]
  replace k := k.trans q
  replace hb := hb.keep q
  replace hcc := hcc.keep q
  clear ha hr
  ((first | refine M_bool rfl ?_ | refine W_move ?_)
   <;> (first | refine W_no rfl ?_ | (refine W_yes rfl ?_; (first | refine M_int rfl ?_ | refine W_move ?_)))
   <;> (first | refine W_no rfl ?_ | (refine W_yes rfl ?_; (refine W_eql rfl rfl (fun hc => ?_) (fun hc => ?_) <;> try (exfalso; omega))))
   <;> ((first | refine M_pick_t rfl ?_ | refine M_pick_f rfl ?_); (first | refine M_bool rfl ?_ | refine W_move ?_))
   <;> (first | refine M_bool rfl ?_ | refine W_move ?_)
   <;> (first | refine W_no rfl ?_ | (refine W_yes rfl ?_; (first | refine M_slice rfl ?_ | refine W_move ?_))))
  -- at operation 9: <dst=(some 54) op=(buildSlice 22 3 [[0, (const (int i64 2))], [1, (const (int i64 3))], [2, (const (int i64 1))]]) type=22 guard=(some [7, true])>
  refine W_yes rfl ?_
  refine W_buildSlice1 (out := intC [2, 3, 1]) rfl (by omega) rfl rfl (fun W2 n2 => ?_)
  have hr : Ints W2 _ [2, 3, 1] := n2.ints (by simp)
  replace k := k.trans n2.keep
  have q := n2.keep
  clear n2
  replace hb := hb.keep q
  replace hcc := hcc.keep q
  refine W_yes rfl ?_
  refine W_call (Ints_any _ _ [2, 3, 1] [2, 3, 1] _ hb hr) rfl ?_
  rintro _ W2 ⟨rfl, q⟩
  rw [beq_self_eq_true]
  replace k := k.trans q
  replace hb := hb.keep q
  replace hcc := hcc.keep q
  clear hr
  (((first | refine M_pick_t rfl ?_ | refine M_pick_f rfl ?_); (first | refine M_bool rfl ?_ | refine W_move ?_))
   <;> (first | refine M_bool rfl ?_ | refine W_move ?_)
   <;> (first | refine W_no rfl ?_ | (refine W_yes rfl ?_; (first | refine M_int rfl ?_ | refine W_move ?_)))
   <;> (first | refine W_no rfl ?_ | (refine W_yes rfl ?_; (refine W_eql rfl rfl (fun hc => ?_) (fun hc => ?_) <;> try (exfalso; omega))))
   <;> ((first | refine M_pick_t rfl ?_ | refine M_pick_f rfl ?_); (first | refine M_bool rfl ?_ | refine W_move ?_))
   <;> (first | refine M_bool rfl ?_ | refine W_move ?_)
   <;> (first | refine W_no rfl ?_ | (refine W_yes rfl ?_; (first | refine M_slice rfl ?_ | refine W_move ?_)))
   <;> (first | refine W_no rfl ?_ | (refine W_yes rfl ?_; (first | refine M_slice rfl ?_ | refine W_move ?_))))
  -- at operation 19: <dst=(some 64) op=(call <callee=(value (func 14)) args=[(tmp 62), (tmp 63)] argTypes=[22, 22]>) type=4 guard=(some [16, true])>
  refine W_yes rfl ?_
  refine W_call (Ints_any _ _ [2, 3, 1] [2, 3, 1] _ hcc hb) rfl ?_
  rintro _ W2 ⟨rfl, q⟩
  rw [beq_self_eq_true]
  replace k := k.trans q
  clear hb hcc
  (((first | refine M_pick_t rfl ?_ | refine M_pick_f rfl ?_); (first | refine M_bool rfl ?_ | refine W_move ?_))
   <;> (first | refine M_bool rfl ?_ | refine W_move ?_)
   <;> (first | refine W_no rfl ?_ | (refine W_yes rfl ?_; (first | refine M_int rfl ?_ | refine W_move ?_)))
   <;> (first | refine W_no rfl ?_ | (refine W_yes rfl ?_; (refine W_eql rfl rfl (fun hc => ?_) (fun hc => ?_) <;> try (exfalso; omega))))
   <;> ((first | refine M_pick_t rfl ?_ | refine M_pick_f rfl ?_); (first | refine M_bool rfl ?_ | refine W_move ?_))
   <;> (first | refine M_bool rfl ?_ | refine W_move ?_)
   <;> (first | refine W_no rfl ?_ | (refine W_yes rfl ?_; (first | refine M_int rfl ?_ | refine W_move ?_)))
   <;> (first | refine W_no rfl ?_ | (refine W_yes rfl ?_; (refine W_eql rfl rfl (fun hc => ?_) (fun hc => ?_) <;> try (exfalso; omega))))
   <;> ((first | refine M_pick_t rfl ?_ | refine M_pick_f rfl ?_); (first | refine M_bool rfl ?_ | refine W_move ?_))
   <;> (first | refine M_bool rfl ?_ | refine W_move ?_)
   <;> (first | refine W_no rfl ?_ | (refine W_yes rfl ?_; (first | refine M_slice rfl ?_ | refine W_move ?_)))
   <;> (first | refine W_no rfl ?_ | (refine W_yes rfl ?_; refine W_len rfl ?_))
   <;> (first | refine W_no rfl ?_ | (refine W_yes rfl ?_; (refine W_eql rfl rfl (fun hc => ?_) (fun hc => ?_) <;> try (exfalso; omega))))
   <;> ((first | refine M_pick_t rfl ?_ | refine M_pick_f rfl ?_); (first | refine M_bool rfl ?_ | refine W_move ?_))
   <;> (first | refine M_bool rfl ?_ | refine W_move ?_)
   <;> (first | refine W_no rfl ?_ | (refine W_yes rfl ?_; (first | refine M_int rfl ?_ | refine W_move ?_)))
   <;> (first | refine W_no rfl ?_ | (refine W_yes rfl ?_; (refine W_eql rfl rfl (fun hc => ?_) (fun hc => ?_) <;> try (exfalso; omega))))
   <;> ((first | refine M_pick_t rfl ?_ | refine M_pick_f rfl ?_); (first | refine M_bool rfl ?_ | refine W_move ?_))
   <;> (refine M_assign ?_; (first | refine M_bool rfl ?_ | refine W_move ?_))
   <;> refine W_nil ?_)
  repeat'
    first
      | refine Q_then ?_ | refine C_cond_t rfl ?_ | refine C_cond_f rfl ?_ | refine C_seq ?_ | refine C_block ?_ | refine C_skip ?_ | refine C_ret ?_ | refine C_exit ?_
      | refine Q_then_ret ?_ | refine Q_then_exit ?_ | refine Q_block ?_ | refine Q_block_ret ?_ | refine Q_block_here ?_ | refine Q_block_on rfl ?_ | refine C_scope ?_ | refine C_label ?_ | refine Q_asn ?_
  refine C_region ?_
  refine W_buildSlice1 (out := intC [1, 2]) rfl (by omega) rfl rfl (fun W2 n2 => ?_)
  have hr : Ints W2 _ [1, 2] := n2.ints (by simp)
  replace k := k.trans n2.keep
  have q := n2.keep
  clear n2
  refine W_call (event_any 1 1 _) rfl ?_
  rintro _ W2 ⟨gv, bv, rfl, he, q⟩
  replace k := k.trans q
  replace hr := hr.keep q
  refine W_call (Step_any _ _ _ [1, 2] (evtL 1 1) _ hr he) rfl ?_
  rintro _ W2 ⟨rv, rfl, o2, q⟩
  rw [xs6] at o2
  dsimp only at o2
  simp only [xs6]
  have hd := Ints.own o2
  obtain ⟨ra, rc, rfl⟩ := own_form o2
  replace k := k.trans q
  clear he o2
  clear hr hd
  ((first | refine M_tuple rfl ?_ | refine W_move ?_)
   <;> refine W_extract rfl rfl ?_
   <;> refine W_extract rfl rfl ?_
   <;> (refine M_assign ?_; (first | refine M_slice rfl ?_ | refine W_move ?_))
   <;> (refine M_assign ?_; (first | refine M_int rfl ?_ | refine W_move ?_))
   <;> refine W_nil ?_)
  repeat'
    first
      | refine Q_then ?_ | refine C_cond_t rfl ?_ | refine C_cond_f rfl ?_ | refine C_seq ?_ | refine C_block ?_ | refine C_skip ?_ | refine C_ret ?_ | refine C_exit ?_
      | refine Q_then_ret ?_ | refine Q_then_exit ?_ | refine Q_block ?_ | refine Q_block_ret ?_ | refine Q_block_here ?_ | refine Q_block_on rfl ?_ | refine C_scope ?_ | refine C_label ?_ | refine Q_asn ?_
  refine C_region ?_
  refine W_call (event_any 1 0 _) rfl ?_
  rintro _ W2 ⟨gv, bv, rfl, he, q⟩
  replace k := k.trans q
  refine W_call (event_any 0 2 _) rfl ?_
  rintro _ W3 ⟨gv2, bv2, rfl, hf, q⟩
  replace k := k.trans q
  replace he := he.keep q
  refine W_buildSlice (out := [gv, bv, gv2, bv2]) rfl (by omega) (by rw [made2]; rfl) (fun W4 n4 => ?_)
  replace k := k.trans n4.keep
  refine W_call (Wins_any _ _ 2 _ _ (evs_two n4 (he.keep n4.keep) (hf.keep n4.keep))) rfl ?_
  rintro _ W5 ⟨rfl, q⟩
  replace k := k.trans q
  rw [xw1]
  clear he hf n4
  ((first | refine M_bool rfl ?_ | refine W_move ?_))
  -- at operation 5: <dst=(some 94) op=(call <callee=(value (func 25)) args=[(const (int i64 1)), (const (int i64 0))] argTypes=[3, 3]>) type=24 guard=(some [4, true])>
  refine W_yes rfl ?_
  refine W_call (event_any 1 0 _) rfl ?_
  rintro _ W2 ⟨gv, bv, rfl, he, q⟩
  replace k := k.trans q
  refine W_yes rfl ?_
  refine W_call (event_any 0 1 _) rfl ?_
  rintro _ W3 ⟨gv2, bv2, rfl, hf, q⟩
  replace k := k.trans q
  replace he := he.keep q
  refine W_yes rfl ?_
  refine W_buildSlice (out := [gv, bv, gv2, bv2]) rfl (by omega) (by rw [made2]; rfl) (fun W4 n4 => ?_)
  replace k := k.trans n4.keep
  refine W_yes rfl ?_
  refine W_call (Wins_any _ _ 2 _ _ (evs_two n4 (he.keep n4.keep) (hf.keep n4.keep))) rfl ?_
  rintro _ W5 ⟨rfl, q⟩
  replace k := k.trans q
  rw [xw2]
  clear he hf n4
  ((first | refine W_no rfl ?_ | (refine W_yes rfl ?_; refine W_not rfl ?_))
   <;> ((first | refine M_pick_t rfl ?_ | refine M_pick_f rfl ?_); (first | refine M_bool rfl ?_ | refine W_move ?_))
   <;> (first | refine M_bool rfl ?_ | refine W_move ?_))
  -- at operation 12: <dst=(some 101) op=(call <callee=(value (func 25)) args=[(const (int i64 0)), (const (int i64 1))] argTypes=[3, 3]>) type=24 guard=(some [11, true])>
  refine W_yes rfl ?_
  refine W_call (event_any 0 1 _) rfl ?_
  rintro _ W2 ⟨gv, bv, rfl, he, q⟩
  replace k := k.trans q
  refine W_yes rfl ?_
  refine W_buildSlice (out := [gv, bv]) rfl (by omega) (by rw [made1]; rfl) (fun W3 n3 => ?_)
  replace k := k.trans n3.keep
  clear he n3
  refine W_yes rfl ?_
  refine W_call (event_any 1 0 _) rfl ?_
  rintro _ W2 ⟨gv, bv, rfl, he, q⟩
  replace k := k.trans q
  refine W_yes rfl ?_
  refine W_buildSlice (out := [gv, bv]) rfl (by omega) (by rw [made1]; rfl) (fun W4 n4 => ?_)
  replace k := k.trans n4.keep
  refine W_yes rfl ?_
  refine W_call (Wins_any _ _ 2 _ _ (evs_one n4 (he.keep n4.keep))) rfl ?_
  rintro _ W5 ⟨rfl, q⟩
  replace k := k.trans q
  rw [xw3]
  clear he n4
  (((first | refine M_pick_t rfl ?_ | refine M_pick_f rfl ?_); (first | refine M_bool rfl ?_ | refine W_move ?_))
   <;> (first | refine M_bool rfl ?_ | refine W_move ?_))
  -- at operation 19: <dst=(some 108) op=(call <callee=(value (func 25)) args=[(const (int i64 1)), (const (int i64 0))] argTypes=[3, 3]>) type=24 guard=(some [18, true])>
  refine W_yes rfl ?_
  refine W_call (event_any 1 0 _) rfl ?_
  rintro _ W2 ⟨gv, bv, rfl, he, q⟩
  replace k := k.trans q
  refine W_yes rfl ?_
  refine W_buildSlice (out := [gv, bv]) rfl (by omega) (by rw [made1]; rfl) (fun W4 n4 => ?_)
  replace k := k.trans n4.keep
  refine W_yes rfl ?_
  refine W_call (Wins_any _ _ 2 [] _ (EvsAt.nil _)) rfl ?_
  rintro _ W5 ⟨rfl, q⟩
  replace k := k.trans q
  rw [xw4]
  clear he n4
  ((first | refine W_no rfl ?_ | (refine W_yes rfl ?_; refine W_not rfl ?_))
   <;> ((first | refine M_pick_t rfl ?_ | refine M_pick_f rfl ?_); (first | refine M_bool rfl ?_ | refine W_move ?_))
   <;> (refine M_assign ?_; (first | refine M_bool rfl ?_ | refine W_move ?_))
   <;> refine W_nil ?_)
  repeat'
    first
      | refine Q_then ?_ | refine C_cond_t rfl ?_ | refine C_cond_f rfl ?_ | refine C_seq ?_ | refine C_block ?_ | refine C_skip ?_ | refine C_ret ?_ | refine C_exit ?_
      | refine Q_then_ret ?_ | refine Q_then_exit ?_ | refine Q_block ?_ | refine Q_block_ret ?_ | refine Q_block_here ?_ | refine Q_block_on rfl ?_ | refine C_scope ?_ | refine C_label ?_ | refine Q_asn ?_
  (refine C_region ?_
   <;> (first | refine M_bool rfl ?_ | refine W_move ?_)
   <;> (first | refine M_bool rfl ?_ | refine W_move ?_)
   <;> (first | refine W_no rfl ?_ | (refine W_yes rfl ?_; (first | refine M_bool rfl ?_ | refine W_move ?_)))
   <;> ((first | refine M_pick_t rfl ?_ | refine M_pick_f rfl ?_); (first | refine M_bool rfl ?_ | refine W_move ?_))
   <;> (first | refine M_bool rfl ?_ | refine W_move ?_)
   <;> (first | refine W_no rfl ?_ | (refine W_yes rfl ?_; (first | refine M_int rfl ?_ | refine W_move ?_)))
   <;> (first | refine W_no rfl ?_ | (refine W_yes rfl ?_; (refine W_eql rfl rfl (fun hc => ?_) (fun hc => ?_) <;> try (exfalso; omega))))
   <;> ((first | refine M_pick_t rfl ?_ | refine M_pick_f rfl ?_); (first | refine M_bool rfl ?_ | refine W_move ?_))
   <;> (first | refine M_bool rfl ?_ | refine W_move ?_))
  -- at operation 9: <dst=(some 122) op=(call <callee=(value (func 15)) args=[(const (int i64 3))] argTypes=[3]>) type=22 guard=(some [8, true])>
  refine W_yes rfl ?_
  refine W_call (Start_any 3 _) rfl ?_
  rintro sv W6 ⟨o6, q⟩
  replace k := k.trans q
  rw [xt1] at o6
  have ho := Ints.own o6
  refine W_yes rfl ?_
  refine W_buildSlice1 (out := intC [1, 2, 3]) rfl (by omega) rfl rfl (fun W2 n2 => ?_)
  have hr : Ints W2 _ [1, 2, 3] := n2.ints (by simp)
  replace k := k.trans n2.keep
  have q := n2.keep
  clear n2
  replace ho := ho.keep q
  refine W_yes rfl ?_
  refine W_call (Ints_any _ _ [1, 2, 3] [1, 2, 3] _ ho hr) rfl ?_
  rintro _ W7 ⟨rfl, q⟩
  rw [beq_self_eq_true]
  replace k := k.trans q
  clear ho hr o6
  (((first | refine M_pick_t rfl ?_ | refine M_pick_f rfl ?_); (first | refine M_bool rfl ?_ | refine W_move ?_))
   <;> (first | refine M_bool rfl ?_ | refine W_move ?_))
  -- at operation 14: <dst=(some 127) op=(call <callee=(value (func 15)) args=[(const (int i64 0))] argTypes=[3]>) type=22 guard=(some [13, true])>
  refine W_yes rfl ?_
  refine W_call (Start_any 0 _) rfl ?_
  rintro sv0 W8 ⟨o8, q⟩
  replace k := k.trans q
  rw [xt2] at o8
  obtain ⟨sa, sc, rfl⟩ := own_form o8
  simp only [List.length_nil]
  ((first | refine W_no rfl ?_ | (refine W_yes rfl ?_; refine W_len rfl ?_))
   <;> (first | refine W_no rfl ?_ | (refine W_yes rfl ?_; (refine W_eql rfl rfl (fun hc => ?_) (fun hc => ?_) <;> try (exfalso; omega))))
   <;> ((first | refine M_pick_t rfl ?_ | refine M_pick_f rfl ?_); (first | refine M_bool rfl ?_ | refine W_move ?_))
   <;> (first | refine M_bool rfl ?_ | refine W_move ?_))
  -- at operation 19: <dst=(some 132) op=(buildSlice 22 2 [[0, (const (int i64 2))], [1, (const (int i64 1))]]) type=22 guard=(some [18, true])>
  refine W_yes rfl ?_
  refine W_buildSlice1 (out := intC [2, 1]) rfl (by omega) rfl rfl (fun W2 n2 => ?_)
  have hr : Ints W2 _ [2, 1] := n2.ints (by simp)
  replace k := k.trans n2.keep
  have q := n2.keep
  clear n2
  refine W_yes rfl ?_
  refine W_call (Valid_any _ [2, 1] 2 _ hr) rfl ?_
  rintro _ W9 ⟨rfl, q⟩
  rw [xv1]
  replace k := k.trans q
  clear hr
  (((first | refine M_pick_t rfl ?_ | refine M_pick_f rfl ?_); (first | refine M_bool rfl ?_ | refine W_move ?_))
   <;> (first | refine M_bool rfl ?_ | refine W_move ?_))
  -- at operation 23: <dst=(some 136) op=(buildSlice 22 2 [[0, (const (int i64 2))], [1, (const (int i64 1))]]) type=22 guard=(some [22, true])>
  refine W_yes rfl ?_
  refine W_buildSlice1 (out := intC [2, 1]) rfl (by omega) rfl rfl (fun W2 n2 => ?_)
  have hr : Ints W2 _ [2, 1] := n2.ints (by simp)
  replace k := k.trans n2.keep
  have q := n2.keep
  clear n2
  refine W_yes rfl ?_
  refine W_call (Valid_any _ [2, 1] 3 _ hr) rfl ?_
  rintro _ W10 ⟨rfl, q⟩
  rw [xv2]
  replace k := k.trans q
  clear hr
  ((first | refine W_no rfl ?_ | (refine W_yes rfl ?_; refine W_not rfl ?_))
   <;> ((first | refine M_pick_t rfl ?_ | refine M_pick_f rfl ?_); (first | refine M_bool rfl ?_ | refine W_move ?_))
   <;> (first | refine M_bool rfl ?_ | refine W_move ?_))
  -- at operation 28: <dst=(some 141) op=(call <callee=(value (func 17)) args=[(const (slice none 0 0)), (const (int i64 0))] argTypes=[22, 3]>) type=4 guard=(some [27, true])>
  refine W_yes rfl ?_
  refine W_call (Valid_any _ [] 0 _ (Ints.nil _)) rfl ?_
  rintro _ W11 ⟨rfl, q⟩
  rw [xv3]
  replace k := k.trans q
  (((first | refine M_pick_t rfl ?_ | refine M_pick_f rfl ?_); (first | refine M_bool rfl ?_ | refine W_move ?_))
   <;> (refine M_assign ?_; (first | refine M_bool rfl ?_ | refine W_move ?_))
   <;> refine W_nil ?_)
  repeat'
    first
      | refine Q_then ?_ | refine C_cond_t rfl ?_ | refine C_cond_f rfl ?_ | refine C_seq ?_ | refine C_block ?_ | refine C_skip ?_ | refine C_ret ?_ | refine C_exit ?_
      | refine Q_then_ret ?_ | refine Q_then_exit ?_ | refine Q_block ?_ | refine Q_block_ret ?_ | refine Q_block_here ?_ | refine Q_block_on rfl ?_ | refine C_scope ?_ | refine C_label ?_ | refine Q_asn ?_
  · exact fin_ret1 rfl ⟨rfl, k⟩
  all_goals exact absurd rfl hc
end Go.Proofs.Yticliabmhgofjaa
