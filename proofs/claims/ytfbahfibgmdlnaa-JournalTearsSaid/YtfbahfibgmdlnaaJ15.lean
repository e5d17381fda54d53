/- The journal's fixed examples, walked: head answers true. Conditions: none. -/
import Derived.Test.YtfbahfibgmdlnaaJ14
namespace Go.Proofs.Ytfbahfibgmdlnaa
open Go.RowKit
set_option linter.unusedVariables false

theorem New.bytes {w w' : World} {l : List UInt8} (h : New w w' 5 (cells8 l)) (hl : l.length ≤ 16777216) : BytesAt anyB w' (.slice (some ⟨w.heap.size, 0, none⟩) l.length l.length) l := by
  refine ⟨_, _, rfl, Nat.le_refl _, by omega, (fun h => by cases h), .inr ⟨_, _, rfl, trivial, h.blk.cells⟩⟩

def exJ : List UInt8 := [0, 1, 0, 12, 0, 9, 7]
def exK : List UInt8 := exJ ++ frm [2, 1, 2]
theorem ex_e1 : encode ⟨2, 258, []⟩ = [2, 1, 2] := by kernel_rfl
theorem ex_e2 : encode zeroE = [] := by kernel_rfl
theorem ex_d1 : decode [3, 0, 0, 97] = some ⟨3, 0, [97]⟩ := by kernel_rfl
theorem ex_d2 : decode [5, 0, 0] = none := by kernel_rfl
theorem ex_a1 : app [] [7] = (exJ, 0) := by kernel_rfl
theorem ex_a2 : app exJ [2, 1, 2] = (exK, 0) := by kernel_rfl
theorem ex_a3 : app [] [] = ([], 1) := by kernel_rfl
theorem ex_r1 : recs 500 exK = ([[7], [2, 1, 2]], 16) := by kernel_rfl
theorem ex_r2 : recs 500 (exK.take 15) = ([[7]], 7) := by kernel_rfl
theorem ex_l : exK.length = 16 := by kernel_rfl


theorem bytes_nil (w : World) : BytesAt anyB w (.slice none 0 0) [] := ⟨none, 0, rfl, Nat.le_refl _, by omega, fun _ => rfl, .inl rfl⟩

theorem LB_one {w w' : World} {v1 : Value} {p : List UInt8} (n : New w w' 24 [v1]) (h1 : BytesAt anyB w' v1 p) : LB anyB w' (.slice (some ⟨w.heap.size, 0, none⟩) 1 1) [p] :=
  ⟨[v1], ⟨_, _, rfl, Nat.le_refl _, by omega, (fun h => by cases h), .inr ⟨_, _, rfl, trivial, n.blk.cells⟩⟩, rfl, fun i u l hu hl => by
    cases i with
    | zero => simp at hu hl; subst hu; subst hl; exact h1
    | succ i => simp at hu⟩

theorem head_any (w : World) : Fn Try.prog 10 [] w fun v w' => v = .bool true ∧ Ext w w' := by
  refine fn_of_wc Try.func10 rfl Try.ntmps10 (Nat.le_of_ble_eq_true rfl) (by kernel_rfl) ?_
  repeat'
    first
      | refine Q_then ?_ | refine C_cond_t rfl ?_ | refine C_cond_f rfl ?_ | refine C_seq ?_ | refine C_block ?_ | refine C_skip ?_ | refine C_ret ?_ | refine C_exit ?_
      | refine Q_then_ret ?_ | refine Q_then_exit ?_ | refine Q_block ?_ | refine Q_block_ret ?_ | refine Q_block_here ?_ | refine Q_block_on rfl ?_ | refine C_scope ?_ | refine C_label ?_ | refine Q_asn ?_
  (refine C_region ?_
   <;> (refine M_assign ?_; (first | refine M_bool rfl ?_ | refine W_move ?_))
   <;> refine W_nil ?_)
  repeat'
    first
      | refine Q_then ?_ | refine C_cond_t rfl ?_ | refine C_cond_f rfl ?_ | refine C_seq ?_ | refine C_block ?_ | refine C_skip ?_ | refine C_ret ?_ | refine C_exit ?_
      | refine Q_then_ret ?_ | refine Q_then_exit ?_ | refine Q_block ?_ | refine Q_block_ret ?_ | refine Q_block_here ?_ | refine Q_block_on rfl ?_ | refine C_scope ?_ | refine C_label ?_ | refine Q_asn ?_
  (refine C_region ?_
   <;> refine W_build (by rfl) (by rfl) ?_)
  -- at operation 1: <dst=(some 18) op=(call <callee=(value (func 18)) args=[(tmp 17)] argTypes=[23]>) type=24 guard=none>
  refine W_call (Encode_any ⟨2, 258, []⟩ _) rfl ?_
  rintro v1 w1 ⟨o1, k1⟩
  rw [ex_e1] at o1
  obtain ⟨a1, c1, rfl⟩ := own_form o1
  ((refine M_assign ?_; (first | refine M_slice rfl ?_ | refine W_move ?_))
   <;> refine W_nil ?_)
  repeat'
    first
      | refine Q_then ?_ | refine C_cond_t rfl ?_ | refine C_cond_f rfl ?_ | refine C_seq ?_ | refine C_block ?_ | refine C_skip ?_ | refine C_ret ?_ | refine C_exit ?_
      | refine Q_then_ret ?_ | refine Q_then_exit ?_ | refine Q_block ?_ | refine Q_block_ret ?_ | refine Q_block_here ?_ | refine Q_block_on rfl ?_ | refine C_scope ?_ | refine C_label ?_ | refine Q_asn ?_
  refine C_region ?_
  refine W_buildSlice1 (out := cells8 [3, 0, 0, 97]) rfl (by omega) rfl rfl (fun w2 n2 => ?_)
  replace o1 := ownsRow_ext o1 n2.keep
  replace k1 := k1.trans n2.keep
  refine W_call (Decode_any _ [3, 0, 0, 97] _ (n2.bytes (by simp))) rfl ?_
  rintro v3 w3 ⟨rfl, k3⟩
  replace o1 := ownsRow_ext o1 k3
  replace k1 := k1.trans k3
  rw [ex_d1]
  clear n2 k3
  ((first | refine M_tuple rfl ?_ | refine W_move ?_)
   <;> refine W_extract rfl rfl ?_
   <;> refine W_extract rfl rfl ?_)
  -- at operation 5: <dst=(some 2) op=(alloc 23) type=0 guard=none>
  refine W_alloc (fun w4 n4 => ?_)
  refine W_store_agg (cs := [.int .i64 3, .int .i64 0, strV [97]]) rfl rfl rfl (by intro u hu; simp at hu; rcases hu with rfl | rfl | rfl <;> rfl) n4.blk (by simp) (fun w5 p5 => ?_)
  have k5 : Ext w3 w5 := n4.keep.keep p5.keep (by simp)
  replace o1 := ownsRow_ext o1 k5
  replace k1 := k1.trans k5
  have b5 : Blk w5 w3.heap.size 23 [.int .i64 3, .int .i64 0, strV [97]] := p5.blk
  clear n4 p5 k5
  generalize w3.heap.size = g3 at *
  ((refine M_assign ?_; (first | refine M_int rfl ?_ | refine W_move ?_))
   <;> refine W_nil ?_)
  repeat'
    first
      | refine Q_then ?_ | refine C_cond_t rfl ?_ | refine C_cond_f rfl ?_ | refine C_seq ?_ | refine C_block ?_ | refine C_skip ?_ | refine C_ret ?_ | refine C_exit ?_
      | refine Q_then_ret ?_ | refine Q_then_exit ?_ | refine Q_block ?_ | refine Q_block_ret ?_ | refine Q_block_here ?_ | refine Q_block_on rfl ?_ | refine C_scope ?_ | refine C_label ?_ | refine Q_asn ?_
  -- region 3
  refine C_region ?_
  refine W_buildSlice1 (out := cells8 [5, 0, 0]) rfl (by omega) rfl rfl (fun w6 n6 => ?_)
  replace o1 := ownsRow_ext o1 n6.keep
  replace b5 := b5.keep n6.keep (by simp)
  replace k1 := k1.trans n6.keep
  refine W_call (Decode_any _ [5, 0, 0] _ (n6.bytes (by simp))) rfl ?_
  rintro v7 w7 ⟨rfl, k7⟩
  replace o1 := ownsRow_ext o1 k7
  replace b5 := b5.keep k7 (by simp)
  replace k1 := k1.trans k7
  rw [ex_d2]
  clear n6 k7
  ((first | refine M_tuple rfl ?_ | refine W_move ?_)
   <;> refine W_extract rfl rfl ?_
   <;> refine W_extract rfl rfl ?_)
  -- at operation 5: <dst=(some 4) op=(alloc 23) type=0 guard=none>
  refine W_alloc (fun w8 n8 => ?_)
  refine W_store_agg (cs := [.int .i64 0, .int .i64 0, strV []]) rfl rfl rfl (by intro u hu; simp at hu; rcases hu with rfl | rfl <;> rfl) n8.blk (by simp) (fun w9 p9 => ?_)
  have k9 : Ext w7 w9 := n8.keep.keep p9.keep (by simp)
  replace o1 := ownsRow_ext o1 k9
  replace b5 := b5.keep k9 (by simp)
  replace k1 := k1.trans k9
  clear n8 p9 k9
  ((refine M_assign ?_; (first | refine M_int rfl ?_ | refine W_move ?_))
   <;> refine W_nil ?_)
  repeat'
    first
      | refine Q_then ?_ | refine C_cond_t rfl ?_ | refine C_cond_f rfl ?_ | refine C_seq ?_ | refine C_block ?_ | refine C_skip ?_ | refine C_ret ?_ | refine C_exit ?_
      | refine Q_then_ret ?_ | refine Q_then_exit ?_ | refine Q_block ?_ | refine Q_block_ret ?_ | refine Q_block_here ?_ | refine Q_block_on rfl ?_ | refine C_scope ?_ | refine C_label ?_ | refine Q_asn ?_
  -- region 4
  refine C_region ?_
  refine W_buildSlice1 (out := cells8 [7]) rfl (by omega) rfl rfl (fun w10 n10 => ?_)
  replace o1 := ownsRow_ext o1 n10.keep
  replace b5 := b5.keep n10.keep (by simp)
  replace k1 := k1.trans n10.keep
  refine W_call (Append_app _ _ [] [7] _ (bytes_nil _) (n10.bytes (by simp)) (by simp)) rfl ?_
  rintro v11 w11 ⟨rv, rfl, oj, k11⟩
  rw [ex_a1] at oj
  dsimp only at oj
  simp only [ex_a1]
  obtain ⟨aj, cj, rfl⟩ := own_form oj
  replace o1 := ownsRow_ext o1 k11
  replace b5 := b5.keep k11 (by simp)
  replace k1 := k1.trans k11
  replace oj := ownsRow_mono oj (Nat.zero_le _)
  replace o1 := ownsRow_mono o1 (Nat.zero_le _)
  clear n10 k11
  ((first | refine M_tuple rfl ?_ | refine W_move ?_)
   <;> refine W_extract rfl rfl ?_
   <;> refine W_extract rfl rfl ?_
   <;> (refine M_assign ?_; (first | refine M_slice rfl ?_ | refine W_move ?_))
   <;> (refine M_assign ?_; (first | refine M_int rfl ?_ | refine W_move ?_))
   <;> refine W_nil ?_)
  repeat'
    first
      | refine Q_then ?_ | refine C_cond_t rfl ?_ | refine C_cond_f rfl ?_ | refine C_seq ?_ | refine C_block ?_ | refine C_skip ?_ | refine C_ret ?_ | refine C_exit ?_
      | refine Q_then_ret ?_ | refine Q_then_exit ?_ | refine Q_block ?_ | refine Q_block_ret ?_ | refine Q_block_here ?_ | refine Q_block_on rfl ?_ | refine C_scope ?_ | refine C_label ?_ | refine Q_asn ?_
  -- region 5
  (refine C_region ?_
   <;> (first | refine M_slice rfl ?_ | refine W_move ?_)
   <;> (first | refine M_slice rfl ?_ | refine W_move ?_))
  -- at operation 2: <dst=(some 37) op=(call <callee=(value (func 13)) args=[(tmp 35), (tmp 36)] argTypes=[24, 24]>) type=29 guard=none>
  refine W_call (Append_app _ _ exJ [2, 1, 2] _ (own_bytes oj rfl) (own_bytes o1 rfl) (by simp [exJ])) rfl ?_
  rintro v12 w12 ⟨rv, rfl, ok, k12⟩
  rw [ex_a2] at ok
  dsimp only at ok
  simp only [ex_a2]
  obtain ⟨ak, ck, rfl⟩ := own_form ok
  replace o1 := ownsRow_ext o1 k12
  replace oj := ownsRow_ext oj k12
  replace b5 := b5.keep k12 (by simp)
  replace k1 := k1.trans k12
  replace ok := ownsRow_mono ok (Nat.zero_le _)
  clear k12
  ((first | refine M_tuple rfl ?_ | refine W_move ?_)
   <;> refine W_extract rfl rfl ?_
   <;> refine W_extract rfl rfl ?_
   <;> (refine M_assign ?_; (first | refine M_slice rfl ?_ | refine W_move ?_))
   <;> (refine M_assign ?_; (first | refine M_int rfl ?_ | refine W_move ?_))
   <;> refine W_nil ?_)
  repeat'
    first
      | refine Q_then ?_ | refine C_cond_t rfl ?_ | refine C_cond_f rfl ?_ | refine C_seq ?_ | refine C_block ?_ | refine C_skip ?_ | refine C_ret ?_ | refine C_exit ?_
      | refine Q_then_ret ?_ | refine Q_then_exit ?_ | refine Q_block ?_ | refine Q_block_ret ?_ | refine Q_block_here ?_ | refine Q_block_on rfl ?_ | refine C_scope ?_ | refine C_label ?_ | refine Q_asn ?_
  -- region 6
  (refine C_region ?_
   <;> (first | refine M_slice rfl ?_ | refine W_move ?_))
  -- at operation 1: <dst=(some 42) op=(call <callee=(value (func 15)) args=[(tmp 41)] argTypes=[24]>) type=32 guard=none>
  refine W_call (Records_any _ exK _ (own_bytes ok rfl)) rfl ?_
  rintro v13 w13 ⟨rl, rfl, hl, k13⟩
  rw [ex_r1] at hl
  dsimp only at hl
  simp only [ex_r1]
  obtain ⟨al, cl, rfl⟩ := hl.form
  replace o1 := ownsRow_ext o1 k13
  replace oj := ownsRow_ext oj k13
  replace ok := ownsRow_ext ok k13
  replace b5 := b5.keep k13 (by simp)
  replace k1 := k1.trans k13
  replace hl := Rs.LB hl
  clear k13
  ((first | refine M_tuple rfl ?_ | refine W_move ?_)
   <;> refine W_extract rfl rfl ?_
   <;> refine W_extract rfl rfl ?_
   <;> (refine M_assign ?_; (first | refine M_slice rfl ?_ | refine W_move ?_))
   <;> (refine M_assign ?_; (first | refine M_int rfl ?_ | refine W_move ?_))
   <;> refine W_nil ?_)
  repeat'
    first
      | refine Q_then ?_ | refine C_cond_t rfl ?_ | refine C_cond_f rfl ?_ | refine C_seq ?_ | refine C_block ?_ | refine C_skip ?_ | refine C_ret ?_ | refine C_exit ?_
      | refine Q_then_ret ?_ | refine Q_then_exit ?_ | refine Q_block ?_ | refine Q_block_ret ?_ | refine Q_block_here ?_ | refine Q_block_on rfl ?_ | refine C_scope ?_ | refine C_label ?_ | refine Q_asn ?_
  -- region 7
  (refine C_region ?_)
  -- at operation 0: <dst=(some 46) op=(call <callee=(value (func 13)) args=[(const (slice none 0 0)), (const (slice none 0 0))] argTypes=[24, 24]>) type=29 guard=none>
  refine W_call (Append_app _ _ [] [] _ (bytes_nil _) (bytes_nil _) (by simp)) rfl ?_
  rintro v14 w14 ⟨rv, rfl, oi, k14⟩
  rw [ex_a3] at oi
  dsimp only at oi
  simp only [ex_a3]
  obtain ⟨ai, ci, rfl⟩ := own_form oi
  replace o1 := ownsRow_ext o1 k14
  replace oj := ownsRow_ext oj k14
  replace ok := ownsRow_ext ok k14
  replace b5 := b5.keep k14 (by simp)
  replace k1 := k1.trans k14
  replace hl := hl.keep k14 (by simp)
  clear k14 oi
  ((first | refine M_tuple rfl ?_ | refine W_move ?_)
   <;> refine W_extract rfl rfl ?_
   <;> refine W_extract rfl rfl ?_
   <;> (refine M_assign ?_; (first | refine M_slice rfl ?_ | refine W_move ?_))
   <;> (refine M_assign ?_; (first | refine M_int rfl ?_ | refine W_move ?_))
   <;> refine W_nil ?_)
  repeat'
    first
      | refine Q_then ?_ | refine C_cond_t rfl ?_ | refine C_cond_f rfl ?_ | refine C_seq ?_ | refine C_block ?_ | refine C_skip ?_ | refine C_ret ?_ | refine C_exit ?_
      | refine Q_then_ret ?_ | refine Q_then_exit ?_ | refine Q_block ?_ | refine Q_block_ret ?_ | refine Q_block_here ?_ | refine Q_block_on rfl ?_ | refine C_scope ?_ | refine C_label ?_ | refine Q_asn ?_
  (refine C_region ?_
   <;> (first | refine M_slice rfl ?_ | refine W_move ?_)
   <;> refine W_len rfl ?_
   <;> (refine W_neq rfl rfl (fun hc => ?_) (fun hc => ?_) <;> try (exfalso; omega))
   <;> refine W_nil ?_)
  · exact absurd (by rw [ex_l]; rfl) hc
  repeat'
    first
      | refine Q_then ?_ | refine C_cond_t rfl ?_ | refine C_cond_f rfl ?_ | refine C_seq ?_ | refine C_block ?_ | refine C_skip ?_ | refine C_ret ?_ | refine C_exit ?_
      | refine Q_then_ret ?_ | refine Q_then_exit ?_ | refine Q_block ?_ | refine Q_block_ret ?_ | refine Q_block_here ?_ | refine Q_block_on rfl ?_ | refine C_scope ?_ | refine C_label ?_ | refine Q_asn ?_
  -- region 10
  (refine C_region ?_
   <;> (first | refine M_slice rfl ?_ | refine W_move ?_))
  refine W_slice_h rfl rfl (by omega) (by have := (own_bytes ok rfl).len; rw [ex_l] at this; omega) ?_
  refine W_call (Records_any _ (exK.take 15) _ ((own_bytes ok rfl).take 15 (by rw [ex_l]; omega))) rfl ?_
  rintro v15 w15 ⟨rl, rfl, hm, k15⟩
  rw [ex_r2] at hm
  dsimp only at hm
  simp only [ex_r2]
  obtain ⟨am, cm, rfl⟩ := hm.form
  replace o1 := ownsRow_ext o1 k15
  replace oj := ownsRow_ext oj k15
  replace b5 := b5.keep k15 (by simp)
  replace k1 := k1.trans k15
  replace hl := hl.keep k15 (by simp)
  replace hm := Rs.LB hm
  clear k15 ok
  ((first | refine M_tuple rfl ?_ | refine W_move ?_)
   <;> refine W_extract rfl rfl ?_
   <;> refine W_extract rfl rfl ?_
   <;> (refine M_assign ?_; (first | refine M_slice rfl ?_ | refine W_move ?_))
   <;> (refine M_assign ?_; (first | refine M_int rfl ?_ | refine W_move ?_))
   <;> refine W_nil ?_)
  repeat'
    first
      | refine Q_then ?_ | refine C_cond_t rfl ?_ | refine C_cond_f rfl ?_ | refine C_seq ?_ | refine C_block ?_ | refine C_skip ?_ | refine C_ret ?_ | refine C_exit ?_
      | refine Q_then_ret ?_ | refine Q_then_exit ?_ | refine Q_block ?_ | refine Q_block_ret ?_ | refine Q_block_here ?_ | refine Q_block_on rfl ?_ | refine C_scope ?_ | refine C_label ?_ | refine Q_asn ?_
  -- region 11
  (refine C_region ?_
   <;> (first | refine M_slice rfl ?_ | refine W_move ?_))
  -- at operation 1: <dst=(some 59) op=(buildSlice 24 3 [[0, (const (int u8 2))], [1, (const (int u8 1))], [2, (const (int u8 2))]]) type=24 guard=none>
  refine W_buildSlice1 (out := cells8 [2, 1, 2]) rfl (by omega) rfl rfl (fun w16 n16 => ?_)
  replace o1 := ownsRow_ext o1 n16.keep
  replace oj := ownsRow_ext oj n16.keep
  replace b5 := b5.keep n16.keep (by simp)
  replace k1 := k1.trans n16.keep
  replace hl := hl.keep n16.keep (by simp)
  replace hm := hm.keep n16.keep (by simp)
  refine W_call (Bytes_any _ _ [2, 1, 2] [2, 1, 2] _ (own_bytes o1 rfl) (n16.bytes (by simp))) rfl ?_
  rintro v17 w17 ⟨rfl, k17⟩
  rw [beq_self_eq_true]
  replace o1 := ownsRow_ext o1 k17
  replace oj := ownsRow_ext oj k17
  replace b5 := b5.keep k17 (by simp)
  replace k1 := k1.trans k17
  replace hl := hl.keep k17 (by simp)
  replace hm := hm.keep k17 (by simp)
  clear n16 k17
  ((first | refine M_bool rfl ?_ | refine W_move ?_)
   <;> (first | refine W_no rfl ?_ | (refine W_yes rfl ?_; (first | refine M_int rfl ?_ | refine W_move ?_)))
   <;> (first | refine W_no rfl ?_ | (refine W_yes rfl ?_; (refine W_eql rfl rfl (fun hc => ?_) (fun hc => ?_) <;> try (exfalso; omega))))
   <;> ((first | refine M_pick_t rfl ?_ | refine M_pick_f rfl ?_); (first | refine M_bool rfl ?_ | refine W_move ?_))
   <;> (first | refine M_bool rfl ?_ | refine W_move ?_))
  all_goals first | (exfalso; omega) | skip
  refine W_yes rfl ?_
  refine W_load_agg (L := [.int .i64 3, .int .i64 0, strV [97]]) rfl rfl b5.cells ?_
  ((first | refine W_no rfl ?_ | (refine W_yes rfl ?_; refine W_build (by rfl) (by rfl) ?_)))
  -- at operation 10: <dst=(some 68) op=(binOp eql 23 (tmp 66) (tmp 67) 23) type=4 guard=(some [7, true])>
  refine W_yes rfl ?_
  refine W_flEql (xs := [.int .i64 3, .int .i64 0, strV [97]]) (ys := [.int .i64 3, .int .i64 0, strV [97]]) rfl rfl ?_ (fun r hr => ?_)
  · intro p hp
    simp only [List.mem_cons, List.not_mem_nil, or_false] at hp
    rcases hp with rfl | rfl | rfl
    · exact ⟨_, _, rfl, rfl, rfl, Try.underlying3⟩
    · exact ⟨_, _, rfl, rfl, rfl, Try.underlying3⟩
    · exact ⟨_, _, rfl, rfl, Try.underlying9⟩
  obtain rfl : r = true := hr.2 fun _ _ => rfl
  (((first | refine M_pick_t rfl ?_ | refine M_pick_f rfl ?_); (first | refine M_bool rfl ?_ | refine W_move ?_))
   <;> (first | refine M_bool rfl ?_ | refine W_move ?_)
   <;> (first | refine W_no rfl ?_ | (refine W_yes rfl ?_; (first | refine M_int rfl ?_ | refine W_move ?_)))
   <;> (first | refine W_no rfl ?_ | (refine W_yes rfl ?_; (refine W_eql rfl rfl (fun hc => ?_) (fun hc => ?_) <;> try (exfalso; omega))))
   <;> ((first | refine M_pick_t rfl ?_ | refine M_pick_f rfl ?_); (first | refine M_bool rfl ?_ | refine W_move ?_))
   <;> (first | refine M_bool rfl ?_ | refine W_move ?_)
   <;> (first | refine W_no rfl ?_ | (refine W_yes rfl ?_; (first | refine M_int rfl ?_ | refine W_move ?_)))
   <;> (first | refine W_no rfl ?_ | (refine W_yes rfl ?_; (refine W_eql rfl rfl (fun hc => ?_) (fun hc => ?_) <;> try (exfalso; omega))))
   <;> ((first | refine M_pick_t rfl ?_ | refine M_pick_f rfl ?_); (first | refine M_bool rfl ?_ | refine W_move ?_))
   <;> (first | refine M_bool rfl ?_ | refine W_move ?_)
   <;> (first | refine W_no rfl ?_ | (refine W_yes rfl ?_; (first | refine M_slice rfl ?_ | refine W_move ?_))))
  -- at operation 22: <dst=(some 80) op=(buildSlice 24 7 [[0, (const (int u8 0))], [1, (const (int u8 1))], [2, (const (int u8 0))], [3, (const (int u8 12))], [4, (const (int u8 0))], [5, (const (int u8 9))], [6, (const (int u8 7))]]) type=24 guard=(some [20, true])>
  refine W_yes rfl ?_
  refine W_buildSlice1 (out := cells8 exJ) rfl (by omega) rfl rfl (fun w18 n18 => ?_)
  replace o1 := ownsRow_ext o1 n18.keep
  replace oj := ownsRow_ext oj n18.keep
  replace k1 := k1.trans n18.keep
  replace hl := hl.keep n18.keep (by simp)
  replace hm := hm.keep n18.keep (by simp)
  refine W_yes rfl ?_
  refine W_call (Bytes_any _ _ exJ exJ _ (own_bytes oj rfl) (n18.bytes (by simp [exJ]))) rfl ?_
  rintro v19 w19 ⟨rfl, k19⟩
  rw [beq_self_eq_true]
  replace o1 := ownsRow_ext o1 k19
  replace k1 := k1.trans k19
  replace hl := hl.keep k19 (by simp)
  replace hm := hm.keep k19 (by simp)
  clear n18 k19 oj b5
  (((first | refine M_pick_t rfl ?_ | refine M_pick_f rfl ?_); (first | refine M_bool rfl ?_ | refine W_move ?_))
   <;> (refine M_assign ?_; (first | refine M_bool rfl ?_ | refine W_move ?_))
   <;> refine W_nil ?_)
  repeat'
    first
      | refine Q_then ?_ | refine C_cond_t rfl ?_ | refine C_cond_f rfl ?_ | refine C_seq ?_ | refine C_block ?_ | refine C_skip ?_ | refine C_ret ?_ | refine C_exit ?_
      | refine Q_then_ret ?_ | refine Q_then_exit ?_ | refine Q_block ?_ | refine Q_block_ret ?_ | refine Q_block_here ?_ | refine Q_block_on rfl ?_ | refine C_scope ?_ | refine C_label ?_ | refine Q_asn ?_
  -- region 12
  (refine C_region ?_
   <;> (first | refine M_bool rfl ?_ | refine W_move ?_)
   <;> (first | refine M_bool rfl ?_ | refine W_move ?_)
   <;> (first | refine W_no rfl ?_ | (refine W_yes rfl ?_; (first | refine M_int rfl ?_ | refine W_move ?_)))
   <;> (first | refine W_no rfl ?_ | (refine W_yes rfl ?_; (refine W_eql rfl rfl (fun hc => ?_) (fun hc => ?_) <;> try (exfalso; omega))))
   <;> ((first | refine M_pick_t rfl ?_ | refine M_pick_f rfl ?_); (first | refine M_bool rfl ?_ | refine W_move ?_))
   <;> (first | refine M_bool rfl ?_ | refine W_move ?_)
   <;> (first | refine W_no rfl ?_ | (refine W_yes rfl ?_; (first | refine M_slice rfl ?_ | refine W_move ?_))))
  -- at operation 7: <dst=(some 90) op=(buildSlice 24 1 [[0, (const (int u8 7))]]) type=24 guard=(some [5, true])>
  refine W_yes rfl ?_
  refine W_buildSlice1 (out := cells8 [7]) rfl (by omega) rfl rfl (fun w20 n20 => ?_)
  replace o1 := ownsRow_ext o1 n20.keep
  replace k1 := k1.trans n20.keep
  replace hl := hl.keep n20.keep (by simp)
  replace hm := hm.keep n20.keep (by simp)
  have h20 := n20.bytes (by simp)
  clear n20
  ((first | refine W_no rfl ?_ | (refine W_yes rfl ?_; (first | refine M_slice rfl ?_ | refine W_move ?_))))
  -- at operation 9: <dst=(some 92) op=(buildSlice 31 2 [[0, (tmp 90)], [1, (tmp 91)]]) type=31 guard=(some [5, true])>
  refine W_yes rfl ?_
  refine W_buildSlice1 (out := [.slice (some ⟨w19.heap.size, 0, none⟩) 1 1, .slice a1 3 c1]) rfl (by omega) rfl rfl (fun w21 n21 => ?_)
  replace h20 := h20.ext n21.keep
  replace o1 := ownsRow_ext o1 n21.keep
  replace k1 := k1.trans n21.keep
  replace hl := hl.keep n21.keep (by simp)
  replace hm := hm.keep n21.keep (by simp)
  refine W_yes rfl ?_
  refine W_call (SameRecords_any _ _ [[7], [2, 1, 2]] [[7], [2, 1, 2]] _ hl (LB_two n21 h20 (own_bytes o1 rfl))) rfl ?_
  rintro v22 w22 ⟨rfl, k22⟩
  rw [beq_self_eq_true]
  replace k1 := k1.trans k22
  replace hm := hm.keep k22 (by simp)
  clear k22 hl o1 h20 n21
  (((first | refine M_pick_t rfl ?_ | refine M_pick_f rfl ?_); (first | refine M_bool rfl ?_ | refine W_move ?_))
   <;> (first | refine M_bool rfl ?_ | refine W_move ?_)
   <;> (first | refine W_no rfl ?_ | (refine W_yes rfl ?_; (first | refine M_int rfl ?_ | refine W_move ?_)))
   <;> (first | refine W_no rfl ?_ | (refine W_yes rfl ?_; (refine W_eql rfl rfl (fun hc => ?_) (fun hc => ?_) <;> try (exfalso; omega))))
   <;> ((first | refine M_pick_t rfl ?_ | refine M_pick_f rfl ?_); (first | refine M_bool rfl ?_ | refine W_move ?_))
   <;> (first | refine M_bool rfl ?_ | refine W_move ?_)
   <;> (first | refine W_no rfl ?_ | (refine W_yes rfl ?_; (first | refine M_int rfl ?_ | refine W_move ?_)))
   <;> (first | refine W_no rfl ?_ | (refine W_yes rfl ?_; (refine W_eql rfl rfl (fun hc => ?_) (fun hc => ?_) <;> try (exfalso; omega))))
   <;> ((first | refine M_pick_t rfl ?_ | refine M_pick_f rfl ?_); (first | refine M_bool rfl ?_ | refine W_move ?_))
   <;> (first | refine M_bool rfl ?_ | refine W_move ?_)
   <;> (first | refine W_no rfl ?_ | (refine W_yes rfl ?_; (first | refine M_slice rfl ?_ | refine W_move ?_))))
  -- at operation 22: <dst=(some 105) op=(buildSlice 24 1 [[0, (const (int u8 7))]]) type=24 guard=(some [20, true])>
  refine W_yes rfl ?_
  refine W_buildSlice1 (out := cells8 [7]) rfl (by omega) rfl rfl (fun w23 n23 => ?_)
  replace k1 := k1.trans n23.keep
  replace hm := hm.keep n23.keep (by simp)
  have h23 := n23.bytes (by simp)
  clear n23
  refine W_yes rfl ?_
  refine W_buildSlice1 (out := [.slice (some ⟨w22.heap.size, 0, none⟩) 1 1]) rfl (by omega) rfl rfl (fun w24 n24 => ?_)
  replace h23 := h23.ext n24.keep
  replace k1 := k1.trans n24.keep
  replace hm := hm.keep n24.keep (by simp)
  refine W_yes rfl ?_
  refine W_call (SameRecords_any _ _ [[7]] [[7]] _ hm (LB_one n24 h23)) rfl ?_
  rintro v25 w25 ⟨rfl, k25⟩
  rw [beq_self_eq_true]
  replace k1 := k1.trans k25
  clear k25 hm h23 n24
  (((first | refine M_pick_t rfl ?_ | refine M_pick_f rfl ?_); (first | refine M_bool rfl ?_ | refine W_move ?_))
   <;> (first | refine M_bool rfl ?_ | refine W_move ?_)
   <;> (first | refine W_no rfl ?_ | (refine W_yes rfl ?_; (first | refine M_int rfl ?_ | refine W_move ?_)))
   <;> (first | refine W_no rfl ?_ | (refine W_yes rfl ?_; (refine W_eql rfl rfl (fun hc => ?_) (fun hc => ?_) <;> try (exfalso; omega))))
   <;> ((first | refine M_pick_t rfl ?_ | refine M_pick_f rfl ?_); (first | refine M_bool rfl ?_ | refine W_move ?_))
   <;> (first | refine M_bool rfl ?_ | refine W_move ?_)
   <;> (first | refine W_no rfl ?_ | (refine W_yes rfl ?_; refine W_build (by rfl) (by rfl) ?_)))
  -- at operation 32: <dst=(some 115) op=(call <callee=(value (func 18)) args=[(tmp 114)] argTypes=[23]>) type=24 guard=(some [30, true])>
  refine W_yes rfl ?_
  refine W_call (Encode_any zeroE _) rfl ?_
  rintro v26 w26 ⟨o26, k26⟩
  rw [ex_e2] at o26
  obtain ⟨a26, c26, rfl⟩ := own_form o26
  replace k1 := k1.trans k26
  ((first | refine W_no rfl ?_ | (refine W_yes rfl ?_; refine W_len rfl ?_))
   <;> (first | refine W_no rfl ?_ | (refine W_yes rfl ?_; (refine W_eql rfl rfl (fun hc => ?_) (fun hc => ?_) <;> try (exfalso; omega))))
   <;> ((first | refine M_pick_t rfl ?_ | refine M_pick_f rfl ?_); (first | refine M_bool rfl ?_ | refine W_move ?_))
   <;> (refine M_assign ?_; (first | refine M_bool rfl ?_ | refine W_move ?_))
   <;> refine W_nil ?_)
  repeat'
    first
      | refine Q_then ?_ | refine C_cond_t rfl ?_ | refine C_cond_f rfl ?_ | refine C_seq ?_ | refine C_block ?_ | refine C_skip ?_ | refine C_ret ?_ | refine C_exit ?_
      | refine Q_then_ret ?_ | refine Q_then_exit ?_ | refine Q_block ?_ | refine Q_block_ret ?_ | refine Q_block_here ?_ | refine Q_block_on rfl ?_ | refine C_scope ?_ | refine C_label ?_ | refine Q_asn ?_
  · exact fin_ret1 rfl ⟨rfl, k1⟩
  · exact absurd rfl hc

end Go.Proofs.Ytfbahfibgmdlnaa
