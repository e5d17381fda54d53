/- The walk through ParserParens. Conditions: none. -/
import Derived.Test.YtmnhnbpnjepkbaaGreatDoorK4A1

namespace Go.Proofs.YtmnhnbpnjepkbaaGreatDoor
open Go.RowKit
set_option linter.unusedVariables false

/-- Formula, as cells -/
theorem formula_form (w : World) (t : List UInt8) (hG : GK w) : Fn Tryz.prog 16 [strV t] w fun v w' => Ext w w' ∧ ∃ (o : Out Fml) (c0 c1 c2 c3 c4 : Value), PRes .formula t o ∧ v = .tuple #[.agg [c0, c1, c2, c3, c4].toArray, .int .i64 o.errno, .int .i64 o.loc] ∧ FV w' (.agg [c0, c1, c2, c3, c4].toArray) (Out.val zeroF o) ∧ oneC [c0, c1, c2, c3, c4] := by
  refine Fn.mono (parse_F w t hG) ?_
  rintro v w' h
  obtain ⟨o, c, p, rfl, k, f⟩ := h.out (zeroF_fits _ _)
  have l : c.length = 5 := fmlR.len f
  have o1 := fmlR.one f
  obtain ⟨c0, c1, c2, c3, c4, rfl⟩ := cells5 l
  exact ⟨k, o, c0, c1, c2, c3, c4, p, rfl, (fmlR.mono f (fun _ _ => trivial)).2, o1⟩
set_option maxHeartbeats 3200000 in
set_option maxRecDepth 20000 in
theorem parens_ok (w : World) (a b : List UInt8) (r : Nat) (hr : r ≤ 255) (hG : GK w) : Fn Tryz.prog 5 [strV a, strV b, .int .u8 (r : Int)] w fun v w' => v = .bool true ∧ Ext w w' := by
  refine fn_of_wc Tryz.func5 rfl Tryz.ntmps5 (Nat.le_of_ble_eq_true rfl) (by kernel_rfl) ?_
  repeat' first | refine nx ?_ | refine C_cond_t rfl ?_ | refine C_cond_f rfl ?_ | refine Q_block_on rfl ?_
  (refine C_region ?_
   <;> (refine M_assign ?_; (first | refine M_bool rfl ?_ | refine W_move ?_))
   <;> refine W_nil ?_)
  repeat' first | refine nx ?_ | refine C_cond_t rfl ?_ | refine C_cond_f rfl ?_ | refine Q_block_on rfl ?_
  (refine C_region ?_)
  -- at operation 0: <dst=(some 29) op=(call <callee=(value (func 9)) args=[] argTypes=[]>) type=4 guard=none>
  refine W_call (head_ok w hG) rfl ?_
  rintro v w0 ⟨rfl, k0⟩
  ((refine M_assign ?_; (first | refine M_bool rfl ?_ | refine W_move ?_))
   <;> refine W_nil ?_)
  repeat' first | refine nx ?_ | refine C_cond_t rfl ?_ | refine C_cond_f rfl ?_ | refine Q_block_on rfl ?_
  (refine C_region ?_
   <;> (first | refine M_str rfl ?_ | refine W_move ?_))
  -- at operation 1: <dst=(some 32) op=(call <callee=(value (func 16)) args=[(tmp 31)] argTypes=[9]>) type=52 guard=none>
  refine W_call (formula_form w0 a (hG.ext k0)) rfl ?_
  rintro _ w1 ⟨k1, oF, f0, f1, f2, f3, f4, pF, rfl, fF, nF⟩
  ((first | refine M_tuple rfl ?_ | refine W_move ?_)
   <;> refine W_extract rfl rfl ?_
   <;> refine W_extract rfl rfl ?_
   <;> refine W_extract rfl rfl ?_)
  -- at operation 6: <dst=(some 8) op=(alloc 39) type=0 guard=none>
  refine W_newAgg (cs := [f0, f1, f2, f3, f4]) rfl rfl (by rfl) nF (fun w2 n2 => ?_)
  have b2 := n2.blk
  replace fF := fF.new n2
  have k2 : Ext w w2 := (k0.trans k1).trans n2.keep
  ((refine M_assign ?_; (first | refine M_int rfl ?_ | refine W_move ?_))
   <;> (refine M_assign ?_; (first | refine M_int rfl ?_ | refine W_move ?_))
   <;> refine W_nil ?_)
  repeat' first | refine nx ?_ | refine C_cond_t rfl ?_ | refine C_cond_f rfl ?_ | refine Q_block_on rfl ?_
  (refine C_region ?_
   <;> (first | refine M_str rfl ?_ | refine W_move ?_))
  -- at operation 1: <dst=(some 38) op=(call <callee=(value (func 16)) args=[(tmp 37)] argTypes=[9]>) type=52 guard=none>
  refine W_call (formula_form w2 b (hG.ext k2)) rfl ?_
  rintro _ w3 ⟨k3, oH, g0, g1, g2, g3, g4, pH, rfl, fH, nH⟩
  ((first | refine M_tuple rfl ?_ | refine W_move ?_)
   <;> refine W_extract rfl rfl ?_
   <;> refine W_extract rfl rfl ?_
   <;> refine W_extract rfl rfl ?_)
  -- at operation 6: <dst=(some 11) op=(alloc 39) type=0 guard=none>
  refine W_newAgg (cs := [g0, g1, g2, g3, g4]) rfl rfl (by rfl) nH (fun w4 n4 => ?_)
  have c4 := n4.blk
  replace fH := fH.new n4
  have k24 : Ext w2 w4 := k3.trans n4.keep
  replace b2 := b2.keep k24 (by simp)
  replace fF := fF.ext k24
  have k4 := k2.trans k24
  ((refine M_assign ?_; (first | refine M_int rfl ?_ | refine W_move ?_))
   <;> (refine M_assign ?_; (first | refine M_int rfl ?_ | refine W_move ?_))
   <;> refine W_nil ?_)
  repeat' first | refine nx ?_ | refine C_cond_t rfl ?_ | refine C_cond_f rfl ?_ | refine Q_block_on rfl ?_
  (refine C_region ?_
   <;> (first | refine M_str rfl ?_ | refine W_move ?_))
  -- at operation 1: <dst=(some 44) op=(call <callee=(value (func 10)) args=[(tmp 43)] argTypes=[9]>) type=26 guard=none>
  refine W_call (reflex_ok w4 a) rfl ?_
  rintro _ w5 ⟨aa, ac, ea, qa, A, rfl, ka, hTA, hA⟩
  ((first | refine M_tuple rfl ?_ | refine W_move ?_)
   <;> refine W_extract rfl rfl ?_
   <;> refine W_extract rfl rfl ?_
   <;> refine W_extract rfl rfl ?_
   <;> (refine M_assign ?_; (first | refine M_slice rfl ?_ | refine W_move ?_))
   <;> (refine M_assign ?_; (first | refine M_int rfl ?_ | refine W_move ?_))
   <;> (refine M_assign ?_; (first | refine M_int rfl ?_ | refine W_move ?_))
   <;> refine W_nil ?_)
  repeat' first | refine nx ?_ | refine C_cond_t rfl ?_ | refine C_cond_f rfl ?_ | refine Q_block_on rfl ?_
  (refine C_region ?_
   <;> (first | refine M_str rfl ?_ | refine W_move ?_))
  -- at operation 1: <dst=(some 50) op=(call <callee=(value (func 10)) args=[(tmp 49)] argTypes=[9]>) type=26 guard=none>
  refine W_call (reflex_ok w5 b) rfl ?_
  rintro _ w6 ⟨ba, bc, eb, qb, B, rfl, kb, hTB, hB⟩
  ((first | refine M_tuple rfl ?_ | refine W_move ?_)
   <;> refine W_extract rfl rfl ?_
   <;> refine W_extract rfl rfl ?_
   <;> refine W_extract rfl rfl ?_
   <;> (refine M_assign ?_; (first | refine M_slice rfl ?_ | refine W_move ?_))
   <;> (refine M_assign ?_; (first | refine M_int rfl ?_ | refine W_move ?_))
   <;> (refine M_assign ?_; (first | refine M_int rfl ?_ | refine W_move ?_))
   <;> refine W_nil ?_)
  repeat' first | refine nx ?_ | refine C_cond_t rfl ?_ | refine C_cond_f rfl ?_ | refine Q_block_on rfl ?_
  have k46 := ka.trans kb
  replace b2 := b2.keep k46 (by simp)
  replace c4 := c4.keep k46 (by simp)
  replace fF := fF.ext k46
  replace fH := fH.ext k46
  have k5 := k4.trans k46
  by_cases hF : oF.errno = 0
  case neg =>
    (refine C_region ?_
     <;> (first | refine M_int rfl ?_ | refine W_move ?_)
     <;> (refine W_neq rfl rfl (fun hc => ?_) (fun hc => ?_) <;> try (exfalso; omega))
     <;> (first | refine M_bool rfl ?_ | refine W_move ?_)
     <;> (first | refine W_no rfl ?_ | (refine W_yes rfl ?_; (first | refine M_int rfl ?_ | refine W_move ?_)))
     <;> (first | refine W_no rfl ?_ | (refine W_yes rfl ?_; (refine W_neq rfl rfl (fun hc => ?_) (fun hc => ?_) <;> try (exfalso; omega))))
     <;> ((first | refine M_pick_t rfl ?_ | refine M_pick_f rfl ?_); (first | refine M_bool rfl ?_ | refine W_move ?_))
     <;> (first | refine M_bool rfl ?_ | refine W_move ?_)
     <;> (first | refine W_no rfl ?_ | (refine W_yes rfl ?_; (first | refine M_str rfl ?_ | refine W_move ?_)))
     <;> (first | refine W_no rfl ?_ | (refine W_yes rfl ?_; refine W_slen rfl ?_))
     <;> (first | refine W_no rfl ?_ | (refine W_yes rfl ?_; (refine W_gtr rfl rfl (fun hc => ?_) (fun hc => ?_) <;> try (exfalso; omega))))
     <;> ((first | refine M_pick_t rfl ?_ | refine M_pick_f rfl ?_); (first | refine M_bool rfl ?_ | refine W_move ?_))
     <;> (first | refine M_bool rfl ?_ | refine W_move ?_)
     <;> (first | refine W_no rfl ?_ | (refine W_yes rfl ?_; (first | refine M_str rfl ?_ | refine W_move ?_)))
     <;> (first | refine W_no rfl ?_ | (refine W_yes rfl ?_; refine W_slen rfl ?_))
     <;> (first | refine W_no rfl ?_ | (refine W_yes rfl ?_; (refine W_gtr rfl rfl (fun hc => ?_) (fun hc => ?_) <;> try (exfalso; omega))))
     <;> ((first | refine M_pick_t rfl ?_ | refine M_pick_f rfl ?_); (first | refine M_bool rfl ?_ | refine W_move ?_))
     <;> (first | refine M_bool rfl ?_ | refine W_move ?_)
     <;> (first | refine W_no rfl ?_ | (refine W_yes rfl ?_; (first | refine M_slice rfl ?_ | refine W_move ?_)))
     <;> (first | refine W_no rfl ?_ | (refine W_yes rfl ?_; refine W_len rfl ?_))
     <;> (first | refine W_no rfl ?_ | (refine W_yes rfl ?_; (refine W_gtr rfl rfl (fun hc => ?_) (fun hc => ?_) <;> try (exfalso; omega))))
     <;> ((first | refine M_pick_t rfl ?_ | refine M_pick_f rfl ?_); (first | refine M_bool rfl ?_ | refine W_move ?_))
     <;> (first | refine M_bool rfl ?_ | refine W_move ?_)
     <;> (first | refine W_no rfl ?_ | (refine W_yes rfl ?_; (first | refine M_slice rfl ?_ | refine W_move ?_)))
     <;> (first | refine W_no rfl ?_ | (refine W_yes rfl ?_; refine W_len rfl ?_))
     <;> (first | refine W_no rfl ?_ | (refine W_yes rfl ?_; (refine W_gtr rfl rfl (fun hc => ?_) (fun hc => ?_) <;> try (exfalso; omega))))
     <;> ((first | refine M_pick_t rfl ?_ | refine M_pick_f rfl ?_); (first | refine M_bool rfl ?_ | refine W_move ?_))
     <;> refine W_nil ?_)
    repeat' first | refine nx ?_ | refine C_cond_t rfl ?_ | refine C_cond_f rfl ?_ | refine Q_block_on rfl ?_
    (refine C_region ?_
     <;> (first | refine M_bool rfl ?_ | refine W_move ?_)
     <;> (refine M_assign ?_; (first | refine M_bool rfl ?_ | refine W_move ?_))
     <;> refine W_nil ?_)
    repeat' first | refine nx ?_ | refine C_cond_t rfl ?_ | refine C_cond_f rfl ?_ | refine Q_block_on rfl ?_
    exact fin_ret1 rfl ⟨rfl, k5⟩
  by_cases hH : oH.errno = 0
  case neg =>
    (refine C_region ?_
     <;> (first | refine M_int rfl ?_ | refine W_move ?_)
     <;> (refine W_neq rfl rfl (fun hc => ?_) (fun hc => ?_) <;> try (exfalso; omega))
     <;> (first | refine M_bool rfl ?_ | refine W_move ?_)
     <;> (first | refine W_no rfl ?_ | (refine W_yes rfl ?_; (first | refine M_int rfl ?_ | refine W_move ?_)))
     <;> (first | refine W_no rfl ?_ | (refine W_yes rfl ?_; (refine W_neq rfl rfl (fun hc => ?_) (fun hc => ?_) <;> try (exfalso; omega))))
     <;> ((first | refine M_pick_t rfl ?_ | refine M_pick_f rfl ?_); (first | refine M_bool rfl ?_ | refine W_move ?_))
     <;> (first | refine M_bool rfl ?_ | refine W_move ?_)
     <;> (first | refine W_no rfl ?_ | (refine W_yes rfl ?_; (first | refine M_str rfl ?_ | refine W_move ?_)))
     <;> (first | refine W_no rfl ?_ | (refine W_yes rfl ?_; refine W_slen rfl ?_))
     <;> (first | refine W_no rfl ?_ | (refine W_yes rfl ?_; (refine W_gtr rfl rfl (fun hc => ?_) (fun hc => ?_) <;> try (exfalso; omega))))
     <;> ((first | refine M_pick_t rfl ?_ | refine M_pick_f rfl ?_); (first | refine M_bool rfl ?_ | refine W_move ?_))
     <;> (first | refine M_bool rfl ?_ | refine W_move ?_)
     <;> (first | refine W_no rfl ?_ | (refine W_yes rfl ?_; (first | refine M_str rfl ?_ | refine W_move ?_)))
     <;> (first | refine W_no rfl ?_ | (refine W_yes rfl ?_; refine W_slen rfl ?_))
     <;> (first | refine W_no rfl ?_ | (refine W_yes rfl ?_; (refine W_gtr rfl rfl (fun hc => ?_) (fun hc => ?_) <;> try (exfalso; omega))))
     <;> ((first | refine M_pick_t rfl ?_ | refine M_pick_f rfl ?_); (first | refine M_bool rfl ?_ | refine W_move ?_))
     <;> (first | refine M_bool rfl ?_ | refine W_move ?_)
     <;> (first | refine W_no rfl ?_ | (refine W_yes rfl ?_; (first | refine M_slice rfl ?_ | refine W_move ?_)))
     <;> (first | refine W_no rfl ?_ | (refine W_yes rfl ?_; refine W_len rfl ?_))
     <;> (first | refine W_no rfl ?_ | (refine W_yes rfl ?_; (refine W_gtr rfl rfl (fun hc => ?_) (fun hc => ?_) <;> try (exfalso; omega))))
     <;> ((first | refine M_pick_t rfl ?_ | refine M_pick_f rfl ?_); (first | refine M_bool rfl ?_ | refine W_move ?_))
     <;> (first | refine M_bool rfl ?_ | refine W_move ?_)
     <;> (first | refine W_no rfl ?_ | (refine W_yes rfl ?_; (first | refine M_slice rfl ?_ | refine W_move ?_)))
     <;> (first | refine W_no rfl ?_ | (refine W_yes rfl ?_; refine W_len rfl ?_))
     <;> (first | refine W_no rfl ?_ | (refine W_yes rfl ?_; (refine W_gtr rfl rfl (fun hc => ?_) (fun hc => ?_) <;> try (exfalso; omega))))
     <;> ((first | refine M_pick_t rfl ?_ | refine M_pick_f rfl ?_); (first | refine M_bool rfl ?_ | refine W_move ?_))
     <;> refine W_nil ?_)
    repeat' first | refine nx ?_ | refine C_cond_t rfl ?_ | refine C_cond_f rfl ?_ | refine Q_block_on rfl ?_
    (refine C_region ?_
     <;> (first | refine M_bool rfl ?_ | refine W_move ?_)
     <;> (refine M_assign ?_; (first | refine M_bool rfl ?_ | refine W_move ?_))
     <;> refine W_nil ?_)
    repeat' first | refine nx ?_ | refine C_cond_t rfl ?_ | refine C_cond_f rfl ?_ | refine Q_block_on rfl ?_
    exact fin_ret1 rfl ⟨rfl, k5⟩
  by_cases la : 2900 < a.length
  · (refine C_region ?_
     <;> (first | refine M_int rfl ?_ | refine W_move ?_)
     <;> (refine W_neq rfl rfl (fun hc => ?_) (fun hc => ?_) <;> try (exfalso; omega))
     <;> (first | refine M_bool rfl ?_ | refine W_move ?_)
     <;> (first | refine W_no rfl ?_ | (refine W_yes rfl ?_; (first | refine M_int rfl ?_ | refine W_move ?_)))
     <;> (first | refine W_no rfl ?_ | (refine W_yes rfl ?_; (refine W_neq rfl rfl (fun hc => ?_) (fun hc => ?_) <;> try (exfalso; omega))))
     <;> ((first | refine M_pick_t rfl ?_ | refine M_pick_f rfl ?_); (first | refine M_bool rfl ?_ | refine W_move ?_))
     <;> (first | refine M_bool rfl ?_ | refine W_move ?_)
     <;> (first | refine W_no rfl ?_ | (refine W_yes rfl ?_; (first | refine M_str rfl ?_ | refine W_move ?_)))
     <;> (first | refine W_no rfl ?_ | (refine W_yes rfl ?_; refine W_slen rfl ?_))
     <;> (first | refine W_no rfl ?_ | (refine W_yes rfl ?_; (refine W_gtr rfl rfl (fun hc => ?_) (fun hc => ?_) <;> try (exfalso; omega))))
     <;> ((first | refine M_pick_t rfl ?_ | refine M_pick_f rfl ?_); (first | refine M_bool rfl ?_ | refine W_move ?_))
     <;> (first | refine M_bool rfl ?_ | refine W_move ?_)
     <;> (first | refine W_no rfl ?_ | (refine W_yes rfl ?_; (first | refine M_str rfl ?_ | refine W_move ?_)))
     <;> (first | refine W_no rfl ?_ | (refine W_yes rfl ?_; refine W_slen rfl ?_))
     <;> (first | refine W_no rfl ?_ | (refine W_yes rfl ?_; (refine W_gtr rfl rfl (fun hc => ?_) (fun hc => ?_) <;> try (exfalso; omega))))
     <;> ((first | refine M_pick_t rfl ?_ | refine M_pick_f rfl ?_); (first | refine M_bool rfl ?_ | refine W_move ?_))
     <;> (first | refine M_bool rfl ?_ | refine W_move ?_)
     <;> (first | refine W_no rfl ?_ | (refine W_yes rfl ?_; (first | refine M_slice rfl ?_ | refine W_move ?_)))
     <;> (first | refine W_no rfl ?_ | (refine W_yes rfl ?_; refine W_len rfl ?_))
     <;> (first | refine W_no rfl ?_ | (refine W_yes rfl ?_; (refine W_gtr rfl rfl (fun hc => ?_) (fun hc => ?_) <;> try (exfalso; omega))))
     <;> ((first | refine M_pick_t rfl ?_ | refine M_pick_f rfl ?_); (first | refine M_bool rfl ?_ | refine W_move ?_))
     <;> (first | refine M_bool rfl ?_ | refine W_move ?_)
     <;> (first | refine W_no rfl ?_ | (refine W_yes rfl ?_; (first | refine M_slice rfl ?_ | refine W_move ?_)))
     <;> (first | refine W_no rfl ?_ | (refine W_yes rfl ?_; refine W_len rfl ?_))
     <;> (first | refine W_no rfl ?_ | (refine W_yes rfl ?_; (refine W_gtr rfl rfl (fun hc => ?_) (fun hc => ?_) <;> try (exfalso; omega))))
     <;> ((first | refine M_pick_t rfl ?_ | refine M_pick_f rfl ?_); (first | refine M_bool rfl ?_ | refine W_move ?_))
     <;> refine W_nil ?_)
    repeat' first | refine nx ?_ | refine C_cond_t rfl ?_ | refine C_cond_f rfl ?_ | refine Q_block_on rfl ?_
    (refine C_region ?_
     <;> (first | refine M_bool rfl ?_ | refine W_move ?_)
     <;> (refine M_assign ?_; (first | refine M_bool rfl ?_ | refine W_move ?_))
     <;> refine W_nil ?_)
    repeat' first | refine nx ?_ | refine C_cond_t rfl ?_ | refine C_cond_f rfl ?_ | refine Q_block_on rfl ?_
    exact fin_ret1 rfl ⟨rfl, k5⟩
  by_cases lb : 2900 < b.length
  · (refine C_region ?_
     <;> (first | refine M_int rfl ?_ | refine W_move ?_)
     <;> (refine W_neq rfl rfl (fun hc => ?_) (fun hc => ?_) <;> try (exfalso; omega))
     <;> (first | refine M_bool rfl ?_ | refine W_move ?_)
     <;> (first | refine W_no rfl ?_ | (refine W_yes rfl ?_; (first | refine M_int rfl ?_ | refine W_move ?_)))
     <;> (first | refine W_no rfl ?_ | (refine W_yes rfl ?_; (refine W_neq rfl rfl (fun hc => ?_) (fun hc => ?_) <;> try (exfalso; omega))))
     <;> ((first | refine M_pick_t rfl ?_ | refine M_pick_f rfl ?_); (first | refine M_bool rfl ?_ | refine W_move ?_))
     <;> (first | refine M_bool rfl ?_ | refine W_move ?_)
     <;> (first | refine W_no rfl ?_ | (refine W_yes rfl ?_; (first | refine M_str rfl ?_ | refine W_move ?_)))
     <;> (first | refine W_no rfl ?_ | (refine W_yes rfl ?_; refine W_slen rfl ?_))
     <;> (first | refine W_no rfl ?_ | (refine W_yes rfl ?_; (refine W_gtr rfl rfl (fun hc => ?_) (fun hc => ?_) <;> try (exfalso; omega))))
     <;> ((first | refine M_pick_t rfl ?_ | refine M_pick_f rfl ?_); (first | refine M_bool rfl ?_ | refine W_move ?_))
     <;> (first | refine M_bool rfl ?_ | refine W_move ?_)
     <;> (first | refine W_no rfl ?_ | (refine W_yes rfl ?_; (first | refine M_str rfl ?_ | refine W_move ?_)))
     <;> (first | refine W_no rfl ?_ | (refine W_yes rfl ?_; refine W_slen rfl ?_))
     <;> (first | refine W_no rfl ?_ | (refine W_yes rfl ?_; (refine W_gtr rfl rfl (fun hc => ?_) (fun hc => ?_) <;> try (exfalso; omega))))
     <;> ((first | refine M_pick_t rfl ?_ | refine M_pick_f rfl ?_); (first | refine M_bool rfl ?_ | refine W_move ?_))
     <;> (first | refine M_bool rfl ?_ | refine W_move ?_)
     <;> (first | refine W_no rfl ?_ | (refine W_yes rfl ?_; (first | refine M_slice rfl ?_ | refine W_move ?_)))
     <;> (first | refine W_no rfl ?_ | (refine W_yes rfl ?_; refine W_len rfl ?_))
     <;> (first | refine W_no rfl ?_ | (refine W_yes rfl ?_; (refine W_gtr rfl rfl (fun hc => ?_) (fun hc => ?_) <;> try (exfalso; omega))))
     <;> ((first | refine M_pick_t rfl ?_ | refine M_pick_f rfl ?_); (first | refine M_bool rfl ?_ | refine W_move ?_))
     <;> (first | refine M_bool rfl ?_ | refine W_move ?_)
     <;> (first | refine W_no rfl ?_ | (refine W_yes rfl ?_; (first | refine M_slice rfl ?_ | refine W_move ?_)))
     <;> (first | refine W_no rfl ?_ | (refine W_yes rfl ?_; refine W_len rfl ?_))
     <;> (first | refine W_no rfl ?_ | (refine W_yes rfl ?_; (refine W_gtr rfl rfl (fun hc => ?_) (fun hc => ?_) <;> try (exfalso; omega))))
     <;> ((first | refine M_pick_t rfl ?_ | refine M_pick_f rfl ?_); (first | refine M_bool rfl ?_ | refine W_move ?_))
     <;> refine W_nil ?_)
    repeat' first | refine nx ?_ | refine C_cond_t rfl ?_ | refine C_cond_f rfl ?_ | refine Q_block_on rfl ?_
    (refine C_region ?_
     <;> (first | refine M_bool rfl ?_ | refine W_move ?_)
     <;> (refine M_assign ?_; (first | refine M_bool rfl ?_ | refine W_move ?_))
     <;> refine W_nil ?_)
    repeat' first | refine nx ?_ | refine C_cond_t rfl ?_ | refine C_cond_f rfl ?_ | refine Q_block_on rfl ?_
    exact fin_ret1 rfl ⟨rfl, k5⟩
  by_cases lA : 900 < A.length
  · (refine C_region ?_
     <;> (first | refine M_int rfl ?_ | refine W_move ?_)
     <;> (refine W_neq rfl rfl (fun hc => ?_) (fun hc => ?_) <;> try (exfalso; omega))
     <;> (first | refine M_bool rfl ?_ | refine W_move ?_)
     <;> (first | refine W_no rfl ?_ | (refine W_yes rfl ?_; (first | refine M_int rfl ?_ | refine W_move ?_)))
     <;> (first | refine W_no rfl ?_ | (refine W_yes rfl ?_; (refine W_neq rfl rfl (fun hc => ?_) (fun hc => ?_) <;> try (exfalso; omega))))
     <;> ((first | refine M_pick_t rfl ?_ | refine M_pick_f rfl ?_); (first | refine M_bool rfl ?_ | refine W_move ?_))
     <;> (first | refine M_bool rfl ?_ | refine W_move ?_)
     <;> (first | refine W_no rfl ?_ | (refine W_yes rfl ?_; (first | refine M_str rfl ?_ | refine W_move ?_)))
     <;> (first | refine W_no rfl ?_ | (refine W_yes rfl ?_; refine W_slen rfl ?_))
     <;> (first | refine W_no rfl ?_ | (refine W_yes rfl ?_; (refine W_gtr rfl rfl (fun hc => ?_) (fun hc => ?_) <;> try (exfalso; omega))))
     <;> ((first | refine M_pick_t rfl ?_ | refine M_pick_f rfl ?_); (first | refine M_bool rfl ?_ | refine W_move ?_))
     <;> (first | refine M_bool rfl ?_ | refine W_move ?_)
     <;> (first | refine W_no rfl ?_ | (refine W_yes rfl ?_; (first | refine M_str rfl ?_ | refine W_move ?_)))
     <;> (first | refine W_no rfl ?_ | (refine W_yes rfl ?_; refine W_slen rfl ?_))
     <;> (first | refine W_no rfl ?_ | (refine W_yes rfl ?_; (refine W_gtr rfl rfl (fun hc => ?_) (fun hc => ?_) <;> try (exfalso; omega))))
     <;> ((first | refine M_pick_t rfl ?_ | refine M_pick_f rfl ?_); (first | refine M_bool rfl ?_ | refine W_move ?_))
     <;> (first | refine M_bool rfl ?_ | refine W_move ?_)
     <;> (first | refine W_no rfl ?_ | (refine W_yes rfl ?_; (first | refine M_slice rfl ?_ | refine W_move ?_)))
     <;> (first | refine W_no rfl ?_ | (refine W_yes rfl ?_; refine W_len rfl ?_))
     <;> (first | refine W_no rfl ?_ | (refine W_yes rfl ?_; (refine W_gtr rfl rfl (fun hc => ?_) (fun hc => ?_) <;> try (exfalso; omega))))
     <;> ((first | refine M_pick_t rfl ?_ | refine M_pick_f rfl ?_); (first | refine M_bool rfl ?_ | refine W_move ?_))
     <;> (first | refine M_bool rfl ?_ | refine W_move ?_)
     <;> (first | refine W_no rfl ?_ | (refine W_yes rfl ?_; (first | refine M_slice rfl ?_ | refine W_move ?_)))
     <;> (first | refine W_no rfl ?_ | (refine W_yes rfl ?_; refine W_len rfl ?_))
     <;> (first | refine W_no rfl ?_ | (refine W_yes rfl ?_; (refine W_gtr rfl rfl (fun hc => ?_) (fun hc => ?_) <;> try (exfalso; omega))))
     <;> ((first | refine M_pick_t rfl ?_ | refine M_pick_f rfl ?_); (first | refine M_bool rfl ?_ | refine W_move ?_))
     <;> refine W_nil ?_)
    repeat' first | refine nx ?_ | refine C_cond_t rfl ?_ | refine C_cond_f rfl ?_ | refine Q_block_on rfl ?_
    (refine C_region ?_
     <;> (first | refine M_bool rfl ?_ | refine W_move ?_)
     <;> (refine M_assign ?_; (first | refine M_bool rfl ?_ | refine W_move ?_))
     <;> refine W_nil ?_)
    repeat' first | refine nx ?_ | refine C_cond_t rfl ?_ | refine C_cond_f rfl ?_ | refine Q_block_on rfl ?_
    exact fin_ret1 rfl ⟨rfl, k5⟩
  by_cases lB : 900 < B.length
  · (refine C_region ?_
     <;> (first | refine M_int rfl ?_ | refine W_move ?_)
     <;> (refine W_neq rfl rfl (fun hc => ?_) (fun hc => ?_) <;> try (exfalso; omega))
     <;> (first | refine M_bool rfl ?_ | refine W_move ?_)
     <;> (first | refine W_no rfl ?_ | (refine W_yes rfl ?_; (first | refine M_int rfl ?_ | refine W_move ?_)))
     <;> (first | refine W_no rfl ?_ | (refine W_yes rfl ?_; (refine W_neq rfl rfl (fun hc => ?_) (fun hc => ?_) <;> try (exfalso; omega))))
     <;> ((first | refine M_pick_t rfl ?_ | refine M_pick_f rfl ?_); (first | refine M_bool rfl ?_ | refine W_move ?_))
     <;> (first | refine M_bool rfl ?_ | refine W_move ?_)
     <;> (first | refine W_no rfl ?_ | (refine W_yes rfl ?_; (first | refine M_str rfl ?_ | refine W_move ?_)))
     <;> (first | refine W_no rfl ?_ | (refine W_yes rfl ?_; refine W_slen rfl ?_))
     <;> (first | refine W_no rfl ?_ | (refine W_yes rfl ?_; (refine W_gtr rfl rfl (fun hc => ?_) (fun hc => ?_) <;> try (exfalso; omega))))
     <;> ((first | refine M_pick_t rfl ?_ | refine M_pick_f rfl ?_); (first | refine M_bool rfl ?_ | refine W_move ?_))
     <;> (first | refine M_bool rfl ?_ | refine W_move ?_)
     <;> (first | refine W_no rfl ?_ | (refine W_yes rfl ?_; (first | refine M_str rfl ?_ | refine W_move ?_)))
     <;> (first | refine W_no rfl ?_ | (refine W_yes rfl ?_; refine W_slen rfl ?_))
     <;> (first | refine W_no rfl ?_ | (refine W_yes rfl ?_; (refine W_gtr rfl rfl (fun hc => ?_) (fun hc => ?_) <;> try (exfalso; omega))))
     <;> ((first | refine M_pick_t rfl ?_ | refine M_pick_f rfl ?_); (first | refine M_bool rfl ?_ | refine W_move ?_))
     <;> (first | refine M_bool rfl ?_ | refine W_move ?_)
     <;> (first | refine W_no rfl ?_ | (refine W_yes rfl ?_; (first | refine M_slice rfl ?_ | refine W_move ?_)))
     <;> (first | refine W_no rfl ?_ | (refine W_yes rfl ?_; refine W_len rfl ?_))
     <;> (first | refine W_no rfl ?_ | (refine W_yes rfl ?_; (refine W_gtr rfl rfl (fun hc => ?_) (fun hc => ?_) <;> try (exfalso; omega))))
     <;> ((first | refine M_pick_t rfl ?_ | refine M_pick_f rfl ?_); (first | refine M_bool rfl ?_ | refine W_move ?_))
     <;> (first | refine M_bool rfl ?_ | refine W_move ?_)
     <;> (first | refine W_no rfl ?_ | (refine W_yes rfl ?_; (first | refine M_slice rfl ?_ | refine W_move ?_)))
     <;> (first | refine W_no rfl ?_ | (refine W_yes rfl ?_; refine W_len rfl ?_))
     <;> (first | refine W_no rfl ?_ | (refine W_yes rfl ?_; (refine W_gtr rfl rfl (fun hc => ?_) (fun hc => ?_) <;> try (exfalso; omega))))
     <;> ((first | refine M_pick_t rfl ?_ | refine M_pick_f rfl ?_); (first | refine M_bool rfl ?_ | refine W_move ?_))
     <;> refine W_nil ?_)
    repeat' first | refine nx ?_ | refine C_cond_t rfl ?_ | refine C_cond_f rfl ?_ | refine Q_block_on rfl ?_
    (refine C_region ?_
     <;> (first | refine M_bool rfl ?_ | refine W_move ?_)
     <;> (refine M_assign ?_; (first | refine M_bool rfl ?_ | refine W_move ?_))
     <;> refine W_nil ?_)
    repeat' first | refine nx ?_ | refine C_cond_t rfl ?_ | refine C_cond_f rfl ?_ | refine Q_block_on rfl ?_
    exact fin_ret1 rfl ⟨rfl, k5⟩
  (refine C_region ?_
   <;> (first | refine M_int rfl ?_ | refine W_move ?_)
   <;> (refine W_neq rfl rfl (fun hc => ?_) (fun hc => ?_) <;> try (exfalso; omega))
   <;> (first | refine M_bool rfl ?_ | refine W_move ?_)
   <;> (first | refine W_no rfl ?_ | (refine W_yes rfl ?_; (first | refine M_int rfl ?_ | refine W_move ?_)))
   <;> (first | refine W_no rfl ?_ | (refine W_yes rfl ?_; (refine W_neq rfl rfl (fun hc => ?_) (fun hc => ?_) <;> try (exfalso; omega))))
   <;> ((first | refine M_pick_t rfl ?_ | refine M_pick_f rfl ?_); (first | refine M_bool rfl ?_ | refine W_move ?_))
   <;> (first | refine M_bool rfl ?_ | refine W_move ?_)
   <;> (first | refine W_no rfl ?_ | (refine W_yes rfl ?_; (first | refine M_str rfl ?_ | refine W_move ?_)))
   <;> (first | refine W_no rfl ?_ | (refine W_yes rfl ?_; refine W_slen rfl ?_))
   <;> (first | refine W_no rfl ?_ | (refine W_yes rfl ?_; (refine W_gtr rfl rfl (fun hc => ?_) (fun hc => ?_) <;> try (exfalso; omega))))
   <;> ((first | refine M_pick_t rfl ?_ | refine M_pick_f rfl ?_); (first | refine M_bool rfl ?_ | refine W_move ?_))
   <;> (first | refine M_bool rfl ?_ | refine W_move ?_)
   <;> (first | refine W_no rfl ?_ | (refine W_yes rfl ?_; (first | refine M_str rfl ?_ | refine W_move ?_)))
   <;> (first | refine W_no rfl ?_ | (refine W_yes rfl ?_; refine W_slen rfl ?_))
   <;> (first | refine W_no rfl ?_ | (refine W_yes rfl ?_; (refine W_gtr rfl rfl (fun hc => ?_) (fun hc => ?_) <;> try (exfalso; omega))))
   <;> ((first | refine M_pick_t rfl ?_ | refine M_pick_f rfl ?_); (first | refine M_bool rfl ?_ | refine W_move ?_))
   <;> (first | refine M_bool rfl ?_ | refine W_move ?_)
   <;> (first | refine W_no rfl ?_ | (refine W_yes rfl ?_; (first | refine M_slice rfl ?_ | refine W_move ?_)))
   <;> (first | refine W_no rfl ?_ | (refine W_yes rfl ?_; refine W_len rfl ?_))
   <;> (first | refine W_no rfl ?_ | (refine W_yes rfl ?_; (refine W_gtr rfl rfl (fun hc => ?_) (fun hc => ?_) <;> try (exfalso; omega))))
   <;> ((first | refine M_pick_t rfl ?_ | refine M_pick_f rfl ?_); (first | refine M_bool rfl ?_ | refine W_move ?_))
   <;> (first | refine M_bool rfl ?_ | refine W_move ?_)
   <;> (first | refine W_no rfl ?_ | (refine W_yes rfl ?_; (first | refine M_slice rfl ?_ | refine W_move ?_)))
   <;> (first | refine W_no rfl ?_ | (refine W_yes rfl ?_; refine W_len rfl ?_))
   <;> (first | refine W_no rfl ?_ | (refine W_yes rfl ?_; (refine W_gtr rfl rfl (fun hc => ?_) (fun hc => ?_) <;> try (exfalso; omega))))
   <;> ((first | refine M_pick_t rfl ?_ | refine M_pick_f rfl ?_); (first | refine M_bool rfl ?_ | refine W_move ?_))
   <;> refine W_nil ?_)
  repeat' first | refine nx ?_ | refine C_cond_t rfl ?_ | refine C_cond_f rfl ?_ | refine Q_block_on rfl ?_
  obtain ⟨f, rfl⟩ := pF.zero.1 hF
  obtain ⟨g, rfl⟩ := pH.zero.1 hH
  obtain ⟨A', hmA, hrA⟩ := PRes.tokens pF
  obtain ⟨B', hmB, hrB⟩ := PRes.tokens pH
  obtain rfl : A = A' := by
    rcases hA with ⟨h, _⟩ | ⟨p, h, _⟩
    · rw [hmA] at h; cases h; rfl
    · rw [hmA] at h; cases h
  obtain rfl : B = B' := by
    rcases hB with ⟨h, _⟩ | ⟨p, h, _⟩
    · rw [hmB] at h; cases h; rfl
    · rw [hmB] at h; cases h
  (refine C_region ?_)
  -- at operation 0: <dst=(some 82) op=(call <callee=(value (func 17)) args=[] argTypes=[]>) type=55 guard=none>
  refine W_call (operators_ok w6) rfl ?_
  rintro _ w7 ⟨p1, p2, p3, rfl, k7, t1, t2, t3⟩
  ((first | refine M_tuple rfl ?_ | refine W_move ?_)
   <;> refine W_extract rfl rfl ?_
   <;> refine W_extract rfl rfl ?_
   <;> refine W_extract rfl rfl ?_
   <;> (refine M_assign ?_; (first | refine M_slice rfl ?_ | refine W_move ?_))
   <;> (refine M_assign ?_; (first | refine M_slice rfl ?_ | refine W_move ?_))
   <;> (refine M_assign ?_; (first | refine M_slice rfl ?_ | refine W_move ?_))
   <;> refine W_nil ?_)
  repeat' first | refine nx ?_ | refine C_cond_t rfl ?_ | refine C_cond_f rfl ?_ | refine Q_block_on rfl ?_
  (refine C_region ?_
   <;> (first | refine M_int rfl ?_ | refine W_move ?_)
   <;> refine W_conv rfl (by first | exact inR_i64 (by omega) (by omega) | exact inR_u8 (by omega) (by omega) | exact inR_u16 (by omega) (by omega)) ?_
   <;> (first | refine M_slice rfl ?_ | refine W_move ?_)
   <;> refine W_len rfl ?_
   <;> refine W_rem rfl rfl (by omega) (by omega) ?_
   <;> (refine M_assign ?_; (first | refine M_int rfl ?_ | refine W_move ?_))
   <;> refine W_nil ?_)
  have ek9 : (r : Int) % ((9 : Nat) : Int) = ((r % 9 : Nat) : Int) := (Int.natCast_emod _ _).symm
  rw [ek9]
  have hi9 : r % 9 < 9 := Nat.mod_lt _ (by decide)
  generalize r % 9 = i at hi9
  clear ek9
  repeat' first | refine nx ?_ | refine C_cond_t rfl ?_ | refine C_cond_f rfl ?_ | refine Q_block_on rfl ?_
  (refine C_region ?_)
  -- at operation 0: <dst=(some 92) op=(call <callee=(value (func 18)) args=[] argTypes=[]>) type=57 guard=none>
  refine W_call (before_ok w7) rfl ?_
  rintro _ w8 ⟨q1, q2, q3, q4, rfl, k8, s1, s2, s3, s4⟩
  ((first | refine M_tuple rfl ?_ | refine W_move ?_)
   <;> refine W_extract rfl rfl ?_
   <;> refine W_extract rfl rfl ?_
   <;> refine W_extract rfl rfl ?_
   <;> refine W_extract rfl rfl ?_
   <;> (refine M_assign ?_; (first | refine M_slice rfl ?_ | refine W_move ?_))
   <;> (refine M_assign ?_; (first | refine M_slice rfl ?_ | refine W_move ?_))
   <;> (refine M_assign ?_; (first | refine M_slice rfl ?_ | refine W_move ?_))
   <;> (refine M_assign ?_; (first | refine M_slice rfl ?_ | refine W_move ?_))
   <;> refine W_nil ?_)
  repeat' first | refine nx ?_ | refine C_cond_t rfl ?_ | refine C_cond_f rfl ?_ | refine Q_block_on rfl ?_
  (refine C_region ?_
   <;> (first | refine M_int rfl ?_ | refine W_move ?_)
   <;> refine W_conv rfl (by first | exact inR_i64 (by omega) (by omega) | exact inR_u8 (by omega) (by omega) | exact inR_u16 (by omega) (by omega)) ?_
   <;> (first | refine M_slice rfl ?_ | refine W_move ?_)
   <;> refine W_len rfl ?_
   <;> refine W_rem rfl rfl (by omega) (by omega) ?_
   <;> (refine M_assign ?_; (first | refine M_int rfl ?_ | refine W_move ?_))
   <;> refine W_nil ?_)
  have ek10 : (r : Int) % ((10 : Nat) : Int) = ((r % 10 : Nat) : Int) := (Int.natCast_emod _ _).symm
  rw [ek10]
  have hi10 : r % 10 < 10 := Nat.mod_lt _ (by decide)
  generalize r % 10 = j at hi10
  clear ek10
  repeat' first | refine nx ?_ | refine C_cond_t rfl ?_ | refine C_cond_f rfl ?_ | refine Q_block_on rfl ?_
  obtain ⟨o, ho⟩ : ∃ o, binL[i]? = some o := ⟨_, List.getElem?_eq_getElem (by show i < 9; exact hi9)⟩
  obtain ⟨u, hu⟩ : ∃ u, unaL[j]? = some u := ⟨_, List.getElem?_eq_getElem (by show j < 10; exact hi10)⟩
  have hom := List.mem_of_getElem? ho
  have hum := List.mem_of_getElem? hu
  have ol := (bin_reads o hom).2.1
  have ul := (una_reads u hum).2.1
  have k78 := k7.trans k8
  have k9 := k5.trans k78
  replace b2 := b2.keep k78 (by simp)
  replace c4 := c4.keep k78 (by simp)
  replace fF := fF.ext k78
  replace fH := fH.ext k78
  have m1 : w8.cell? ⟨p1, 0 + i, none⟩ = some (strV o.text) := t1.keep k8 (by simp) i _ (by simp [ho])
  have m2 : w8.cell? ⟨p2, 0 + i, none⟩ = some (.int .i64 o.op) := t2.keep k8 (by simp) i _ (by simp [intsV, ho])
  have m3 : w8.cell? ⟨p3, 0 + i, none⟩ = some (.int .i64 o.val) := t3.keep k8 (by simp) i _ (by simp [intsV, ho])
  have l1 : w8.cell? ⟨q1, 0 + j, none⟩ = some (strV u.text) := s1 j _ (by simp [hu])
  have l2 : w8.cell? ⟨q2, 0 + j, none⟩ = some (.int .i64 u.op) := s2 j _ (by simp [intsV, hu])
  have l3 : w8.cell? ⟨q3, 0 + j, none⟩ = some (.int .i64 u.val) := s3 j _ (by simp [intsV, hu])
  have l4 : w8.cell? ⟨q4, 0 + j, none⟩ = some (.int .i64 u.bound) := s4 j _ (by simp [intsV, hu])
  clear t1 t2 t3 s1 s2 s3 s4 hA hB hTA hTB n2 n4
  refine C_drawN (.read 0 (.read 1 (.read 2 (.read 4 (.alt 3 (.alt 5 (.read 6 (.read 7 (.read 8 (.read 10 (.read 11 (.read 12 (.read 13 (.read 15 (.read 18 (.read 19 (.read 20 (.read 21 (.read 22 (.read 23 (.read 24 (.read 25 (.read 26 (.read 27 (.alt 9 (.read 14 (.alt 16 (.read 17 (.alt 28 (.read 29 (.alt 30 (.read 31 (.read 32 (.read 33 (.read 34 (.read 35 (.read 36 (.read 37 (.read 40 (.read 41 (.read 42 (.read 43 (.read 44 (.read 45 (.read 46 (.read 47 (.read 48 (.read 49 (.read 50 (.read 51 (.read 52 (.alt 38 (.read 39 (.alt 53 (.read 54 (.alt 55 (.read 56 (.read 57 .done)) .stop)) .stop)) (.alt 53 (.read 54 (.alt 38 (.read 39 (.alt 55 (.read 56 (.read 57 .done)) .stop)) .stop)) .stop)))))))))))))))))))))) .stop)) .stop)) (.alt 28 (.read 29 (.alt 16 (.read 17 (.alt 30 (.read 31 (.read 32 (.read 33 (.read 34 (.read 35 (.read 36 (.read 37 (.read 40 (.read 41 (.read 42 (.read 43 (.read 44 (.read 45 (.read 46 (.read 47 (.read 48 (.read 49 (.read 50 (.read 51 (.read 52 (.alt 38 (.read 39 (.alt 53 (.read 54 (.alt 55 (.read 56 (.read 57 .done)) .stop)) .stop)) (.alt 53 (.read 54 (.alt 38 (.read 39 (.alt 55 (.read 56 (.read 57 .done)) .stop)) .stop)) .stop)))))))))))))))))))))) .stop)) .stop)) .stop))) (.alt 28 (.read 29 (.alt 9 (.read 14 (.alt 16 (.read 17 (.alt 30 (.read 31 (.read 32 (.read 33 (.read 34 (.read 35 (.read 36 (.read 37 (.read 40 (.read 41 (.read 42 (.read 43 (.read 44 (.read 45 (.read 46 (.read 47 (.read 48 (.read 49 (.read 50 (.read 51 (.read 52 (.alt 38 (.read 39 (.alt 53 (.read 54 (.alt 55 (.read 56 (.read 57 .done)) .stop)) .stop)) (.alt 53 (.read 54 (.alt 38 (.read 39 (.alt 55 (.read 56 (.read 57 .done)) .stop)) .stop)) .stop)))))))))))))))))))))) .stop)) .stop)) .stop)) .stop)))))))))))))))))))) .stop) .stop))))) mixed (by kernel_rfl) (fun wd kd ed => ⟨Ext wd, ?_, ?_⟩)
  · exact Ext.refl _
  have ca : ∀ W, Ext wd W → Cells W w1.heap.size 0 [f0, f1, f2, f3, f4] := fun W e => ((b2.keep kd (by simp)).keep e (by simp)).cells
  have cb : ∀ W, Ext wd W → Cells W w3.heap.size 0 [g0, g1, g2, g3, g4] := fun W e => ((c4.keep kd (by simp)).keep e (by simp)).cells
  have x1 : ∀ W, Ext wd W → W.cell? ⟨p1, 0 + i, none⟩ = some (strV o.text) := fun W e => (kd.trans e).cell m1 (by simp)
  have x2 : ∀ W, Ext wd W → W.cell? ⟨p2, 0 + i, none⟩ = some (.int .i64 o.op) := fun W e => (kd.trans e).cell m2 (by simp)
  have x3 : ∀ W, Ext wd W → W.cell? ⟨p3, 0 + i, none⟩ = some (.int .i64 o.val) := fun W e => (kd.trans e).cell m3 (by simp)
  have y1 : ∀ W, Ext wd W → W.cell? ⟨q1, 0 + j, none⟩ = some (strV u.text) := fun W e => (kd.trans e).cell l1 (by simp)
  have y2 : ∀ W, Ext wd W → W.cell? ⟨q2, 0 + j, none⟩ = some (.int .i64 u.op) := fun W e => (kd.trans e).cell l2 (by simp)
  have y3 : ∀ W, Ext wd W → W.cell? ⟨q3, 0 + j, none⟩ = some (.int .i64 u.val) := fun W e => (kd.trans e).cell l3 (by simp)
  have y4 : ∀ W, Ext wd W → W.cell? ⟨q4, 0 + j, none⟩ = some (.int .i64 u.bound) := fun W e => (kd.trans e).cell l4 (by simp)
  replace fF := fF.ext kd
  replace fH := fH.ext kd
  have kw := k9.trans kd
  clear b2 c4 m1 m2 m3 l1 l2 l3 l4
  ((apply D_R rfl rfl; (intro W hW; (first | refine M_bool rfl ?_ | refine W_move ?_); exact W_nil ⟨rfl, rfl, rfl⟩))
   <;> (apply D_R rfl rfl; (intro W hW; (first | refine M_bool rfl ?_ | refine W_move ?_); exact W_nil ⟨rfl, rfl, rfl⟩))
   <;> (first | refine D_skip rfl rfl rfl rfl ?_ | (apply D_R rfl rfl; (intro W hW; refine W_no rfl ?_; exact W_nil ⟨rfl, rfl, rfl⟩)) | (apply D_R rfl rfl; (intro W hW; (refine W_yes rfl ?_; (first | refine M_str rfl ?_ | refine W_move ?_)); exact W_nil ⟨rfl, rfl, rfl⟩)))
   <;> (first | refine D_skip rfl rfl rfl rfl ?_ | (apply D_R rfl rfl; (intro W hW; refine W_no rfl ?_; exact W_nil ⟨rfl, rfl, rfl⟩)) | (apply D_R rfl rfl; (intro W hW; (refine W_yes rfl ?_; (first | refine W_load rfl (ca W hW) ?_ | refine W_load rfl (cb W hW) ?_ | refine W_load rfl (x1 W hW) ?_ | refine W_load rfl (x2 W hW) ?_ | refine W_load rfl (x3 W hW) ?_ | refine W_load rfl (y1 W hW) ?_ | refine W_load rfl (y2 W hW) ?_ | refine W_load rfl (y3 W hW) ?_ | refine W_load rfl (y4 W hW) ?_ | refine W_load_agg rfl (by rfl) (ca W hW) ?_ | refine W_load_agg rfl (by rfl) (cb W hW) ?_ | refine W_load_agg rfl (by rfl) (x1 W hW) ?_ | refine W_load_agg rfl (by rfl) (x2 W hW) ?_ | refine W_load_agg rfl (by rfl) (x3 W hW) ?_ | refine W_load_agg rfl (by rfl) (y1 W hW) ?_ | refine W_load_agg rfl (by rfl) (y2 W hW) ?_ | refine W_load_agg rfl (by rfl) (y3 W hW) ?_ | refine W_load_agg rfl (by rfl) (y4 W hW) ?_)); exact W_nil ⟨rfl, rfl, rfl⟩))))
  -- at place 4, operation 3: <dst=(some 105) op=(call <callee=(value (func 20)) args=[(tmp 104)] argTypes=[9]>) type=9 guard=(some [1, true])>
  refine D_E rfl ?_
  (refine W_yes rfl ?_; refine W_call (closed_ok wd a (by omega)) rfl ?_)
  rintro _ wx ⟨rfl, hw⟩
  obtain rfl := hw.symm
  refine W_nil ⟨Ext wd, fun _ e => e, Ext.refl _, ?_⟩
  refine D_E rfl ?_
  (refine W_yes rfl ?_; refine W_call (parses_ok wd (40 :: (a ++ [10, 41])) _ f fF (hG.ext kw)) rfl ?_)
  rintro _ v1 ⟨bb, rfl, hb, e1⟩
  obtain rfl : bb = true := hb.2 (by rw [closedT_eq]; exact closed_law hmA hrA (by omega) (by omega))
  refine W_nil ⟨Ext wd, fun _ e => e, e1, ?_⟩
  ((apply D_R rfl rfl; (intro W hW; ((first | refine M_pick_t rfl ?_ | refine M_pick_f rfl ?_); (first | refine M_bool rfl ?_ | refine W_move ?_)); exact W_nil ⟨rfl, rfl, rfl⟩))
   <;> (apply D_R rfl rfl; (intro W hW; (first | refine M_bool rfl ?_ | refine W_move ?_); exact W_nil ⟨rfl, rfl, rfl⟩))
   <;> (first | refine D_skip rfl rfl rfl rfl ?_ | (apply D_R rfl rfl; (intro W hW; refine W_no rfl ?_; exact W_nil ⟨rfl, rfl, rfl⟩)) | (apply D_R rfl rfl; (intro W hW; (refine W_yes rfl ?_; (first | refine M_str rfl ?_ | refine W_move ?_)); exact W_nil ⟨rfl, rfl, rfl⟩)))
   <;> (first | refine D_skip rfl rfl rfl rfl ?_ | (apply D_R rfl rfl; (intro W hW; refine W_no rfl ?_; exact W_nil ⟨rfl, rfl, rfl⟩)) | (apply D_R rfl rfl; (intro W hW; (refine W_yes rfl ?_; (first | refine M_slice rfl ?_ | refine W_move ?_)); exact W_nil ⟨rfl, rfl, rfl⟩)))
   <;> (first | refine D_skip rfl rfl rfl rfl ?_ | (apply D_R rfl rfl; (intro W hW; refine W_no rfl ?_; exact W_nil ⟨rfl, rfl, rfl⟩)) | (apply D_R rfl rfl; (intro W hW; (refine W_yes rfl ?_; (first | refine M_int rfl ?_ | refine W_move ?_)); exact W_nil ⟨rfl, rfl, rfl⟩)))
   <;> (first | refine D_skip rfl rfl rfl rfl ?_ | (apply D_R rfl rfl; (intro W hW; refine W_no rfl ?_; exact W_nil ⟨rfl, rfl, rfl⟩)) | (apply D_R rfl rfl; (intro W hW; (refine W_yes rfl ?_; (first | refine W_idx1 rfl rfl rfl (by omega) ?_ | refine W_idx rfl rfl rfl (by omega) ?_ | refine W_indexAddr rfl rfl (by omega) (by omega) ?_)); exact W_nil ⟨rfl, rfl, rfl⟩)))
   <;> (first | refine D_skip rfl rfl rfl rfl ?_ | (apply D_R rfl rfl; (intro W hW; refine W_no rfl ?_; exact W_nil ⟨rfl, rfl, rfl⟩)) | (apply D_R rfl rfl; (intro W hW; (refine W_yes rfl ?_; (first | refine W_load rfl (ca W hW) ?_ | refine W_load rfl (cb W hW) ?_ | refine W_load rfl (x1 W hW) ?_ | refine W_load rfl (x2 W hW) ?_ | refine W_load rfl (x3 W hW) ?_ | refine W_load rfl (y1 W hW) ?_ | refine W_load rfl (y2 W hW) ?_ | refine W_load rfl (y3 W hW) ?_ | refine W_load rfl (y4 W hW) ?_ | refine W_load_agg rfl (by rfl) (ca W hW) ?_ | refine W_load_agg rfl (by rfl) (cb W hW) ?_ | refine W_load_agg rfl (by rfl) (x1 W hW) ?_ | refine W_load_agg rfl (by rfl) (x2 W hW) ?_ | refine W_load_agg rfl (by rfl) (x3 W hW) ?_ | refine W_load_agg rfl (by rfl) (y1 W hW) ?_ | refine W_load_agg rfl (by rfl) (y2 W hW) ?_ | refine W_load_agg rfl (by rfl) (y3 W hW) ?_ | refine W_load_agg rfl (by rfl) (y4 W hW) ?_)); exact W_nil ⟨rfl, rfl, rfl⟩)))
   <;> (first | refine D_skip rfl rfl rfl rfl ?_ | (apply D_R rfl rfl; (intro W hW; refine W_no rfl ?_; exact W_nil ⟨rfl, rfl, rfl⟩)) | (apply D_R rfl rfl; (intro W hW; (refine W_yes rfl ?_; (first | refine M_str rfl ?_ | refine W_move ?_)); exact W_nil ⟨rfl, rfl, rfl⟩)))
   <;> (first | refine D_skip rfl rfl rfl rfl ?_ | (apply D_R rfl rfl; (intro W hW; refine W_no rfl ?_; exact W_nil ⟨rfl, rfl, rfl⟩)) | (apply D_R rfl rfl; (intro W hW; (refine W_yes rfl ?_; (first | refine M_slice rfl ?_ | refine W_move ?_)); exact W_nil ⟨rfl, rfl, rfl⟩)))
   <;> (first | refine D_skip rfl rfl rfl rfl ?_ | (apply D_R rfl rfl; (intro W hW; refine W_no rfl ?_; exact W_nil ⟨rfl, rfl, rfl⟩)) | (apply D_R rfl rfl; (intro W hW; (refine W_yes rfl ?_; (first | refine M_int rfl ?_ | refine W_move ?_)); exact W_nil ⟨rfl, rfl, rfl⟩)))
   <;> (first | refine D_skip rfl rfl rfl rfl ?_ | (apply D_R rfl rfl; (intro W hW; refine W_no rfl ?_; exact W_nil ⟨rfl, rfl, rfl⟩)) | (apply D_R rfl rfl; (intro W hW; (refine W_yes rfl ?_; (first | refine W_idx1 rfl rfl rfl (by omega) ?_ | refine W_idx rfl rfl rfl (by omega) ?_ | refine W_indexAddr rfl rfl (by omega) (by omega) ?_)); exact W_nil ⟨rfl, rfl, rfl⟩)))
   <;> (first | refine D_skip rfl rfl rfl rfl ?_ | (apply D_R rfl rfl; (intro W hW; refine W_no rfl ?_; exact W_nil ⟨rfl, rfl, rfl⟩)) | (apply D_R rfl rfl; (intro W hW; (refine W_yes rfl ?_; (first | refine W_load rfl (ca W hW) ?_ | refine W_load rfl (cb W hW) ?_ | refine W_load rfl (x1 W hW) ?_ | refine W_load rfl (x2 W hW) ?_ | refine W_load rfl (x3 W hW) ?_ | refine W_load rfl (y1 W hW) ?_ | refine W_load rfl (y2 W hW) ?_ | refine W_load rfl (y3 W hW) ?_ | refine W_load rfl (y4 W hW) ?_ | refine W_load_agg rfl (by rfl) (ca W hW) ?_ | refine W_load_agg rfl (by rfl) (cb W hW) ?_ | refine W_load_agg rfl (by rfl) (x1 W hW) ?_ | refine W_load_agg rfl (by rfl) (x2 W hW) ?_ | refine W_load_agg rfl (by rfl) (x3 W hW) ?_ | refine W_load_agg rfl (by rfl) (y1 W hW) ?_ | refine W_load_agg rfl (by rfl) (y2 W hW) ?_ | refine W_load_agg rfl (by rfl) (y3 W hW) ?_ | refine W_load_agg rfl (by rfl) (y4 W hW) ?_)); exact W_nil ⟨rfl, rfl, rfl⟩)))
   <;> (first | refine D_skip rfl rfl rfl rfl ?_ | (apply D_R rfl rfl; (intro W hW; refine W_no rfl ?_; exact W_nil ⟨rfl, rfl, rfl⟩)) | (apply D_R rfl rfl; (intro W hW; (refine W_yes rfl ?_; (first | refine M_slice rfl ?_ | refine W_move ?_)); exact W_nil ⟨rfl, rfl, rfl⟩)))
   <;> (first | refine D_skip rfl rfl rfl rfl ?_ | (apply D_R rfl rfl; (intro W hW; refine W_no rfl ?_; exact W_nil ⟨rfl, rfl, rfl⟩)) | (apply D_R rfl rfl; (intro W hW; (refine W_yes rfl ?_; (first | refine M_int rfl ?_ | refine W_move ?_)); exact W_nil ⟨rfl, rfl, rfl⟩)))
   <;> (first | refine D_skip rfl rfl rfl rfl ?_ | (apply D_R rfl rfl; (intro W hW; refine W_no rfl ?_; exact W_nil ⟨rfl, rfl, rfl⟩)) | (apply D_R rfl rfl; (intro W hW; (refine W_yes rfl ?_; (first | refine W_idx1 rfl rfl rfl (by omega) ?_ | refine W_idx rfl rfl rfl (by omega) ?_ | refine W_indexAddr rfl rfl (by omega) (by omega) ?_)); exact W_nil ⟨rfl, rfl, rfl⟩)))
   <;> (first | refine D_skip rfl rfl rfl rfl ?_ | (apply D_R rfl rfl; (intro W hW; refine W_no rfl ?_; exact W_nil ⟨rfl, rfl, rfl⟩)) | (apply D_R rfl rfl; (intro W hW; (refine W_yes rfl ?_; (first | refine W_load rfl (ca W hW) ?_ | refine W_load rfl (cb W hW) ?_ | refine W_load rfl (x1 W hW) ?_ | refine W_load rfl (x2 W hW) ?_ | refine W_load rfl (x3 W hW) ?_ | refine W_load rfl (y1 W hW) ?_ | refine W_load rfl (y2 W hW) ?_ | refine W_load rfl (y3 W hW) ?_ | refine W_load rfl (y4 W hW) ?_ | refine W_load_agg rfl (by rfl) (ca W hW) ?_ | refine W_load_agg rfl (by rfl) (cb W hW) ?_ | refine W_load_agg rfl (by rfl) (x1 W hW) ?_ | refine W_load_agg rfl (by rfl) (x2 W hW) ?_ | refine W_load_agg rfl (by rfl) (x3 W hW) ?_ | refine W_load_agg rfl (by rfl) (y1 W hW) ?_ | refine W_load_agg rfl (by rfl) (y2 W hW) ?_ | refine W_load_agg rfl (by rfl) (y3 W hW) ?_ | refine W_load_agg rfl (by rfl) (y4 W hW) ?_)); exact W_nil ⟨rfl, rfl, rfl⟩)))
   <;> (first | refine D_skip rfl rfl rfl rfl ?_ | (apply D_R rfl rfl; (intro W hW; refine W_no rfl ?_; exact W_nil ⟨rfl, rfl, rfl⟩)) | (apply D_R rfl rfl; (intro W hW; (refine W_yes rfl ?_; (first | refine W_load rfl (ca W hW) ?_ | refine W_load rfl (cb W hW) ?_ | refine W_load rfl (x1 W hW) ?_ | refine W_load rfl (x2 W hW) ?_ | refine W_load rfl (x3 W hW) ?_ | refine W_load rfl (y1 W hW) ?_ | refine W_load rfl (y2 W hW) ?_ | refine W_load rfl (y3 W hW) ?_ | refine W_load rfl (y4 W hW) ?_ | refine W_load_agg rfl (by rfl) (ca W hW) ?_ | refine W_load_agg rfl (by rfl) (cb W hW) ?_ | refine W_load_agg rfl (by rfl) (x1 W hW) ?_ | refine W_load_agg rfl (by rfl) (x2 W hW) ?_ | refine W_load_agg rfl (by rfl) (x3 W hW) ?_ | refine W_load_agg rfl (by rfl) (y1 W hW) ?_ | refine W_load_agg rfl (by rfl) (y2 W hW) ?_ | refine W_load_agg rfl (by rfl) (y3 W hW) ?_ | refine W_load_agg rfl (by rfl) (y4 W hW) ?_)); exact W_nil ⟨rfl, rfl, rfl⟩)))
   <;> (first | refine D_skip rfl rfl rfl rfl ?_ | (apply D_R rfl rfl; (intro W hW; refine W_no rfl ?_; exact W_nil ⟨rfl, rfl, rfl⟩)) | (apply D_R rfl rfl; (intro W hW; (refine W_yes rfl ?_; (first | refine W_load rfl (ca W hW) ?_ | refine W_load rfl (cb W hW) ?_ | refine W_load rfl (x1 W hW) ?_ | refine W_load rfl (x2 W hW) ?_ | refine W_load rfl (x3 W hW) ?_ | refine W_load rfl (y1 W hW) ?_ | refine W_load rfl (y2 W hW) ?_ | refine W_load rfl (y3 W hW) ?_ | refine W_load rfl (y4 W hW) ?_ | refine W_load_agg rfl (by rfl) (ca W hW) ?_ | refine W_load_agg rfl (by rfl) (cb W hW) ?_ | refine W_load_agg rfl (by rfl) (x1 W hW) ?_ | refine W_load_agg rfl (by rfl) (x2 W hW) ?_ | refine W_load_agg rfl (by rfl) (x3 W hW) ?_ | refine W_load_agg rfl (by rfl) (y1 W hW) ?_ | refine W_load_agg rfl (by rfl) (y2 W hW) ?_ | refine W_load_agg rfl (by rfl) (y3 W hW) ?_ | refine W_load_agg rfl (by rfl) (y4 W hW) ?_)); exact W_nil ⟨rfl, rfl, rfl⟩))))
  -- at place 24, operation 9 of [9, 28]: <dst=(some 111) op=(call <callee=(value (func 20)) args=[(tmp 110)] argTypes=[9]>) type=9 guard=(some [7, true])>
  refine D_A rfl ?_ ?_
  · (refine W_yes rfl ?_; refine W_call (closed_ok v1 a (by omega)) rfl ?_)
    rintro _ wx ⟨rfl, hw⟩
    obtain rfl := hw.symm
    refine W_nil ⟨Ext wd, fun _ e => e, e1, ?_⟩
    (apply D_R rfl rfl; (intro W hW; (refine W_yes rfl ?_; refine W_sadd rfl rfl (by simp; omega) ?_); exact W_nil ⟨rfl, rfl, rfl⟩))
    refine D_A rfl ?_ ?_
    · (refine W_yes rfl ?_; refine W_call (closed_ok v1 b (by omega)) rfl ?_)
      rintro _ wx ⟨rfl, hw⟩
      obtain rfl := hw.symm
      refine W_nil ⟨Ext wd, fun _ e => e, e1, ?_⟩
      (apply D_R rfl rfl; (intro W hW; (refine W_yes rfl ?_; refine W_sadd rfl rfl (by simp; omega) ?_); exact W_nil ⟨rfl, rfl, rfl⟩))
      refine D_E rfl ?_
      (refine W_yes rfl ?_; refine W_buildSlice (out := [f0, f1, f2, f3, f4, g0, g1, g2, g3, g4]) rfl (by omega) (by rw [made10]; rfl) (fun v2 m2 => ?_))
      obtain ⟨S2, F2⟩ := FV.fresh (L := [[f0, f1, f2, f3, f4], [g0, g1, g2, g3, g4]]) m2 (FsAt.two (fF.ext e1) rfl (fH.ext e1) rfl) (by simp)
      have e2 := e1.trans m2.keep
      refine W_nil ⟨Ext wd, fun _ e => e, e2, ?_⟩
      ((first | refine D_skip rfl rfl rfl rfl ?_ | (apply D_R rfl rfl; (intro W hW; refine W_no rfl ?_; exact W_nil ⟨rfl, rfl, rfl⟩)) | (apply D_R rfl rfl; (intro W hW; (refine W_yes rfl ?_; refine W_build (by rfl) (by rfl) ?_); exact W_nil ⟨rfl, rfl, rfl⟩))))
      -- at place 30, operation 30: <dst=(some 132) op=(call <callee=(value (func 19)) args=[(tmp 119), (tmp 131)] argTypes=[9, 39]>) type=4 guard=(some [7, true])>
      refine D_E rfl ?_
      (refine W_yes rfl ?_; refine W_call (parses_ok v2 (closedT a ++ o.text ++ closedT b) _ ⟨o.op, [], o.val, 0, [f, g]⟩ (FAt.node o.op [] o.val 0 S2 F2) (hG.ext (kw.trans e2))) (by rw [← closedT_eq, ← closedT_eq]; rfl) ?_)
      rintro _ v3 ⟨bb, rfl, hb, e3⟩
      obtain rfl : bb = true := hb.2 (bin_law hom hmA hrA hmB hrB (by omega) (by omega) (by omega) (by omega))
      have e3 := e2.trans e3
      refine W_nil ⟨Ext wd, fun _ e => e, e3, ?_⟩
      ((apply D_R rfl rfl; (intro W hW; ((first | refine M_pick_t rfl ?_ | refine M_pick_f rfl ?_); (first | refine M_bool rfl ?_ | refine W_move ?_)); exact W_nil ⟨rfl, rfl, rfl⟩))
       <;> (apply D_R rfl rfl; (intro W hW; (first | refine M_bool rfl ?_ | refine W_move ?_); exact W_nil ⟨rfl, rfl, rfl⟩))
       <;> (first | refine D_skip rfl rfl rfl rfl ?_ | (apply D_R rfl rfl; (intro W hW; refine W_no rfl ?_; exact W_nil ⟨rfl, rfl, rfl⟩)) | (apply D_R rfl rfl; (intro W hW; (refine W_yes rfl ?_; (first | refine M_slice rfl ?_ | refine W_move ?_)); exact W_nil ⟨rfl, rfl, rfl⟩)))
       <;> (first | refine D_skip rfl rfl rfl rfl ?_ | (apply D_R rfl rfl; (intro W hW; refine W_no rfl ?_; exact W_nil ⟨rfl, rfl, rfl⟩)) | (apply D_R rfl rfl; (intro W hW; (refine W_yes rfl ?_; (first | refine M_int rfl ?_ | refine W_move ?_)); exact W_nil ⟨rfl, rfl, rfl⟩)))
       <;> (first | refine D_skip rfl rfl rfl rfl ?_ | (apply D_R rfl rfl; (intro W hW; refine W_no rfl ?_; exact W_nil ⟨rfl, rfl, rfl⟩)) | (apply D_R rfl rfl; (intro W hW; (refine W_yes rfl ?_; (first | refine W_idx1 rfl rfl rfl (by omega) ?_ | refine W_idx rfl rfl rfl (by omega) ?_ | refine W_indexAddr rfl rfl (by omega) (by omega) ?_)); exact W_nil ⟨rfl, rfl, rfl⟩)))
       <;> (first | refine D_skip rfl rfl rfl rfl ?_ | (apply D_R rfl rfl; (intro W hW; refine W_no rfl ?_; exact W_nil ⟨rfl, rfl, rfl⟩)) | (apply D_R rfl rfl; (intro W hW; (refine W_yes rfl ?_; (first | refine W_load rfl (ca W hW) ?_ | refine W_load rfl (cb W hW) ?_ | refine W_load rfl (x1 W hW) ?_ | refine W_load rfl (x2 W hW) ?_ | refine W_load rfl (x3 W hW) ?_ | refine W_load rfl (y1 W hW) ?_ | refine W_load rfl (y2 W hW) ?_ | refine W_load rfl (y3 W hW) ?_ | refine W_load rfl (y4 W hW) ?_ | refine W_load_agg rfl (by rfl) (ca W hW) ?_ | refine W_load_agg rfl (by rfl) (cb W hW) ?_ | refine W_load_agg rfl (by rfl) (x1 W hW) ?_ | refine W_load_agg rfl (by rfl) (x2 W hW) ?_ | refine W_load_agg rfl (by rfl) (x3 W hW) ?_ | refine W_load_agg rfl (by rfl) (y1 W hW) ?_ | refine W_load_agg rfl (by rfl) (y2 W hW) ?_ | refine W_load_agg rfl (by rfl) (y3 W hW) ?_ | refine W_load_agg rfl (by rfl) (y4 W hW) ?_)); exact W_nil ⟨rfl, rfl, rfl⟩)))
       <;> (first | refine D_skip rfl rfl rfl rfl ?_ | (apply D_R rfl rfl; (intro W hW; refine W_no rfl ?_; exact W_nil ⟨rfl, rfl, rfl⟩)) | (apply D_R rfl rfl; (intro W hW; (refine W_yes rfl ?_; (first | refine M_str rfl ?_ | refine W_move ?_)); exact W_nil ⟨rfl, rfl, rfl⟩)))
       <;> (first | refine D_skip rfl rfl rfl rfl ?_ | (apply D_R rfl rfl; (intro W hW; refine W_no rfl ?_; exact W_nil ⟨rfl, rfl, rfl⟩)) | (apply D_R rfl rfl; (intro W hW; (refine W_yes rfl ?_; (first | refine M_slice rfl ?_ | refine W_move ?_)); exact W_nil ⟨rfl, rfl, rfl⟩)))
       <;> (first | refine D_skip rfl rfl rfl rfl ?_ | (apply D_R rfl rfl; (intro W hW; refine W_no rfl ?_; exact W_nil ⟨rfl, rfl, rfl⟩)) | (apply D_R rfl rfl; (intro W hW; (refine W_yes rfl ?_; (first | refine M_int rfl ?_ | refine W_move ?_)); exact W_nil ⟨rfl, rfl, rfl⟩)))
       <;> (first | refine D_skip rfl rfl rfl rfl ?_ | (apply D_R rfl rfl; (intro W hW; refine W_no rfl ?_; exact W_nil ⟨rfl, rfl, rfl⟩)) | (apply D_R rfl rfl; (intro W hW; (refine W_yes rfl ?_; (first | refine W_idx1 rfl rfl rfl (by omega) ?_ | refine W_idx rfl rfl rfl (by omega) ?_ | refine W_indexAddr rfl rfl (by omega) (by omega) ?_)); exact W_nil ⟨rfl, rfl, rfl⟩)))
       <;> (first | refine D_skip rfl rfl rfl rfl ?_ | (apply D_R rfl rfl; (intro W hW; refine W_no rfl ?_; exact W_nil ⟨rfl, rfl, rfl⟩)) | (apply D_R rfl rfl; (intro W hW; (refine W_yes rfl ?_; (first | refine W_load rfl (ca W hW) ?_ | refine W_load rfl (cb W hW) ?_ | refine W_load rfl (x1 W hW) ?_ | refine W_load rfl (x2 W hW) ?_ | refine W_load rfl (x3 W hW) ?_ | refine W_load rfl (y1 W hW) ?_ | refine W_load rfl (y2 W hW) ?_ | refine W_load rfl (y3 W hW) ?_ | refine W_load rfl (y4 W hW) ?_ | refine W_load_agg rfl (by rfl) (ca W hW) ?_ | refine W_load_agg rfl (by rfl) (cb W hW) ?_ | refine W_load_agg rfl (by rfl) (x1 W hW) ?_ | refine W_load_agg rfl (by rfl) (x2 W hW) ?_ | refine W_load_agg rfl (by rfl) (x3 W hW) ?_ | refine W_load_agg rfl (by rfl) (y1 W hW) ?_ | refine W_load_agg rfl (by rfl) (y2 W hW) ?_ | refine W_load_agg rfl (by rfl) (y3 W hW) ?_ | refine W_load_agg rfl (by rfl) (y4 W hW) ?_)); exact W_nil ⟨rfl, rfl, rfl⟩)))
       <;> (first | refine D_skip rfl rfl rfl rfl ?_ | (apply D_R rfl rfl; (intro W hW; refine W_no rfl ?_; exact W_nil ⟨rfl, rfl, rfl⟩)) | (apply D_R rfl rfl; (intro W hW; (refine W_yes rfl ?_; (first | refine M_slice rfl ?_ | refine W_move ?_)); exact W_nil ⟨rfl, rfl, rfl⟩)))
       <;> (first | refine D_skip rfl rfl rfl rfl ?_ | (apply D_R rfl rfl; (intro W hW; refine W_no rfl ?_; exact W_nil ⟨rfl, rfl, rfl⟩)) | (apply D_R rfl rfl; (intro W hW; (refine W_yes rfl ?_; (first | refine M_int rfl ?_ | refine W_move ?_)); exact W_nil ⟨rfl, rfl, rfl⟩)))
       <;> (first | refine D_skip rfl rfl rfl rfl ?_ | (apply D_R rfl rfl; (intro W hW; refine W_no rfl ?_; exact W_nil ⟨rfl, rfl, rfl⟩)) | (apply D_R rfl rfl; (intro W hW; (refine W_yes rfl ?_; (first | refine W_idx1 rfl rfl rfl (by omega) ?_ | refine W_idx rfl rfl rfl (by omega) ?_ | refine W_indexAddr rfl rfl (by omega) (by omega) ?_)); exact W_nil ⟨rfl, rfl, rfl⟩)))
       <;> (first | refine D_skip rfl rfl rfl rfl ?_ | (apply D_R rfl rfl; (intro W hW; refine W_no rfl ?_; exact W_nil ⟨rfl, rfl, rfl⟩)) | (apply D_R rfl rfl; (intro W hW; (refine W_yes rfl ?_; (first | refine W_load rfl (ca W hW) ?_ | refine W_load rfl (cb W hW) ?_ | refine W_load rfl (x1 W hW) ?_ | refine W_load rfl (x2 W hW) ?_ | refine W_load rfl (x3 W hW) ?_ | refine W_load rfl (y1 W hW) ?_ | refine W_load rfl (y2 W hW) ?_ | refine W_load rfl (y3 W hW) ?_ | refine W_load rfl (y4 W hW) ?_ | refine W_load_agg rfl (by rfl) (ca W hW) ?_ | refine W_load_agg rfl (by rfl) (cb W hW) ?_ | refine W_load_agg rfl (by rfl) (x1 W hW) ?_ | refine W_load_agg rfl (by rfl) (x2 W hW) ?_ | refine W_load_agg rfl (by rfl) (x3 W hW) ?_ | refine W_load_agg rfl (by rfl) (y1 W hW) ?_ | refine W_load_agg rfl (by rfl) (y2 W hW) ?_ | refine W_load_agg rfl (by rfl) (y3 W hW) ?_ | refine W_load_agg rfl (by rfl) (y4 W hW) ?_)); exact W_nil ⟨rfl, rfl, rfl⟩)))
       <;> (first | refine D_skip rfl rfl rfl rfl ?_ | (apply D_R rfl rfl; (intro W hW; refine W_no rfl ?_; exact W_nil ⟨rfl, rfl, rfl⟩)) | (apply D_R rfl rfl; (intro W hW; (refine W_yes rfl ?_; (first | refine M_slice rfl ?_ | refine W_move ?_)); exact W_nil ⟨rfl, rfl, rfl⟩)))
       <;> (first | refine D_skip rfl rfl rfl rfl ?_ | (apply D_R rfl rfl; (intro W hW; refine W_no rfl ?_; exact W_nil ⟨rfl, rfl, rfl⟩)) | (apply D_R rfl rfl; (intro W hW; (refine W_yes rfl ?_; (first | refine M_int rfl ?_ | refine W_move ?_)); exact W_nil ⟨rfl, rfl, rfl⟩)))
       <;> (first | refine D_skip rfl rfl rfl rfl ?_ | (apply D_R rfl rfl; (intro W hW; refine W_no rfl ?_; exact W_nil ⟨rfl, rfl, rfl⟩)) | (apply D_R rfl rfl; (intro W hW; (refine W_yes rfl ?_; (first | refine W_idx1 rfl rfl rfl (by omega) ?_ | refine W_idx rfl rfl rfl (by omega) ?_ | refine W_indexAddr rfl rfl (by omega) (by omega) ?_)); exact W_nil ⟨rfl, rfl, rfl⟩)))
       <;> (first | refine D_skip rfl rfl rfl rfl ?_ | (apply D_R rfl rfl; (intro W hW; refine W_no rfl ?_; exact W_nil ⟨rfl, rfl, rfl⟩)) | (apply D_R rfl rfl; (intro W hW; (refine W_yes rfl ?_; (first | refine W_load rfl (ca W hW) ?_ | refine W_load rfl (cb W hW) ?_ | refine W_load rfl (x1 W hW) ?_ | refine W_load rfl (x2 W hW) ?_ | refine W_load rfl (x3 W hW) ?_ | refine W_load rfl (y1 W hW) ?_ | refine W_load rfl (y2 W hW) ?_ | refine W_load rfl (y3 W hW) ?_ | refine W_load rfl (y4 W hW) ?_ | refine W_load_agg rfl (by rfl) (ca W hW) ?_ | refine W_load_agg rfl (by rfl) (cb W hW) ?_ | refine W_load_agg rfl (by rfl) (x1 W hW) ?_ | refine W_load_agg rfl (by rfl) (x2 W hW) ?_ | refine W_load_agg rfl (by rfl) (x3 W hW) ?_ | refine W_load_agg rfl (by rfl) (y1 W hW) ?_ | refine W_load_agg rfl (by rfl) (y2 W hW) ?_ | refine W_load_agg rfl (by rfl) (y3 W hW) ?_ | refine W_load_agg rfl (by rfl) (y4 W hW) ?_)); exact W_nil ⟨rfl, rfl, rfl⟩)))
       <;> (first | refine D_skip rfl rfl rfl rfl ?_ | (apply D_R rfl rfl; (intro W hW; refine W_no rfl ?_; exact W_nil ⟨rfl, rfl, rfl⟩)) | (apply D_R rfl rfl; (intro W hW; (refine W_yes rfl ?_; (first | refine W_load rfl (ca W hW) ?_ | refine W_load rfl (cb W hW) ?_ | refine W_load rfl (x1 W hW) ?_ | refine W_load rfl (x2 W hW) ?_ | refine W_load rfl (x3 W hW) ?_ | refine W_load rfl (y1 W hW) ?_ | refine W_load rfl (y2 W hW) ?_ | refine W_load rfl (y3 W hW) ?_ | refine W_load rfl (y4 W hW) ?_ | refine W_load_agg rfl (by rfl) (ca W hW) ?_ | refine W_load_agg rfl (by rfl) (cb W hW) ?_ | refine W_load_agg rfl (by rfl) (x1 W hW) ?_ | refine W_load_agg rfl (by rfl) (x2 W hW) ?_ | refine W_load_agg rfl (by rfl) (x3 W hW) ?_ | refine W_load_agg rfl (by rfl) (y1 W hW) ?_ | refine W_load_agg rfl (by rfl) (y2 W hW) ?_ | refine W_load_agg rfl (by rfl) (y3 W hW) ?_ | refine W_load_agg rfl (by rfl) (y4 W hW) ?_)); exact W_nil ⟨rfl, rfl, rfl⟩))))
      -- at place 51, operation 38 of [38, 53]: <dst=(some 140) op=(call <callee=(value (func 20)) args=[(tmp 139)] argTypes=[9]>) type=9 guard=(some [32, true])>
      refine D_A rfl ?_ ?_
      · (refine W_yes rfl ?_; refine W_call (closed_ok v3 a (by omega)) rfl ?_)
        rintro _ wx ⟨rfl, hw⟩
        obtain rfl := hw.symm
        refine W_nil ⟨Ext wd, fun _ e => e, e3, ?_⟩
        (apply D_R rfl rfl; (intro W hW; (refine W_yes rfl ?_; refine W_sadd rfl rfl (by simp; omega) ?_); exact W_nil ⟨rfl, rfl, rfl⟩))
        refine D_E rfl ?_
        (refine W_yes rfl ?_; refine W_buildSlice (out := [f0, f1, f2, f3, f4]) rfl (by omega) (by rw [made5]; rfl) (fun v4 m4 => ?_))
        obtain ⟨S4, F4⟩ := FV.fresh (L := [[f0, f1, f2, f3, f4]]) m4 (FsAt.one (fF.ext e3) rfl) (by simp)
        have e4 := e3.trans m4.keep
        refine W_nil ⟨Ext wd, fun _ e => e, e4, ?_⟩
        ((first | refine D_skip rfl rfl rfl rfl ?_ | (apply D_R rfl rfl; (intro W hW; refine W_no rfl ?_; exact W_nil ⟨rfl, rfl, rfl⟩)) | (apply D_R rfl rfl; (intro W hW; (refine W_yes rfl ?_; refine W_build (by rfl) (by rfl) ?_); exact W_nil ⟨rfl, rfl, rfl⟩))))
        -- at place 55, operation 55: <dst=(some 157) op=(call <callee=(value (func 19)) args=[(tmp 141), (tmp 156)] argTypes=[9, 39]>) type=4 guard=(some [32, true])>
        refine D_E rfl ?_
        (refine W_yes rfl ?_; refine W_call (parses_ok v4 (u.text ++ closedT a) _ ⟨u.op, [], u.val, u.bound, [f]⟩ (FAt.node u.op [] u.val u.bound S4 F4) (hG.ext (kw.trans e4))) (by rw [← closedT_eq]; rfl) ?_)
        rintro _ v5 ⟨bb, rfl, hb, e5⟩
        obtain rfl : bb = true := hb.2 (una_law hum hmA hrA (by omega) (by omega))
        have e5 := e4.trans e5
        refine W_nil ⟨Ext wd, fun _ e => e, e5, ?_⟩
        ((apply D_R rfl rfl; (intro W hW; ((first | refine M_pick_t rfl ?_ | refine M_pick_f rfl ?_); (first | refine M_bool rfl ?_ | refine W_move ?_)); exact W_nil ⟨rfl, rfl, rfl⟩))
         <;> (apply D_R rfl rfl; (intro W hW; (refine M_assign ?_; (first | refine M_bool rfl ?_ | refine W_move ?_)); exact W_nil ⟨rfl, rfl, rfl⟩))
         <;> refine D_nil ?_)
        repeat' first | refine nx ?_ | refine C_cond_t rfl ?_ | refine C_cond_f rfl ?_ | refine Q_block_on rfl ?_
        exact fin_ret1 rfl ⟨rfl, kw.trans e5⟩
      · refine D_E rfl ?_
        (refine W_yes rfl ?_; refine W_buildSlice (out := [f0, f1, f2, f3, f4]) rfl (by omega) (by rw [made5]; rfl) (fun v4 m4 => ?_))
        obtain ⟨S4, F4⟩ := FV.fresh (L := [[f0, f1, f2, f3, f4]]) m4 (FsAt.one (fF.ext e3) rfl) (by simp)
        have e4 := e3.trans m4.keep
        refine W_nil ⟨Ext wd, fun _ e => e, e4, ?_⟩
        ((first | refine D_skip rfl rfl rfl rfl ?_ | (apply D_R rfl rfl; (intro W hW; refine W_no rfl ?_; exact W_nil ⟨rfl, rfl, rfl⟩)) | (apply D_R rfl rfl; (intro W hW; (refine W_yes rfl ?_; refine W_build (by rfl) (by rfl) ?_); exact W_nil ⟨rfl, rfl, rfl⟩))))
        -- at place 55, operation 55: <dst=(some 157) op=(call <callee=(value (func 19)) args=[(tmp 141), (tmp 156)] argTypes=[9, 39]>) type=4 guard=(some [32, true])>
        refine D_E rfl ?_
        (refine W_yes rfl ?_; refine W_call (closed_ok v4 a (by omega)) rfl ?_)
        rintro _ wx ⟨rfl, hw⟩
        obtain rfl := hw.symm
        refine W_nil ⟨Ext wd, fun _ e => e, e4, ?_⟩
        (apply D_R rfl rfl; (intro W hW; (refine W_yes rfl ?_; refine W_sadd rfl rfl (by simp; omega) ?_); exact W_nil ⟨rfl, rfl, rfl⟩))
        refine D_E rfl ?_
        (refine W_yes rfl ?_; refine W_call (parses_ok v4 (u.text ++ closedT a) _ ⟨u.op, [], u.val, u.bound, [f]⟩ (FAt.node u.op [] u.val u.bound S4 F4) (hG.ext (kw.trans e4))) (by rw [← closedT_eq]; rfl) ?_)
        rintro _ v5 ⟨bb, rfl, hb, e5⟩
        obtain rfl : bb = true := hb.2 (una_law hum hmA hrA (by omega) (by omega))
        have e5 := e4.trans e5
        refine W_nil ⟨Ext wd, fun _ e => e, e5, ?_⟩
        ((apply D_R rfl rfl; (intro W hW; ((first | refine M_pick_t rfl ?_ | refine M_pick_f rfl ?_); (first | refine M_bool rfl ?_ | refine W_move ?_)); exact W_nil ⟨rfl, rfl, rfl⟩))
         <;> (apply D_R rfl rfl; (intro W hW; (refine M_assign ?_; (first | refine M_bool rfl ?_ | refine W_move ?_)); exact W_nil ⟨rfl, rfl, rfl⟩))
         <;> refine D_nil ?_)
        repeat' first | refine nx ?_ | refine C_cond_t rfl ?_ | refine C_cond_f rfl ?_ | refine Q_block_on rfl ?_
        exact fin_ret1 rfl ⟨rfl, kw.trans e5⟩
    · refine D_E rfl ?_
      (refine W_yes rfl ?_; refine W_buildSlice (out := [f0, f1, f2, f3, f4, g0, g1, g2, g3, g4]) rfl (by omega) (by rw [made10]; rfl) (fun v2 m2 => ?_))
      obtain ⟨S2, F2⟩ := FV.fresh (L := [[f0, f1, f2, f3, f4], [g0, g1, g2, g3, g4]]) m2 (FsAt.two (fF.ext e1) rfl (fH.ext e1) rfl) (by simp)
      have e2 := e1.trans m2.keep
      refine W_nil ⟨Ext wd, fun _ e => e, e2, ?_⟩
      ((first | refine D_skip rfl rfl rfl rfl ?_ | (apply D_R rfl rfl; (intro W hW; refine W_no rfl ?_; exact W_nil ⟨rfl, rfl, rfl⟩)) | (apply D_R rfl rfl; (intro W hW; (refine W_yes rfl ?_; refine W_build (by rfl) (by rfl) ?_); exact W_nil ⟨rfl, rfl, rfl⟩))))
      -- at place 30, operation 30: <dst=(some 132) op=(call <callee=(value (func 19)) args=[(tmp 119), (tmp 131)] argTypes=[9, 39]>) type=4 guard=(some [7, true])>
      refine D_E rfl ?_
      (refine W_yes rfl ?_; refine W_call (closed_ok v2 b (by omega)) rfl ?_)
      rintro _ wx ⟨rfl, hw⟩
      obtain rfl := hw.symm
      refine W_nil ⟨Ext wd, fun _ e => e, e2, ?_⟩
      (apply D_R rfl rfl; (intro W hW; (refine W_yes rfl ?_; refine W_sadd rfl rfl (by simp; omega) ?_); exact W_nil ⟨rfl, rfl, rfl⟩))
      refine D_E rfl ?_
      (refine W_yes rfl ?_; refine W_call (parses_ok v2 (closedT a ++ o.text ++ closedT b) _ ⟨o.op, [], o.val, 0, [f, g]⟩ (FAt.node o.op [] o.val 0 S2 F2) (hG.ext (kw.trans e2))) (by rw [← closedT_eq, ← closedT_eq]; rfl) ?_)
      rintro _ v3 ⟨bb, rfl, hb, e3⟩
      obtain rfl : bb = true := hb.2 (bin_law hom hmA hrA hmB hrB (by omega) (by omega) (by omega) (by omega))
      have e3 := e2.trans e3
      refine W_nil ⟨Ext wd, fun _ e => e, e3, ?_⟩
      ((apply D_R rfl rfl; (intro W hW; ((first | refine M_pick_t rfl ?_ | refine M_pick_f rfl ?_); (first | refine M_bool rfl ?_ | refine W_move ?_)); exact W_nil ⟨rfl, rfl, rfl⟩))
       <;> (apply D_R rfl rfl; (intro W hW; (first | refine M_bool rfl ?_ | refine W_move ?_); exact W_nil ⟨rfl, rfl, rfl⟩))
       <;> (first | refine D_skip rfl rfl rfl rfl ?_ | (apply D_R rfl rfl; (intro W hW; refine W_no rfl ?_; exact W_nil ⟨rfl, rfl, rfl⟩)) | (apply D_R rfl rfl; (intro W hW; (refine W_yes rfl ?_; (first | refine M_slice rfl ?_ | refine W_move ?_)); exact W_nil ⟨rfl, rfl, rfl⟩)))
       <;> (first | refine D_skip rfl rfl rfl rfl ?_ | (apply D_R rfl rfl; (intro W hW; refine W_no rfl ?_; exact W_nil ⟨rfl, rfl, rfl⟩)) | (apply D_R rfl rfl; (intro W hW; (refine W_yes rfl ?_; (first | refine M_int rfl ?_ | refine W_move ?_)); exact W_nil ⟨rfl, rfl, rfl⟩)))
       <;> (first | refine D_skip rfl rfl rfl rfl ?_ | (apply D_R rfl rfl; (intro W hW; refine W_no rfl ?_; exact W_nil ⟨rfl, rfl, rfl⟩)) | (apply D_R rfl rfl; (intro W hW; (refine W_yes rfl ?_; (first | refine W_idx1 rfl rfl rfl (by omega) ?_ | refine W_idx rfl rfl rfl (by omega) ?_ | refine W_indexAddr rfl rfl (by omega) (by omega) ?_)); exact W_nil ⟨rfl, rfl, rfl⟩)))
       <;> (first | refine D_skip rfl rfl rfl rfl ?_ | (apply D_R rfl rfl; (intro W hW; refine W_no rfl ?_; exact W_nil ⟨rfl, rfl, rfl⟩)) | (apply D_R rfl rfl; (intro W hW; (refine W_yes rfl ?_; (first | refine W_load rfl (ca W hW) ?_ | refine W_load rfl (cb W hW) ?_ | refine W_load rfl (x1 W hW) ?_ | refine W_load rfl (x2 W hW) ?_ | refine W_load rfl (x3 W hW) ?_ | refine W_load rfl (y1 W hW) ?_ | refine W_load rfl (y2 W hW) ?_ | refine W_load rfl (y3 W hW) ?_ | refine W_load rfl (y4 W hW) ?_ | refine W_load_agg rfl (by rfl) (ca W hW) ?_ | refine W_load_agg rfl (by rfl) (cb W hW) ?_ | refine W_load_agg rfl (by rfl) (x1 W hW) ?_ | refine W_load_agg rfl (by rfl) (x2 W hW) ?_ | refine W_load_agg rfl (by rfl) (x3 W hW) ?_ | refine W_load_agg rfl (by rfl) (y1 W hW) ?_ | refine W_load_agg rfl (by rfl) (y2 W hW) ?_ | refine W_load_agg rfl (by rfl) (y3 W hW) ?_ | refine W_load_agg rfl (by rfl) (y4 W hW) ?_)); exact W_nil ⟨rfl, rfl, rfl⟩)))
       <;> (first | refine D_skip rfl rfl rfl rfl ?_ | (apply D_R rfl rfl; (intro W hW; refine W_no rfl ?_; exact W_nil ⟨rfl, rfl, rfl⟩)) | (apply D_R rfl rfl; (intro W hW; (refine W_yes rfl ?_; (first | refine M_str rfl ?_ | refine W_move ?_)); exact W_nil ⟨rfl, rfl, rfl⟩)))
       <;> (first | refine D_skip rfl rfl rfl rfl ?_ | (apply D_R rfl rfl; (intro W hW; refine W_no rfl ?_; exact W_nil ⟨rfl, rfl, rfl⟩)) | (apply D_R rfl rfl; (intro W hW; (refine W_yes rfl ?_; (first | refine M_slice rfl ?_ | refine W_move ?_)); exact W_nil ⟨rfl, rfl, rfl⟩)))
       <;> (first | refine D_skip rfl rfl rfl rfl ?_ | (apply D_R rfl rfl; (intro W hW; refine W_no rfl ?_; exact W_nil ⟨rfl, rfl, rfl⟩)) | (apply D_R rfl rfl; (intro W hW; (refine W_yes rfl ?_; (first | refine M_int rfl ?_ | refine W_move ?_)); exact W_nil ⟨rfl, rfl, rfl⟩)))
       <;> (first | refine D_skip rfl rfl rfl rfl ?_ | (apply D_R rfl rfl; (intro W hW; refine W_no rfl ?_; exact W_nil ⟨rfl, rfl, rfl⟩)) | (apply D_R rfl rfl; (intro W hW; (refine W_yes rfl ?_; (first | refine W_idx1 rfl rfl rfl (by omega) ?_ | refine W_idx rfl rfl rfl (by omega) ?_ | refine W_indexAddr rfl rfl (by omega) (by omega) ?_)); exact W_nil ⟨rfl, rfl, rfl⟩)))
       <;> (first | refine D_skip rfl rfl rfl rfl ?_ | (apply D_R rfl rfl; (intro W hW; refine W_no rfl ?_; exact W_nil ⟨rfl, rfl, rfl⟩)) | (apply D_R rfl rfl; (intro W hW; (refine W_yes rfl ?_; (first | refine W_load rfl (ca W hW) ?_ | refine W_load rfl (cb W hW) ?_ | refine W_load rfl (x1 W hW) ?_ | refine W_load rfl (x2 W hW) ?_ | refine W_load rfl (x3 W hW) ?_ | refine W_load rfl (y1 W hW) ?_ | refine W_load rfl (y2 W hW) ?_ | refine W_load rfl (y3 W hW) ?_ | refine W_load rfl (y4 W hW) ?_ | refine W_load_agg rfl (by rfl) (ca W hW) ?_ | refine W_load_agg rfl (by rfl) (cb W hW) ?_ | refine W_load_agg rfl (by rfl) (x1 W hW) ?_ | refine W_load_agg rfl (by rfl) (x2 W hW) ?_ | refine W_load_agg rfl (by rfl) (x3 W hW) ?_ | refine W_load_agg rfl (by rfl) (y1 W hW) ?_ | refine W_load_agg rfl (by rfl) (y2 W hW) ?_ | refine W_load_agg rfl (by rfl) (y3 W hW) ?_ | refine W_load_agg rfl (by rfl) (y4 W hW) ?_)); exact W_nil ⟨rfl, rfl, rfl⟩)))
       <;> (first | refine D_skip rfl rfl rfl rfl ?_ | (apply D_R rfl rfl; (intro W hW; refine W_no rfl ?_; exact W_nil ⟨rfl, rfl, rfl⟩)) | (apply D_R rfl rfl; (intro W hW; (refine W_yes rfl ?_; (first | refine M_slice rfl ?_ | refine W_move ?_)); exact W_nil ⟨rfl, rfl, rfl⟩)))
       <;> (first | refine D_skip rfl rfl rfl rfl ?_ | (apply D_R rfl rfl; (intro W hW; refine W_no rfl ?_; exact W_nil ⟨rfl, rfl, rfl⟩)) | (apply D_R rfl rfl; (intro W hW; (refine W_yes rfl ?_; (first | refine M_int rfl ?_ | refine W_move ?_)); exact W_nil ⟨rfl, rfl, rfl⟩)))
       <;> (first | refine D_skip rfl rfl rfl rfl ?_ | (apply D_R rfl rfl; (intro W hW; refine W_no rfl ?_; exact W_nil ⟨rfl, rfl, rfl⟩)) | (apply D_R rfl rfl; (intro W hW; (refine W_yes rfl ?_; (first | refine W_idx1 rfl rfl rfl (by omega) ?_ | refine W_idx rfl rfl rfl (by omega) ?_ | refine W_indexAddr rfl rfl (by omega) (by omega) ?_)); exact W_nil ⟨rfl, rfl, rfl⟩)))
       <;> (first | refine D_skip rfl rfl rfl rfl ?_ | (apply D_R rfl rfl; (intro W hW; refine W_no rfl ?_; exact W_nil ⟨rfl, rfl, rfl⟩)) | (apply D_R rfl rfl; (intro W hW; (refine W_yes rfl ?_; (first | refine W_load rfl (ca W hW) ?_ | refine W_load rfl (cb W hW) ?_ | refine W_load rfl (x1 W hW) ?_ | refine W_load rfl (x2 W hW) ?_ | refine W_load rfl (x3 W hW) ?_ | refine W_load rfl (y1 W hW) ?_ | refine W_load rfl (y2 W hW) ?_ | refine W_load rfl (y3 W hW) ?_ | refine W_load rfl (y4 W hW) ?_ | refine W_load_agg rfl (by rfl) (ca W hW) ?_ | refine W_load_agg rfl (by rfl) (cb W hW) ?_ | refine W_load_agg rfl (by rfl) (x1 W hW) ?_ | refine W_load_agg rfl (by rfl) (x2 W hW) ?_ | refine W_load_agg rfl (by rfl) (x3 W hW) ?_ | refine W_load_agg rfl (by rfl) (y1 W hW) ?_ | refine W_load_agg rfl (by rfl) (y2 W hW) ?_ | refine W_load_agg rfl (by rfl) (y3 W hW) ?_ | refine W_load_agg rfl (by rfl) (y4 W hW) ?_)); exact W_nil ⟨rfl, rfl, rfl⟩)))
       <;> (first | refine D_skip rfl rfl rfl rfl ?_ | (apply D_R rfl rfl; (intro W hW; refine W_no rfl ?_; exact W_nil ⟨rfl, rfl, rfl⟩)) | (apply D_R rfl rfl; (intro W hW; (refine W_yes rfl ?_; (first | refine M_slice rfl ?_ | refine W_move ?_)); exact W_nil ⟨rfl, rfl, rfl⟩)))
       <;> (first | refine D_skip rfl rfl rfl rfl ?_ | (apply D_R rfl rfl; (intro W hW; refine W_no rfl ?_; exact W_nil ⟨rfl, rfl, rfl⟩)) | (apply D_R rfl rfl; (intro W hW; (refine W_yes rfl ?_; (first | refine M_int rfl ?_ | refine W_move ?_)); exact W_nil ⟨rfl, rfl, rfl⟩)))
       <;> (first | refine D_skip rfl rfl rfl rfl ?_ | (apply D_R rfl rfl; (intro W hW; refine W_no rfl ?_; exact W_nil ⟨rfl, rfl, rfl⟩)) | (apply D_R rfl rfl; (intro W hW; (refine W_yes rfl ?_; (first | refine W_idx1 rfl rfl rfl (by omega) ?_ | refine W_idx rfl rfl rfl (by omega) ?_ | refine W_indexAddr rfl rfl (by omega) (by omega) ?_)); exact W_nil ⟨rfl, rfl, rfl⟩)))
       <;> (first | refine D_skip rfl rfl rfl rfl ?_ | (apply D_R rfl rfl; (intro W hW; refine W_no rfl ?_; exact W_nil ⟨rfl, rfl, rfl⟩)) | (apply D_R rfl rfl; (intro W hW; (refine W_yes rfl ?_; (first | refine W_load rfl (ca W hW) ?_ | refine W_load rfl (cb W hW) ?_ | refine W_load rfl (x1 W hW) ?_ | refine W_load rfl (x2 W hW) ?_ | refine W_load rfl (x3 W hW) ?_ | refine W_load rfl (y1 W hW) ?_ | refine W_load rfl (y2 W hW) ?_ | refine W_load rfl (y3 W hW) ?_ | refine W_load rfl (y4 W hW) ?_ | refine W_load_agg rfl (by rfl) (ca W hW) ?_ | refine W_load_agg rfl (by rfl) (cb W hW) ?_ | refine W_load_agg rfl (by rfl) (x1 W hW) ?_ | refine W_load_agg rfl (by rfl) (x2 W hW) ?_ | refine W_load_agg rfl (by rfl) (x3 W hW) ?_ | refine W_load_agg rfl (by rfl) (y1 W hW) ?_ | refine W_load_agg rfl (by rfl) (y2 W hW) ?_ | refine W_load_agg rfl (by rfl) (y3 W hW) ?_ | refine W_load_agg rfl (by rfl) (y4 W hW) ?_)); exact W_nil ⟨rfl, rfl, rfl⟩)))
       <;> (first | refine D_skip rfl rfl rfl rfl ?_ | (apply D_R rfl rfl; (intro W hW; refine W_no rfl ?_; exact W_nil ⟨rfl, rfl, rfl⟩)) | (apply D_R rfl rfl; (intro W hW; (refine W_yes rfl ?_; (first | refine W_load rfl (ca W hW) ?_ | refine W_load rfl (cb W hW) ?_ | refine W_load rfl (x1 W hW) ?_ | refine W_load rfl (x2 W hW) ?_ | refine W_load rfl (x3 W hW) ?_ | refine W_load rfl (y1 W hW) ?_ | refine W_load rfl (y2 W hW) ?_ | refine W_load rfl (y3 W hW) ?_ | refine W_load rfl (y4 W hW) ?_ | refine W_load_agg rfl (by rfl) (ca W hW) ?_ | refine W_load_agg rfl (by rfl) (cb W hW) ?_ | refine W_load_agg rfl (by rfl) (x1 W hW) ?_ | refine W_load_agg rfl (by rfl) (x2 W hW) ?_ | refine W_load_agg rfl (by rfl) (x3 W hW) ?_ | refine W_load_agg rfl (by rfl) (y1 W hW) ?_ | refine W_load_agg rfl (by rfl) (y2 W hW) ?_ | refine W_load_agg rfl (by rfl) (y3 W hW) ?_ | refine W_load_agg rfl (by rfl) (y4 W hW) ?_)); exact W_nil ⟨rfl, rfl, rfl⟩))))
      -- at place 51, operation 38 of [38, 53]: <dst=(some 140) op=(call <callee=(value (func 20)) args=[(tmp 139)] argTypes=[9]>) type=9 guard=(some [32, true])>
      refine D_A rfl ?_ ?_
      · (refine W_yes rfl ?_; refine W_call (closed_ok v3 a (by omega)) rfl ?_)
        rintro _ wx ⟨rfl, hw⟩
        obtain rfl := hw.symm
        refine W_nil ⟨Ext wd, fun _ e => e, e3, ?_⟩
        (apply D_R rfl rfl; (intro W hW; (refine W_yes rfl ?_; refine W_sadd rfl rfl (by simp; omega) ?_); exact W_nil ⟨rfl, rfl, rfl⟩))
        refine D_E rfl ?_
        (refine W_yes rfl ?_; refine W_buildSlice (out := [f0, f1, f2, f3, f4]) rfl (by omega) (by rw [made5]; rfl) (fun v4 m4 => ?_))
        obtain ⟨S4, F4⟩ := FV.fresh (L := [[f0, f1, f2, f3, f4]]) m4 (FsAt.one (fF.ext e3) rfl) (by simp)
        have e4 := e3.trans m4.keep
        refine W_nil ⟨Ext wd, fun _ e => e, e4, ?_⟩
        ((first | refine D_skip rfl rfl rfl rfl ?_ | (apply D_R rfl rfl; (intro W hW; refine W_no rfl ?_; exact W_nil ⟨rfl, rfl, rfl⟩)) | (apply D_R rfl rfl; (intro W hW; (refine W_yes rfl ?_; refine W_build (by rfl) (by rfl) ?_); exact W_nil ⟨rfl, rfl, rfl⟩))))
        -- at place 55, operation 55: <dst=(some 157) op=(call <callee=(value (func 19)) args=[(tmp 141), (tmp 156)] argTypes=[9, 39]>) type=4 guard=(some [32, true])>
        refine D_E rfl ?_
        (refine W_yes rfl ?_; refine W_call (parses_ok v4 (u.text ++ closedT a) _ ⟨u.op, [], u.val, u.bound, [f]⟩ (FAt.node u.op [] u.val u.bound S4 F4) (hG.ext (kw.trans e4))) (by rw [← closedT_eq]; rfl) ?_)
        rintro _ v5 ⟨bb, rfl, hb, e5⟩
        obtain rfl : bb = true := hb.2 (una_law hum hmA hrA (by omega) (by omega))
        have e5 := e4.trans e5
        refine W_nil ⟨Ext wd, fun _ e => e, e5, ?_⟩
        ((apply D_R rfl rfl; (intro W hW; ((first | refine M_pick_t rfl ?_ | refine M_pick_f rfl ?_); (first | refine M_bool rfl ?_ | refine W_move ?_)); exact W_nil ⟨rfl, rfl, rfl⟩))
         <;> (apply D_R rfl rfl; (intro W hW; (refine M_assign ?_; (first | refine M_bool rfl ?_ | refine W_move ?_)); exact W_nil ⟨rfl, rfl, rfl⟩))
         <;> refine D_nil ?_)
        repeat' first | refine nx ?_ | refine C_cond_t rfl ?_ | refine C_cond_f rfl ?_ | refine Q_block_on rfl ?_
        exact fin_ret1 rfl ⟨rfl, kw.trans e5⟩
      · refine D_E rfl ?_
        (refine W_yes rfl ?_; refine W_buildSlice (out := [f0, f1, f2, f3, f4]) rfl (by omega) (by rw [made5]; rfl) (fun v4 m4 => ?_))
        obtain ⟨S4, F4⟩ := FV.fresh (L := [[f0, f1, f2, f3, f4]]) m4 (FsAt.one (fF.ext e3) rfl) (by simp)
        have e4 := e3.trans m4.keep
        refine W_nil ⟨Ext wd, fun _ e => e, e4, ?_⟩
        ((first | refine D_skip rfl rfl rfl rfl ?_ | (apply D_R rfl rfl; (intro W hW; refine W_no rfl ?_; exact W_nil ⟨rfl, rfl, rfl⟩)) | (apply D_R rfl rfl; (intro W hW; (refine W_yes rfl ?_; refine W_build (by rfl) (by rfl) ?_); exact W_nil ⟨rfl, rfl, rfl⟩))))
        -- at place 55, operation 55: <dst=(some 157) op=(call <callee=(value (func 19)) args=[(tmp 141), (tmp 156)] argTypes=[9, 39]>) type=4 guard=(some [32, true])>
        refine D_E rfl ?_
        (refine W_yes rfl ?_; refine W_call (closed_ok v4 a (by omega)) rfl ?_)
        rintro _ wx ⟨rfl, hw⟩
        obtain rfl := hw.symm
        refine W_nil ⟨Ext wd, fun _ e => e, e4, ?_⟩
        (apply D_R rfl rfl; (intro W hW; (refine W_yes rfl ?_; refine W_sadd rfl rfl (by simp; omega) ?_); exact W_nil ⟨rfl, rfl, rfl⟩))
        refine D_E rfl ?_
        (refine W_yes rfl ?_; refine W_call (parses_ok v4 (u.text ++ closedT a) _ ⟨u.op, [], u.val, u.bound, [f]⟩ (FAt.node u.op [] u.val u.bound S4 F4) (hG.ext (kw.trans e4))) (by rw [← closedT_eq]; rfl) ?_)
        rintro _ v5 ⟨bb, rfl, hb, e5⟩
        obtain rfl : bb = true := hb.2 (una_law hum hmA hrA (by omega) (by omega))
        have e5 := e4.trans e5
        refine W_nil ⟨Ext wd, fun _ e => e, e5, ?_⟩
        ((apply D_R rfl rfl; (intro W hW; ((first | refine M_pick_t rfl ?_ | refine M_pick_f rfl ?_); (first | refine M_bool rfl ?_ | refine W_move ?_)); exact W_nil ⟨rfl, rfl, rfl⟩))
         <;> (apply D_R rfl rfl; (intro W hW; (refine M_assign ?_; (first | refine M_bool rfl ?_ | refine W_move ?_)); exact W_nil ⟨rfl, rfl, rfl⟩))
         <;> refine D_nil ?_)
        repeat' first | refine nx ?_ | refine C_cond_t rfl ?_ | refine C_cond_f rfl ?_ | refine Q_block_on rfl ?_
        exact fin_ret1 rfl ⟨rfl, kw.trans e5⟩
  · refine D_E rfl ?_
    (refine W_yes rfl ?_; refine W_buildSlice (out := [f0, f1, f2, f3, f4, g0, g1, g2, g3, g4]) rfl (by omega) (by rw [made10]; rfl) (fun v2 m2 => ?_))
    obtain ⟨S2, F2⟩ := FV.fresh (L := [[f0, f1, f2, f3, f4], [g0, g1, g2, g3, g4]]) m2 (FsAt.two (fF.ext e1) rfl (fH.ext e1) rfl) (by simp)
    have e2 := e1.trans m2.keep
    refine W_nil ⟨Ext wd, fun _ e => e, e2, ?_⟩
    ((first | refine D_skip rfl rfl rfl rfl ?_ | (apply D_R rfl rfl; (intro W hW; refine W_no rfl ?_; exact W_nil ⟨rfl, rfl, rfl⟩)) | (apply D_R rfl rfl; (intro W hW; (refine W_yes rfl ?_; refine W_build (by rfl) (by rfl) ?_); exact W_nil ⟨rfl, rfl, rfl⟩))))
    -- at place 30, operation 30: <dst=(some 132) op=(call <callee=(value (func 19)) args=[(tmp 119), (tmp 131)] argTypes=[9, 39]>) type=4 guard=(some [7, true])>
    refine D_E rfl ?_
    (refine W_yes rfl ?_; refine W_call (closed_ok v2 a (by omega)) rfl ?_)
    rintro _ wx ⟨rfl, hw⟩
    obtain rfl := hw.symm
    refine W_nil ⟨Ext wd, fun _ e => e, e2, ?_⟩
    (apply D_R rfl rfl; (intro W hW; (refine W_yes rfl ?_; refine W_sadd rfl rfl (by simp; omega) ?_); exact W_nil ⟨rfl, rfl, rfl⟩))
    refine D_E rfl ?_
    (refine W_yes rfl ?_; refine W_call (closed_ok v2 b (by omega)) rfl ?_)
    rintro _ wx ⟨rfl, hw⟩
    obtain rfl := hw.symm
    refine W_nil ⟨Ext wd, fun _ e => e, e2, ?_⟩
    (apply D_R rfl rfl; (intro W hW; (refine W_yes rfl ?_; refine W_sadd rfl rfl (by simp; omega) ?_); exact W_nil ⟨rfl, rfl, rfl⟩))
    refine D_E rfl ?_
    (refine W_yes rfl ?_; refine W_call (parses_ok v2 (closedT a ++ o.text ++ closedT b) _ ⟨o.op, [], o.val, 0, [f, g]⟩ (FAt.node o.op [] o.val 0 S2 F2) (hG.ext (kw.trans e2))) (by rw [← closedT_eq, ← closedT_eq]; rfl) ?_)
    rintro _ v3 ⟨bb, rfl, hb, e3⟩
    obtain rfl : bb = true := hb.2 (bin_law hom hmA hrA hmB hrB (by omega) (by omega) (by omega) (by omega))
    have e3 := e2.trans e3
    refine W_nil ⟨Ext wd, fun _ e => e, e3, ?_⟩
    ((apply D_R rfl rfl; (intro W hW; ((first | refine M_pick_t rfl ?_ | refine M_pick_f rfl ?_); (first | refine M_bool rfl ?_ | refine W_move ?_)); exact W_nil ⟨rfl, rfl, rfl⟩))
     <;> (apply D_R rfl rfl; (intro W hW; (first | refine M_bool rfl ?_ | refine W_move ?_); exact W_nil ⟨rfl, rfl, rfl⟩))
     <;> (first | refine D_skip rfl rfl rfl rfl ?_ | (apply D_R rfl rfl; (intro W hW; refine W_no rfl ?_; exact W_nil ⟨rfl, rfl, rfl⟩)) | (apply D_R rfl rfl; (intro W hW; (refine W_yes rfl ?_; (first | refine M_slice rfl ?_ | refine W_move ?_)); exact W_nil ⟨rfl, rfl, rfl⟩)))
     <;> (first | refine D_skip rfl rfl rfl rfl ?_ | (apply D_R rfl rfl; (intro W hW; refine W_no rfl ?_; exact W_nil ⟨rfl, rfl, rfl⟩)) | (apply D_R rfl rfl; (intro W hW; (refine W_yes rfl ?_; (first | refine M_int rfl ?_ | refine W_move ?_)); exact W_nil ⟨rfl, rfl, rfl⟩)))
     <;> (first | refine D_skip rfl rfl rfl rfl ?_ | (apply D_R rfl rfl; (intro W hW; refine W_no rfl ?_; exact W_nil ⟨rfl, rfl, rfl⟩)) | (apply D_R rfl rfl; (intro W hW; (refine W_yes rfl ?_; (first | refine W_idx1 rfl rfl rfl (by omega) ?_ | refine W_idx rfl rfl rfl (by omega) ?_ | refine W_indexAddr rfl rfl (by omega) (by omega) ?_)); exact W_nil ⟨rfl, rfl, rfl⟩)))
     <;> (first | refine D_skip rfl rfl rfl rfl ?_ | (apply D_R rfl rfl; (intro W hW; refine W_no rfl ?_; exact W_nil ⟨rfl, rfl, rfl⟩)) | (apply D_R rfl rfl; (intro W hW; (refine W_yes rfl ?_; (first | refine W_load rfl (ca W hW) ?_ | refine W_load rfl (cb W hW) ?_ | refine W_load rfl (x1 W hW) ?_ | refine W_load rfl (x2 W hW) ?_ | refine W_load rfl (x3 W hW) ?_ | refine W_load rfl (y1 W hW) ?_ | refine W_load rfl (y2 W hW) ?_ | refine W_load rfl (y3 W hW) ?_ | refine W_load rfl (y4 W hW) ?_ | refine W_load_agg rfl (by rfl) (ca W hW) ?_ | refine W_load_agg rfl (by rfl) (cb W hW) ?_ | refine W_load_agg rfl (by rfl) (x1 W hW) ?_ | refine W_load_agg rfl (by rfl) (x2 W hW) ?_ | refine W_load_agg rfl (by rfl) (x3 W hW) ?_ | refine W_load_agg rfl (by rfl) (y1 W hW) ?_ | refine W_load_agg rfl (by rfl) (y2 W hW) ?_ | refine W_load_agg rfl (by rfl) (y3 W hW) ?_ | refine W_load_agg rfl (by rfl) (y4 W hW) ?_)); exact W_nil ⟨rfl, rfl, rfl⟩)))
     <;> (first | refine D_skip rfl rfl rfl rfl ?_ | (apply D_R rfl rfl; (intro W hW; refine W_no rfl ?_; exact W_nil ⟨rfl, rfl, rfl⟩)) | (apply D_R rfl rfl; (intro W hW; (refine W_yes rfl ?_; (first | refine M_str rfl ?_ | refine W_move ?_)); exact W_nil ⟨rfl, rfl, rfl⟩)))
     <;> (first | refine D_skip rfl rfl rfl rfl ?_ | (apply D_R rfl rfl; (intro W hW; refine W_no rfl ?_; exact W_nil ⟨rfl, rfl, rfl⟩)) | (apply D_R rfl rfl; (intro W hW; (refine W_yes rfl ?_; (first | refine M_slice rfl ?_ | refine W_move ?_)); exact W_nil ⟨rfl, rfl, rfl⟩)))
     <;> (first | refine D_skip rfl rfl rfl rfl ?_ | (apply D_R rfl rfl; (intro W hW; refine W_no rfl ?_; exact W_nil ⟨rfl, rfl, rfl⟩)) | (apply D_R rfl rfl; (intro W hW; (refine W_yes rfl ?_; (first | refine M_int rfl ?_ | refine W_move ?_)); exact W_nil ⟨rfl, rfl, rfl⟩)))
     <;> (first | refine D_skip rfl rfl rfl rfl ?_ | (apply D_R rfl rfl; (intro W hW; refine W_no rfl ?_; exact W_nil ⟨rfl, rfl, rfl⟩)) | (apply D_R rfl rfl; (intro W hW; (refine W_yes rfl ?_; (first | refine W_idx1 rfl rfl rfl (by omega) ?_ | refine W_idx rfl rfl rfl (by omega) ?_ | refine W_indexAddr rfl rfl (by omega) (by omega) ?_)); exact W_nil ⟨rfl, rfl, rfl⟩)))
     <;> (first | refine D_skip rfl rfl rfl rfl ?_ | (apply D_R rfl rfl; (intro W hW; refine W_no rfl ?_; exact W_nil ⟨rfl, rfl, rfl⟩)) | (apply D_R rfl rfl; (intro W hW; (refine W_yes rfl ?_; (first | refine W_load rfl (ca W hW) ?_ | refine W_load rfl (cb W hW) ?_ | refine W_load rfl (x1 W hW) ?_ | refine W_load rfl (x2 W hW) ?_ | refine W_load rfl (x3 W hW) ?_ | refine W_load rfl (y1 W hW) ?_ | refine W_load rfl (y2 W hW) ?_ | refine W_load rfl (y3 W hW) ?_ | refine W_load rfl (y4 W hW) ?_ | refine W_load_agg rfl (by rfl) (ca W hW) ?_ | refine W_load_agg rfl (by rfl) (cb W hW) ?_ | refine W_load_agg rfl (by rfl) (x1 W hW) ?_ | refine W_load_agg rfl (by rfl) (x2 W hW) ?_ | refine W_load_agg rfl (by rfl) (x3 W hW) ?_ | refine W_load_agg rfl (by rfl) (y1 W hW) ?_ | refine W_load_agg rfl (by rfl) (y2 W hW) ?_ | refine W_load_agg rfl (by rfl) (y3 W hW) ?_ | refine W_load_agg rfl (by rfl) (y4 W hW) ?_)); exact W_nil ⟨rfl, rfl, rfl⟩)))
     <;> (first | refine D_skip rfl rfl rfl rfl ?_ | (apply D_R rfl rfl; (intro W hW; refine W_no rfl ?_; exact W_nil ⟨rfl, rfl, rfl⟩)) | (apply D_R rfl rfl; (intro W hW; (refine W_yes rfl ?_; (first | refine M_slice rfl ?_ | refine W_move ?_)); exact W_nil ⟨rfl, rfl, rfl⟩)))
     <;> (first | refine D_skip rfl rfl rfl rfl ?_ | (apply D_R rfl rfl; (intro W hW; refine W_no rfl ?_; exact W_nil ⟨rfl, rfl, rfl⟩)) | (apply D_R rfl rfl; (intro W hW; (refine W_yes rfl ?_; (first | refine M_int rfl ?_ | refine W_move ?_)); exact W_nil ⟨rfl, rfl, rfl⟩)))
     <;> (first | refine D_skip rfl rfl rfl rfl ?_ | (apply D_R rfl rfl; (intro W hW; refine W_no rfl ?_; exact W_nil ⟨rfl, rfl, rfl⟩)) | (apply D_R rfl rfl; (intro W hW; (refine W_yes rfl ?_; (first | refine W_idx1 rfl rfl rfl (by omega) ?_ | refine W_idx rfl rfl rfl (by omega) ?_ | refine W_indexAddr rfl rfl (by omega) (by omega) ?_)); exact W_nil ⟨rfl, rfl, rfl⟩)))
     <;> (first | refine D_skip rfl rfl rfl rfl ?_ | (apply D_R rfl rfl; (intro W hW; refine W_no rfl ?_; exact W_nil ⟨rfl, rfl, rfl⟩)) | (apply D_R rfl rfl; (intro W hW; (refine W_yes rfl ?_; (first | refine W_load rfl (ca W hW) ?_ | refine W_load rfl (cb W hW) ?_ | refine W_load rfl (x1 W hW) ?_ | refine W_load rfl (x2 W hW) ?_ | refine W_load rfl (x3 W hW) ?_ | refine W_load rfl (y1 W hW) ?_ | refine W_load rfl (y2 W hW) ?_ | refine W_load rfl (y3 W hW) ?_ | refine W_load rfl (y4 W hW) ?_ | refine W_load_agg rfl (by rfl) (ca W hW) ?_ | refine W_load_agg rfl (by rfl) (cb W hW) ?_ | refine W_load_agg rfl (by rfl) (x1 W hW) ?_ | refine W_load_agg rfl (by rfl) (x2 W hW) ?_ | refine W_load_agg rfl (by rfl) (x3 W hW) ?_ | refine W_load_agg rfl (by rfl) (y1 W hW) ?_ | refine W_load_agg rfl (by rfl) (y2 W hW) ?_ | refine W_load_agg rfl (by rfl) (y3 W hW) ?_ | refine W_load_agg rfl (by rfl) (y4 W hW) ?_)); exact W_nil ⟨rfl, rfl, rfl⟩)))
     <;> (first | refine D_skip rfl rfl rfl rfl ?_ | (apply D_R rfl rfl; (intro W hW; refine W_no rfl ?_; exact W_nil ⟨rfl, rfl, rfl⟩)) | (apply D_R rfl rfl; (intro W hW; (refine W_yes rfl ?_; (first | refine M_slice rfl ?_ | refine W_move ?_)); exact W_nil ⟨rfl, rfl, rfl⟩)))
     <;> (first | refine D_skip rfl rfl rfl rfl ?_ | (apply D_R rfl rfl; (intro W hW; refine W_no rfl ?_; exact W_nil ⟨rfl, rfl, rfl⟩)) | (apply D_R rfl rfl; (intro W hW; (refine W_yes rfl ?_; (first | refine M_int rfl ?_ | refine W_move ?_)); exact W_nil ⟨rfl, rfl, rfl⟩)))
     <;> (first | refine D_skip rfl rfl rfl rfl ?_ | (apply D_R rfl rfl; (intro W hW; refine W_no rfl ?_; exact W_nil ⟨rfl, rfl, rfl⟩)) | (apply D_R rfl rfl; (intro W hW; (refine W_yes rfl ?_; (first | refine W_idx1 rfl rfl rfl (by omega) ?_ | refine W_idx rfl rfl rfl (by omega) ?_ | refine W_indexAddr rfl rfl (by omega) (by omega) ?_)); exact W_nil ⟨rfl, rfl, rfl⟩)))
     <;> (first | refine D_skip rfl rfl rfl rfl ?_ | (apply D_R rfl rfl; (intro W hW; refine W_no rfl ?_; exact W_nil ⟨rfl, rfl, rfl⟩)) | (apply D_R rfl rfl; (intro W hW; (refine W_yes rfl ?_; (first | refine W_load rfl (ca W hW) ?_ | refine W_load rfl (cb W hW) ?_ | refine W_load rfl (x1 W hW) ?_ | refine W_load rfl (x2 W hW) ?_ | refine W_load rfl (x3 W hW) ?_ | refine W_load rfl (y1 W hW) ?_ | refine W_load rfl (y2 W hW) ?_ | refine W_load rfl (y3 W hW) ?_ | refine W_load rfl (y4 W hW) ?_ | refine W_load_agg rfl (by rfl) (ca W hW) ?_ | refine W_load_agg rfl (by rfl) (cb W hW) ?_ | refine W_load_agg rfl (by rfl) (x1 W hW) ?_ | refine W_load_agg rfl (by rfl) (x2 W hW) ?_ | refine W_load_agg rfl (by rfl) (x3 W hW) ?_ | refine W_load_agg rfl (by rfl) (y1 W hW) ?_ | refine W_load_agg rfl (by rfl) (y2 W hW) ?_ | refine W_load_agg rfl (by rfl) (y3 W hW) ?_ | refine W_load_agg rfl (by rfl) (y4 W hW) ?_)); exact W_nil ⟨rfl, rfl, rfl⟩)))
     <;> (first | refine D_skip rfl rfl rfl rfl ?_ | (apply D_R rfl rfl; (intro W hW; refine W_no rfl ?_; exact W_nil ⟨rfl, rfl, rfl⟩)) | (apply D_R rfl rfl; (intro W hW; (refine W_yes rfl ?_; (first | refine W_load rfl (ca W hW) ?_ | refine W_load rfl (cb W hW) ?_ | refine W_load rfl (x1 W hW) ?_ | refine W_load rfl (x2 W hW) ?_ | refine W_load rfl (x3 W hW) ?_ | refine W_load rfl (y1 W hW) ?_ | refine W_load rfl (y2 W hW) ?_ | refine W_load rfl (y3 W hW) ?_ | refine W_load rfl (y4 W hW) ?_ | refine W_load_agg rfl (by rfl) (ca W hW) ?_ | refine W_load_agg rfl (by rfl) (cb W hW) ?_ | refine W_load_agg rfl (by rfl) (x1 W hW) ?_ | refine W_load_agg rfl (by rfl) (x2 W hW) ?_ | refine W_load_agg rfl (by rfl) (x3 W hW) ?_ | refine W_load_agg rfl (by rfl) (y1 W hW) ?_ | refine W_load_agg rfl (by rfl) (y2 W hW) ?_ | refine W_load_agg rfl (by rfl) (y3 W hW) ?_ | refine W_load_agg rfl (by rfl) (y4 W hW) ?_)); exact W_nil ⟨rfl, rfl, rfl⟩))))
    -- at place 51, operation 38 of [38, 53]: <dst=(some 140) op=(call <callee=(value (func 20)) args=[(tmp 139)] argTypes=[9]>) type=9 guard=(some [32, true])>
    refine D_A rfl ?_ ?_
    · (refine W_yes rfl ?_; refine W_call (closed_ok v3 a (by omega)) rfl ?_)
      rintro _ wx ⟨rfl, hw⟩
      obtain rfl := hw.symm
      refine W_nil ⟨Ext wd, fun _ e => e, e3, ?_⟩
      (apply D_R rfl rfl; (intro W hW; (refine W_yes rfl ?_; refine W_sadd rfl rfl (by simp; omega) ?_); exact W_nil ⟨rfl, rfl, rfl⟩))
      refine D_E rfl ?_
      (refine W_yes rfl ?_; refine W_buildSlice (out := [f0, f1, f2, f3, f4]) rfl (by omega) (by rw [made5]; rfl) (fun v4 m4 => ?_))
      obtain ⟨S4, F4⟩ := FV.fresh (L := [[f0, f1, f2, f3, f4]]) m4 (FsAt.one (fF.ext e3) rfl) (by simp)
      have e4 := e3.trans m4.keep
      refine W_nil ⟨Ext wd, fun _ e => e, e4, ?_⟩
      ((first | refine D_skip rfl rfl rfl rfl ?_ | (apply D_R rfl rfl; (intro W hW; refine W_no rfl ?_; exact W_nil ⟨rfl, rfl, rfl⟩)) | (apply D_R rfl rfl; (intro W hW; (refine W_yes rfl ?_; refine W_build (by rfl) (by rfl) ?_); exact W_nil ⟨rfl, rfl, rfl⟩))))
      -- at place 55, operation 55: <dst=(some 157) op=(call <callee=(value (func 19)) args=[(tmp 141), (tmp 156)] argTypes=[9, 39]>) type=4 guard=(some [32, true])>
      refine D_E rfl ?_
      (refine W_yes rfl ?_; refine W_call (parses_ok v4 (u.text ++ closedT a) _ ⟨u.op, [], u.val, u.bound, [f]⟩ (FAt.node u.op [] u.val u.bound S4 F4) (hG.ext (kw.trans e4))) (by rw [← closedT_eq]; rfl) ?_)
      rintro _ v5 ⟨bb, rfl, hb, e5⟩
      obtain rfl : bb = true := hb.2 (una_law hum hmA hrA (by omega) (by omega))
      have e5 := e4.trans e5
      refine W_nil ⟨Ext wd, fun _ e => e, e5, ?_⟩
      ((apply D_R rfl rfl; (intro W hW; ((first | refine M_pick_t rfl ?_ | refine M_pick_f rfl ?_); (first | refine M_bool rfl ?_ | refine W_move ?_)); exact W_nil ⟨rfl, rfl, rfl⟩))
       <;> (apply D_R rfl rfl; (intro W hW; (refine M_assign ?_; (first | refine M_bool rfl ?_ | refine W_move ?_)); exact W_nil ⟨rfl, rfl, rfl⟩))
       <;> refine D_nil ?_)
      repeat' first | refine nx ?_ | refine C_cond_t rfl ?_ | refine C_cond_f rfl ?_ | refine Q_block_on rfl ?_
      exact fin_ret1 rfl ⟨rfl, kw.trans e5⟩
    · refine D_E rfl ?_
      (refine W_yes rfl ?_; refine W_buildSlice (out := [f0, f1, f2, f3, f4]) rfl (by omega) (by rw [made5]; rfl) (fun v4 m4 => ?_))
      obtain ⟨S4, F4⟩ := FV.fresh (L := [[f0, f1, f2, f3, f4]]) m4 (FsAt.one (fF.ext e3) rfl) (by simp)
      have e4 := e3.trans m4.keep
      refine W_nil ⟨Ext wd, fun _ e => e, e4, ?_⟩
      ((first | refine D_skip rfl rfl rfl rfl ?_ | (apply D_R rfl rfl; (intro W hW; refine W_no rfl ?_; exact W_nil ⟨rfl, rfl, rfl⟩)) | (apply D_R rfl rfl; (intro W hW; (refine W_yes rfl ?_; refine W_build (by rfl) (by rfl) ?_); exact W_nil ⟨rfl, rfl, rfl⟩))))
      -- at place 55, operation 55: <dst=(some 157) op=(call <callee=(value (func 19)) args=[(tmp 141), (tmp 156)] argTypes=[9, 39]>) type=4 guard=(some [32, true])>
      refine D_E rfl ?_
      (refine W_yes rfl ?_; refine W_call (closed_ok v4 a (by omega)) rfl ?_)
      rintro _ wx ⟨rfl, hw⟩
      obtain rfl := hw.symm
      refine W_nil ⟨Ext wd, fun _ e => e, e4, ?_⟩
      (apply D_R rfl rfl; (intro W hW; (refine W_yes rfl ?_; refine W_sadd rfl rfl (by simp; omega) ?_); exact W_nil ⟨rfl, rfl, rfl⟩))
      refine D_E rfl ?_
      (refine W_yes rfl ?_; refine W_call (parses_ok v4 (u.text ++ closedT a) _ ⟨u.op, [], u.val, u.bound, [f]⟩ (FAt.node u.op [] u.val u.bound S4 F4) (hG.ext (kw.trans e4))) (by rw [← closedT_eq]; rfl) ?_)
      rintro _ v5 ⟨bb, rfl, hb, e5⟩
      obtain rfl : bb = true := hb.2 (una_law hum hmA hrA (by omega) (by omega))
      have e5 := e4.trans e5
      refine W_nil ⟨Ext wd, fun _ e => e, e5, ?_⟩
      ((apply D_R rfl rfl; (intro W hW; ((first | refine M_pick_t rfl ?_ | refine M_pick_f rfl ?_); (first | refine M_bool rfl ?_ | refine W_move ?_)); exact W_nil ⟨rfl, rfl, rfl⟩))
       <;> (apply D_R rfl rfl; (intro W hW; (refine M_assign ?_; (first | refine M_bool rfl ?_ | refine W_move ?_)); exact W_nil ⟨rfl, rfl, rfl⟩))
       <;> refine D_nil ?_)
      repeat' first | refine nx ?_ | refine C_cond_t rfl ?_ | refine C_cond_f rfl ?_ | refine Q_block_on rfl ?_
      exact fin_ret1 rfl ⟨rfl, kw.trans e5⟩
end Go.Proofs.YtmnhnbpnjepkbaaGreatDoor
