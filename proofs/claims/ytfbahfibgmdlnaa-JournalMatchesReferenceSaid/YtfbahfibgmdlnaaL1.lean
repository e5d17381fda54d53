/- JournalMatchesReference: all functions answer as the reference implementation. Conditions: none. -/
import Derived.Test.YtfbahfibgmdlnaaL2
namespace Go.Proofs.Ytfbahfibgmdlnaa
open Go.RowKit
set_option linter.unusedVariables false

def decE : Option Ent → Ent
  | some e => e
  | none => zeroE
def decC : Option Ent → Int
  | some _ => 0
  | none => 380
theorem decV_eq (o : Option Ent) : decV o = .tuple #[entV (decE o), .int .i64 (decC o)] := by cases o <;> rfl

theorem Matches_law (e : Ent) (v1 v2 : Value) (l p : List UInt8) (w : World) (h : BytesAt anyB w v1 l) (hp : BytesAt anyB w v2 p) :
    Fn Try.prog 3 [entV e, v1, v2] w fun v w' => v = .bool true ∧ Ext w w' := by
  obtain ⟨ja, jc, rfl, _, _, _⟩ := id h
  obtain ⟨pa, pc, rfl, _, _, _⟩ := id hp
  refine fn_of_wc Try.func3 rfl Try.ntmps3 (Nat.le_of_ble_eq_true rfl) (by kernel_rfl) ?_
  repeat'
    first
      | refine Q_then ?_ | refine C_cond_t rfl ?_ | refine C_cond_f rfl ?_ | refine C_seq ?_ | refine C_block ?_ | refine C_skip ?_ | refine C_ret ?_ | refine C_exit ?_
      | refine Q_then_ret ?_ | refine Q_then_exit ?_ | refine Q_block ?_ | refine Q_block_ret ?_ | refine Q_block_here ?_ | refine Q_block_on rfl ?_ | refine C_scope ?_ | refine C_label ?_ | refine Q_asn ?_
  refine C_region ?_
  refine W_box (L := entL e) rfl (fun w1 n1 => ?_)
  have b1 : Blk w1 w.heap.size 23 (entL e) := n1.blk
  have k1 := n1.keep
  replace h := h.ext k1
  replace hp := hp.ext k1
  clear n1
  generalize w.heap.size = g1 at *
  ((refine M_assign ?_; (first | refine M_bool rfl ?_ | refine W_move ?_))
   <;> refine W_nil ?_)
  repeat'
    first
      | refine Q_then ?_ | refine C_cond_t rfl ?_ | refine C_cond_f rfl ?_ | refine C_seq ?_ | refine C_block ?_ | refine C_skip ?_ | refine C_ret ?_ | refine C_exit ?_
      | refine Q_then_ret ?_ | refine Q_then_exit ?_ | refine Q_block ?_ | refine Q_block_ret ?_ | refine Q_block_here ?_ | refine Q_block_on rfl ?_ | refine C_scope ?_ | refine C_label ?_ | refine Q_asn ?_
  (refine C_region ?_)
  -- at operation 0: <dst=(some 20) op=(call <callee=(value (func 10)) args=[] argTypes=[]>) type=4 guard=none>
  refine W_call (head_any _) rfl ?_
  rintro _ w2 ⟨rfl, k2⟩
  replace h := h.ext k2
  replace hp := hp.ext k2
  replace b1 := b1.keep k2 (by simp)
  replace k1 := k1.trans k2
  clear k2
  ((refine M_assign ?_; (first | refine M_bool rfl ?_ | refine W_move ?_))
   <;> refine W_nil ?_)
  repeat'
    first
      | refine Q_then ?_ | refine C_cond_t rfl ?_ | refine C_cond_f rfl ?_ | refine C_seq ?_ | refine C_block ?_ | refine C_skip ?_ | refine C_ret ?_ | refine C_exit ?_
      | refine Q_then_ret ?_ | refine Q_then_exit ?_ | refine Q_block ?_ | refine Q_block_ret ?_ | refine Q_block_here ?_ | refine Q_block_on rfl ?_ | refine C_scope ?_ | refine C_label ?_ | refine Q_asn ?_
  (refine C_region ?_
   <;> refine W_fieldAddr rfl ?_
   <;> (first | refine W_load rfl (Blk.cell (by assumption) (by rfl)) ?_ | refine W_load rfl (by assumption) ?_)
   <;> refine W_slen rfl ?_
   <;> (refine W_gtr rfl rfl (fun hc => ?_) (fun hc => ?_) <;> try (exfalso; omega))
   <;> (first | refine M_bool rfl ?_ | refine W_move ?_)
   <;> (first | refine W_no rfl ?_ | (refine W_yes rfl ?_; (first | refine M_slice rfl ?_ | refine W_move ?_)))
   <;> (first | refine W_no rfl ?_ | (refine W_yes rfl ?_; refine W_len rfl ?_))
   <;> (first | refine W_no rfl ?_ | (refine W_yes rfl ?_; (refine W_gtr rfl rfl (fun hc => ?_) (fun hc => ?_) <;> try (exfalso; omega))))
   <;> ((first | refine M_pick_t rfl ?_ | refine M_pick_f rfl ?_); (first | refine M_bool rfl ?_ | refine W_move ?_))
   <;> (first | refine M_bool rfl ?_ | refine W_move ?_)
   <;> (first | refine W_no rfl ?_ | (refine W_yes rfl ?_; (first | refine M_slice rfl ?_ | refine W_move ?_)))
   <;> (first | refine W_no rfl ?_ | (refine W_yes rfl ?_; refine W_len rfl ?_))
   <;> (first | refine W_no rfl ?_ | (refine W_yes rfl ?_; (refine W_gtr rfl rfl (fun hc => ?_) (fun hc => ?_) <;> try (exfalso; omega))))
   <;> ((first | refine M_pick_t rfl ?_ | refine M_pick_f rfl ?_); (first | refine M_bool rfl ?_ | refine W_move ?_))
   <;> refine W_nil ?_)
  iterate 3
    · repeat'
        first
          | refine Q_then ?_ | refine C_cond_t rfl ?_ | refine C_cond_f rfl ?_ | refine C_seq ?_ | refine C_block ?_ | refine C_skip ?_ | refine C_ret ?_ | refine C_exit ?_
          | refine Q_then_ret ?_ | refine Q_then_exit ?_ | refine Q_block ?_ | refine Q_block_ret ?_ | refine Q_block_here ?_ | refine Q_block_on rfl ?_ | refine C_scope ?_ | refine C_label ?_ | refine Q_asn ?_
      (refine C_region ?_
       <;> (first | refine M_bool rfl ?_ | refine W_move ?_)
       <;> (refine M_assign ?_; (first | refine M_bool rfl ?_ | refine W_move ?_))
       <;> refine W_nil ?_)
      repeat'
        first
          | refine Q_then ?_ | refine C_cond_t rfl ?_ | refine C_cond_f rfl ?_ | refine C_seq ?_ | refine C_block ?_ | refine C_skip ?_ | refine C_ret ?_ | refine C_exit ?_
          | refine Q_then_ret ?_ | refine Q_then_exit ?_ | refine Q_block ?_ | refine Q_block_ret ?_ | refine Q_block_here ?_ | refine Q_block_on rfl ?_ | refine C_scope ?_ | refine C_label ?_ | refine Q_asn ?_
      exact fin_ret1 rfl ⟨rfl, k1⟩
  repeat'
    first
      | refine Q_then ?_ | refine C_cond_t rfl ?_ | refine C_cond_f rfl ?_ | refine C_seq ?_ | refine C_block ?_ | refine C_skip ?_ | refine C_ret ?_ | refine C_exit ?_
      | refine Q_then_ret ?_ | refine Q_then_exit ?_ | refine Q_block ?_ | refine Q_block_ret ?_ | refine Q_block_here ?_ | refine Q_block_on rfl ?_ | refine C_scope ?_ | refine C_label ?_ | refine Q_asn ?_
  (refine C_region ?_
   <;> (first | refine M_slice rfl ?_ | refine W_move ?_))
  -- at operation 1: <dst=(some 38) op=(call <callee=(value (func 11)) args=[(tmp 37)] argTypes=[24]>) type=27 guard=none>
  refine W_call (Decode_any _ p _ hp) rfl ?_
  rintro _ w4 ⟨rfl, k4⟩
  replace h := h.ext k4
  replace hp := hp.ext k4
  replace b1 := b1.keep k4 (by simp)
  replace k1 := k1.trans k4
  clear k4
  rw [decV_eq]
  ((first | refine M_tuple rfl ?_ | refine W_move ?_)
   <;> refine W_extract rfl rfl ?_
   <;> refine W_extract rfl rfl ?_)
  -- at operation 5: <dst=(some 8) op=(alloc 23) type=0 guard=none>
  refine W_alloc (fun w5 n5 => ?_)
  refine W_store_agg (cs := entL (decE (decode p))) rfl rfl rfl (oneC_ent _) n5.blk (by simp [entL]) (fun w6 p6 => ?_)
  have k6 : Ext w4 w6 := n5.keep.keep p6.keep (by simp)
  have b6 : Blk w6 w4.heap.size 23 (entL (decE (decode p))) := p6.blk
  have hne6 : g1 < w4.heap.size := b1.lt
  replace h := h.ext k6
  replace hp := hp.ext k6
  replace b1 := b1.keep k6 (by simp)
  replace k1 := k1.trans k6
  clear n5 p6 k6
  generalize w4.heap.size = g4 at *
  ((refine M_assign ?_; (first | refine M_int rfl ?_ | refine W_move ?_))
   <;> refine W_nil ?_)
  repeat'
    first
      | refine Q_then ?_ | refine C_cond_t rfl ?_ | refine C_cond_f rfl ?_ | refine C_seq ?_ | refine C_block ?_ | refine C_skip ?_ | refine C_ret ?_ | refine C_exit ?_
      | refine Q_then_ret ?_ | refine Q_then_exit ?_ | refine Q_block ?_ | refine Q_block_ret ?_ | refine Q_block_here ?_ | refine Q_block_on rfl ?_ | refine C_scope ?_ | refine C_label ?_ | refine Q_asn ?_
  (refine C_region ?_
   <;> (first | refine M_slice rfl ?_ | refine W_move ?_))
  -- at operation 1: <dst=(some 43) op=(call <callee=(value (func 12)) args=[(tmp 42)] argTypes=[24]>) type=27 guard=none>
  refine W_call (refDecode_any _ p _ hp) rfl ?_
  rintro _ w7 ⟨rfl, k7⟩
  replace h := h.ext k7
  replace hp := hp.ext k7
  replace b1 := b1.keep k7 (by simp)
  replace b6 := b6.keep k7 (by simp)
  replace k1 := k1.trans k7
  clear k7
  rw [decV_eq]
  ((first | refine M_tuple rfl ?_ | refine W_move ?_)
   <;> refine W_extract rfl rfl ?_
   <;> refine W_extract rfl rfl ?_)
  -- at operation 5: <dst=(some 10) op=(alloc 23) type=0 guard=none>
  refine W_alloc (fun w8 n8 => ?_)
  refine W_store_agg (cs := entL (decE (decode p))) rfl rfl rfl (oneC_ent _) n8.blk (by simp [entL]) (fun w9 p9 => ?_)
  have k9 : Ext w7 w9 := n8.keep.keep p9.keep (by simp)
  have b9 : Blk w9 w7.heap.size 23 (entL (decE (decode p))) := p9.blk
  replace h := h.ext k9
  replace hp := hp.ext k9
  replace b1 := b1.keep k9 (by simp)
  replace b6 := b6.keep k9 (by simp)
  replace k1 := k1.trans k9
  clear n8 p9 k9
  generalize w7.heap.size = g7 at *
  ((refine M_assign ?_; (first | refine M_int rfl ?_ | refine W_move ?_))
   <;> refine W_nil ?_)
  repeat'
    first
      | refine Q_then ?_ | refine C_cond_t rfl ?_ | refine C_cond_f rfl ?_ | refine C_seq ?_ | refine C_block ?_ | refine C_skip ?_ | refine C_ret ?_ | refine C_exit ?_
      | refine Q_then_ret ?_ | refine Q_then_exit ?_ | refine Q_block ?_ | refine Q_block_ret ?_ | refine Q_block_here ?_ | refine Q_block_on rfl ?_ | refine C_scope ?_ | refine C_label ?_ | refine Q_asn ?_
  (refine C_region ?_
   <;> (first | refine M_slice rfl ?_ | refine W_move ?_)
   <;> (first | refine M_slice rfl ?_ | refine W_move ?_))
  -- at operation 2: <dst=(some 49) op=(call <callee=(value (func 13)) args=[(tmp 47), (tmp 48)] argTypes=[24, 24]>) type=29 guard=none>
  refine W_call (Append_app _ _ l p _ h hp (by omega)) rfl ?_
  rintro _ w10 ⟨av, rfl, oa, k10⟩
  obtain ⟨aa, ac, rfl⟩ := own_form oa
  replace h := h.ext k10
  replace hp := hp.ext k10
  replace b1 := b1.keep k10 (by simp)
  replace b6 := b6.keep k10 (by simp)
  replace b9 := b9.keep k10 (by simp)
  replace k1 := k1.trans k10
  clear k10
  ((first | refine M_tuple rfl ?_ | refine W_move ?_)
   <;> refine W_extract rfl rfl ?_
   <;> refine W_extract rfl rfl ?_
   <;> (refine M_assign ?_; (first | refine M_slice rfl ?_ | refine W_move ?_))
   <;> (refine M_assign ?_; (first | refine M_int rfl ?_ | refine W_move ?_))
   <;> refine W_nil ?_)
  repeat'
    first
      | refine Q_then ?_ | refine C_cond_t rfl ?_ | refine C_cond_f rfl ?_ | refine C_seq ?_ | refine C_block ?_ | refine C_skip ?_ | refine C_ret ?_ | refine C_exit ?_
      | refine Q_then_ret ?_ | refine Q_then_exit ?_ | refine Q_block ?_ | refine Q_block_ret ?_ | refine Q_block_here ?_ | refine Q_block_on rfl ?_ | refine C_scope ?_ | refine C_label ?_ | refine Q_asn ?_
  (refine C_region ?_
   <;> (first | refine M_slice rfl ?_ | refine W_move ?_)
   <;> (first | refine M_slice rfl ?_ | refine W_move ?_))
  -- at operation 2: <dst=(some 55) op=(call <callee=(value (func 14)) args=[(tmp 53), (tmp 54)] argTypes=[24, 24]>) type=29 guard=none>
  refine W_call (refAppend_app _ _ l p _ h hp (by omega)) rfl ?_
  rintro _ w11 ⟨bv, rfl, ob, k11⟩
  obtain ⟨ba, bc, rfl⟩ := own_form ob
  replace h := h.ext k11
  replace oa := ownsRow_ext oa k11
  replace b1 := b1.keep k11 (by simp)
  replace b6 := b6.keep k11 (by simp)
  replace b9 := b9.keep k11 (by simp)
  replace k1 := k1.trans k11
  clear k11 hp
  ((first | refine M_tuple rfl ?_ | refine W_move ?_)
   <;> refine W_extract rfl rfl ?_
   <;> refine W_extract rfl rfl ?_
   <;> (refine M_assign ?_; (first | refine M_slice rfl ?_ | refine W_move ?_))
   <;> (refine M_assign ?_; (first | refine M_int rfl ?_ | refine W_move ?_))
   <;> refine W_nil ?_)
  repeat'
    first
      | refine Q_then ?_ | refine C_cond_t rfl ?_ | refine C_cond_f rfl ?_ | refine C_seq ?_ | refine C_block ?_ | refine C_skip ?_ | refine C_ret ?_ | refine C_exit ?_
      | refine Q_then_ret ?_ | refine Q_then_exit ?_ | refine Q_block ?_ | refine Q_block_ret ?_ | refine Q_block_here ?_ | refine Q_block_on rfl ?_ | refine C_scope ?_ | refine C_label ?_ | refine Q_asn ?_
  (refine C_region ?_
   <;> (first | refine M_slice rfl ?_ | refine W_move ?_))
  -- at operation 1: <dst=(some 60) op=(call <callee=(value (func 15)) args=[(tmp 59)] argTypes=[24]>) type=32 guard=none>
  refine W_call (Records_any _ l _ h) rfl ?_
  rintro _ w12 ⟨lv, rfl, hl, k12⟩
  replace hl := hl.LB
  obtain ⟨la, lc, rfl, _⟩ := hl.form
  replace h := h.ext k12
  replace oa := ownsRow_ext oa k12
  replace ob := ownsRow_ext ob k12
  replace b1 := b1.keep k12 (by simp)
  replace b6 := b6.keep k12 (by simp)
  replace b9 := b9.keep k12 (by simp)
  replace k1 := k1.trans k12
  clear k12
  ((first | refine M_tuple rfl ?_ | refine W_move ?_)
   <;> refine W_extract rfl rfl ?_
   <;> refine W_extract rfl rfl ?_
   <;> (refine M_assign ?_; (first | refine M_slice rfl ?_ | refine W_move ?_))
   <;> (refine M_assign ?_; (first | refine M_int rfl ?_ | refine W_move ?_))
   <;> refine W_nil ?_)
  repeat'
    first
      | refine Q_then ?_ | refine C_cond_t rfl ?_ | refine C_cond_f rfl ?_ | refine C_seq ?_ | refine C_block ?_ | refine C_skip ?_ | refine C_ret ?_ | refine C_exit ?_
      | refine Q_then_ret ?_ | refine Q_then_exit ?_ | refine Q_block ?_ | refine Q_block_ret ?_ | refine Q_block_here ?_ | refine Q_block_on rfl ?_ | refine C_scope ?_ | refine C_label ?_ | refine Q_asn ?_
  (refine C_region ?_
   <;> (first | refine M_slice rfl ?_ | refine W_move ?_))
  -- at operation 1: <dst=(some 65) op=(call <callee=(value (func 16)) args=[(tmp 64)] argTypes=[24]>) type=32 guard=none>
  refine W_call (refRecords_any _ l _ h) rfl ?_
  rintro _ w13 ⟨mv, rfl, hm, k13⟩
  replace hm := hm.LB
  obtain ⟨ma, mc, rfl, _⟩ := hm.form
  replace oa := own_bytes (ownsRow_ext oa k13) rfl
  replace ob := own_bytes (ownsRow_ext ob k13) rfl
  replace hl := hl.keep k13 (by simp)
  replace b1 := b1.keep k13 (by simp)
  replace b6 := b6.keep k13 (by simp)
  replace b9 := b9.keep k13 (by simp)
  replace k1 := k1.trans k13
  clear k13 h
  ((first | refine M_tuple rfl ?_ | refine W_move ?_)
   <;> refine W_extract rfl rfl ?_
   <;> refine W_extract rfl rfl ?_
   <;> (refine M_assign ?_; (first | refine M_slice rfl ?_ | refine W_move ?_))
   <;> (refine M_assign ?_; (first | refine M_int rfl ?_ | refine W_move ?_))
   <;> refine W_nil ?_)
  repeat'
    first
      | refine Q_then ?_ | refine C_cond_t rfl ?_ | refine C_cond_f rfl ?_ | refine C_seq ?_ | refine C_block ?_ | refine C_skip ?_ | refine C_ret ?_ | refine C_exit ?_
      | refine Q_then_ret ?_ | refine Q_then_exit ?_ | refine Q_block ?_ | refine Q_block_ret ?_ | refine Q_block_here ?_ | refine Q_block_on rfl ?_ | refine C_scope ?_ | refine C_label ?_ | refine Q_asn ?_
  generalize decE (decode p) = x at *
  generalize decC (decode p) = f at *
  generalize (recs 500 l).1 = rs at *
  generalize (recs 500 l).2 = n at *
  generalize (app l p).1 = X at *
  generalize (app l p).2 = ec at *
  have c1 := fun W (hW : Ext w13 W) => (b1.keep hW (by simp)).cells
  have c6 := fun W (hW : Ext w13 W) => (b6.keep hW (by simp)).cells
  have c9 := fun W (hW : Ext w13 W) => (b9.keep hW (by simp)).cells
  refine C_drawN (.read 0 (.read 1 (.read 2 (.read 4 (.alt 3 (.alt 5 (.alt 6 (.read 7 (.read 8 (.read 9 (.read 10 (.read 11 (.read 12 (.read 13 (.read 14 (.read 15 (.read 16 (.read 17 (.read 18 (.read 19 (.read 20 (.alt 21 (.read 22 (.read 23 (.read 24 (.read 25 (.read 26 (.read 27 (.read 28 (.read 29 (.read 30 (.alt 31 (.read 32 (.read 33 (.read 34 (.read 35 (.read 36 (.read 37 (.read 38 .done))))))) .stop)))))))))) .stop))))))))))))))) .stop) .stop) .stop))))) mixed (by kernel_rfl) (fun wd kd ed => ⟨Ext w13, ?_, ?_⟩)
  · exact kd
  ((apply D_R rfl rfl; (intro W hW; (first | refine M_bool rfl ?_ | refine W_move ?_); exact W_nil ⟨rfl, rfl, rfl⟩))
   <;> (apply D_R rfl rfl; (intro W hW; (first | refine M_bool rfl ?_ | refine W_move ?_); exact W_nil ⟨rfl, rfl, rfl⟩))
   <;> (first | refine D_skip rfl rfl rfl rfl ?_ | (apply D_R rfl rfl; (intro W hW; (refine W_yes rfl ?_; (first | refine W_load rfl (c1 W hW) ?_ | refine W_load rfl (c6 W hW) ?_ | refine W_load rfl (c9 W hW) ?_ | refine W_load_agg rfl (by rfl) (c1 W hW) ?_ | refine W_load_agg rfl (by rfl) (c6 W hW) ?_ | refine W_load_agg rfl (by rfl) (c9 W hW) ?_)); exact W_nil ⟨rfl, rfl, rfl⟩)))
   <;> (first | refine D_skip rfl rfl rfl rfl ?_ | (apply D_R rfl rfl; (intro W hW; (refine W_yes rfl ?_; (first | refine W_load rfl (c1 W hW) ?_ | refine W_load rfl (c6 W hW) ?_ | refine W_load rfl (c9 W hW) ?_ | refine W_load_agg rfl (by rfl) (c1 W hW) ?_ | refine W_load_agg rfl (by rfl) (c6 W hW) ?_ | refine W_load_agg rfl (by rfl) (c9 W hW) ?_)); exact W_nil ⟨rfl, rfl, rfl⟩))))
  -- at place 4, operation 3: <dst=(some 71) op=(call <callee=(value (func 18)) args=[(tmp 70)] argTypes=[23]>) type=24 guard=(some [1, true])>
  refine D_E rfl ?_
  refine W_yes rfl ?_
  refine W_call (Encode_any e _) rfl ?_
  rintro v14 w14 ⟨o14, k14⟩
  replace k14 := kd.trans k14
  refine W_nil ⟨Ext w13, fun _ h => h, k14, ?_⟩
  refine D_E rfl ?_
  refine W_yes rfl ?_
  refine W_call (refEncode_any e _) rfl ?_
  rintro v15 w15 ⟨o15, k15⟩
  replace o14 := ownsRow_ext o14 k15
  replace k14 := k14.trans k15
  refine W_nil ⟨Ext w13, fun _ h => h, k14, ?_⟩
  refine D_E rfl ?_
  refine W_yes rfl ?_
  refine W_call (Bytes_any _ _ (encode e) (encode e) _ (own_bytes o14 rfl) (own_bytes o15 rfl)) rfl ?_
  rintro _ w16 ⟨rfl, k16⟩
  replace k14 := k14.trans k16
  refine W_nil ⟨Ext w13, fun _ h => h, k14, ?_⟩
  rw [beq_self_eq_true]
  ((apply D_R rfl rfl; (intro W hW; ((first | refine M_pick_t rfl ?_ | refine M_pick_f rfl ?_); (first | refine M_bool rfl ?_ | refine W_move ?_)); exact W_nil ⟨rfl, rfl, rfl⟩))
   <;> (apply D_R rfl rfl; (intro W hW; (first | refine M_bool rfl ?_ | refine W_move ?_); exact W_nil ⟨rfl, rfl, rfl⟩))
   <;> (first | refine D_skip rfl rfl rfl rfl ?_ | (apply D_R rfl rfl; (intro W hW; (refine W_yes rfl ?_; (first | refine W_load rfl (c6 W hW) ?_ | refine W_load rfl (c9 W hW) ?_ | refine W_load_agg rfl (by rfl) (c6 W hW) ?_ | refine W_load_agg rfl (by rfl) (c9 W hW) ?_)); exact W_nil ⟨rfl, rfl, rfl⟩)))
   <;> (first | refine D_skip rfl rfl rfl rfl ?_ | (apply D_R rfl rfl; (intro W hW; (refine W_yes rfl ?_; (first | refine W_load rfl (c6 W hW) ?_ | refine W_load rfl (c9 W hW) ?_ | refine W_load_agg rfl (by rfl) (c6 W hW) ?_ | refine W_load_agg rfl (by rfl) (c9 W hW) ?_)); exact W_nil ⟨rfl, rfl, rfl⟩))))
  -- at place 11, operation 11: <dst=(some 79) op=(binOp eql 23 (tmp 77) (tmp 78) 23) type=4 guard=(some [8, true])>
  refine D_R (v := .bool true) rfl rfl (fun W hW => ?_) ?_
  · refine W_yes rfl ?_
    refine W_flEql (xs := entL x) (ys := entL x) rfl rfl (same_ent x x) (fun r hr => ?_)
    obtain rfl : r = true := hr.2 fun _ _ => rfl
    exact W_nil ⟨rfl, rfl, rfl⟩
  ((apply D_R rfl rfl; (intro W hW; ((first | refine M_pick_t rfl ?_ | refine M_pick_f rfl ?_); (first | refine M_bool rfl ?_ | refine W_move ?_)); exact W_nil ⟨rfl, rfl, rfl⟩))
   <;> (apply D_R rfl rfl; (intro W hW; (first | refine M_bool rfl ?_ | refine W_move ?_); exact W_nil ⟨rfl, rfl, rfl⟩))
   <;> (first | refine D_skip rfl rfl rfl rfl ?_ | (apply D_R rfl rfl; (intro W hW; (refine W_yes rfl ?_; (first | refine M_int rfl ?_ | refine W_move ?_)); exact W_nil ⟨rfl, rfl, rfl⟩)))
   <;> (first | refine D_skip rfl rfl rfl rfl ?_ | (apply D_R rfl rfl; (intro W hW; (refine W_yes rfl ?_; (first | refine M_int rfl ?_ | refine W_move ?_)); exact W_nil ⟨rfl, rfl, rfl⟩)))
   <;> (first | refine D_skip rfl rfl rfl rfl ?_ | (refine D_eql rfl rfl rfl rfl (fun hc => ?_) (fun hc => ?_) <;> try (exfalso; omega)))
   <;> (apply D_R rfl rfl; (intro W hW; ((first | refine M_pick_t rfl ?_ | refine M_pick_f rfl ?_); (first | refine M_bool rfl ?_ | refine W_move ?_)); exact W_nil ⟨rfl, rfl, rfl⟩))
   <;> (apply D_R rfl rfl; (intro W hW; (first | refine M_bool rfl ?_ | refine W_move ?_); exact W_nil ⟨rfl, rfl, rfl⟩))
   <;> (first | refine D_skip rfl rfl rfl rfl ?_ | (apply D_R rfl rfl; (intro W hW; (refine W_yes rfl ?_; (first | refine M_slice rfl ?_ | refine W_move ?_)); exact W_nil ⟨rfl, rfl, rfl⟩)))
   <;> (first | refine D_skip rfl rfl rfl rfl ?_ | (apply D_R rfl rfl; (intro W hW; (refine W_yes rfl ?_; (first | refine M_slice rfl ?_ | refine W_move ?_)); exact W_nil ⟨rfl, rfl, rfl⟩))))
  -- at place 21, operation 21: <dst=(some 89) op=(call <callee=(value (func 17)) args=[(tmp 87), (tmp 88)] argTypes=[24, 24]>) type=4 guard=(some [18, true])>
  refine D_E rfl ?_
  refine W_yes rfl ?_
  refine W_call (Bytes_any _ _ X X _ (oa.ext k14) (ob.ext k14)) rfl ?_
  rintro _ w17 ⟨rfl, k17⟩
  replace k14 := k14.trans k17
  refine W_nil ⟨Ext w13, fun _ h => h, k14, ?_⟩
  rw [beq_self_eq_true]
  ((apply D_R rfl rfl; (intro W hW; ((first | refine M_pick_t rfl ?_ | refine M_pick_f rfl ?_); (first | refine M_bool rfl ?_ | refine W_move ?_)); exact W_nil ⟨rfl, rfl, rfl⟩))
   <;> (apply D_R rfl rfl; (intro W hW; (first | refine M_bool rfl ?_ | refine W_move ?_); exact W_nil ⟨rfl, rfl, rfl⟩))
   <;> (first | refine D_skip rfl rfl rfl rfl ?_ | (apply D_R rfl rfl; (intro W hW; (refine W_yes rfl ?_; (first | refine M_int rfl ?_ | refine W_move ?_)); exact W_nil ⟨rfl, rfl, rfl⟩)))
   <;> (first | refine D_skip rfl rfl rfl rfl ?_ | (apply D_R rfl rfl; (intro W hW; (refine W_yes rfl ?_; (first | refine M_int rfl ?_ | refine W_move ?_)); exact W_nil ⟨rfl, rfl, rfl⟩)))
   <;> (first | refine D_skip rfl rfl rfl rfl ?_ | (refine D_eql rfl rfl rfl rfl (fun hc => ?_) (fun hc => ?_) <;> try (exfalso; omega)))
   <;> (apply D_R rfl rfl; (intro W hW; ((first | refine M_pick_t rfl ?_ | refine M_pick_f rfl ?_); (first | refine M_bool rfl ?_ | refine W_move ?_)); exact W_nil ⟨rfl, rfl, rfl⟩))
   <;> (apply D_R rfl rfl; (intro W hW; (first | refine M_bool rfl ?_ | refine W_move ?_); exact W_nil ⟨rfl, rfl, rfl⟩))
   <;> (first | refine D_skip rfl rfl rfl rfl ?_ | (apply D_R rfl rfl; (intro W hW; (refine W_yes rfl ?_; (first | refine M_slice rfl ?_ | refine W_move ?_)); exact W_nil ⟨rfl, rfl, rfl⟩)))
   <;> (first | refine D_skip rfl rfl rfl rfl ?_ | (apply D_R rfl rfl; (intro W hW; (refine W_yes rfl ?_; (first | refine M_slice rfl ?_ | refine W_move ?_)); exact W_nil ⟨rfl, rfl, rfl⟩))))
  -- at place 31, operation 31: <dst=(some 99) op=(call <callee=(value (func 20)) args=[(tmp 97), (tmp 98)] argTypes=[31, 31]>) type=4 guard=(some [28, true])>
  refine D_E rfl ?_
  refine W_yes rfl ?_
  refine W_call (SameRecords_any _ _ rs rs _ (hl.keep k14 (by simp)) (hm.keep k14 (by simp))) rfl ?_
  rintro _ w18 ⟨rfl, k18⟩
  replace k14 := k14.trans k18
  refine W_nil ⟨Ext w13, fun _ h => h, k14, ?_⟩
  rw [beq_self_eq_true]
  ((apply D_R rfl rfl; (intro W hW; ((first | refine M_pick_t rfl ?_ | refine M_pick_f rfl ?_); (first | refine M_bool rfl ?_ | refine W_move ?_)); exact W_nil ⟨rfl, rfl, rfl⟩))
   <;> (apply D_R rfl rfl; (intro W hW; (first | refine M_bool rfl ?_ | refine W_move ?_); exact W_nil ⟨rfl, rfl, rfl⟩))
   <;> (first | refine D_skip rfl rfl rfl rfl ?_ | (apply D_R rfl rfl; (intro W hW; (refine W_yes rfl ?_; (first | refine M_int rfl ?_ | refine W_move ?_)); exact W_nil ⟨rfl, rfl, rfl⟩)))
   <;> (first | refine D_skip rfl rfl rfl rfl ?_ | (apply D_R rfl rfl; (intro W hW; (refine W_yes rfl ?_; (first | refine M_int rfl ?_ | refine W_move ?_)); exact W_nil ⟨rfl, rfl, rfl⟩)))
   <;> (first | refine D_skip rfl rfl rfl rfl ?_ | (refine D_eql rfl rfl rfl rfl (fun hc => ?_) (fun hc => ?_) <;> try (exfalso; omega)))
   <;> (apply D_R rfl rfl; (intro W hW; ((first | refine M_pick_t rfl ?_ | refine M_pick_f rfl ?_); (first | refine M_bool rfl ?_ | refine W_move ?_)); exact W_nil ⟨rfl, rfl, rfl⟩))
   <;> (apply D_R rfl rfl; (intro W hW; (refine M_assign ?_; (first | refine M_bool rfl ?_ | refine W_move ?_)); exact W_nil ⟨rfl, rfl, rfl⟩))
   <;> refine D_nil ?_)
  repeat'
    first
      | refine Q_then ?_ | refine C_cond_t rfl ?_ | refine C_cond_f rfl ?_ | refine C_seq ?_ | refine C_block ?_ | refine C_skip ?_ | refine C_ret ?_ | refine C_exit ?_
      | refine Q_then_ret ?_ | refine Q_then_exit ?_ | refine Q_block ?_ | refine Q_block_ret ?_ | refine Q_block_here ?_ | refine Q_block_on rfl ?_ | refine C_scope ?_ | refine C_label ?_ | refine Q_asn ?_
  exact fin_ret1 rfl ⟨rfl, k1.trans k14⟩
end Go.Proofs.Ytfbahfibgmdlnaa
