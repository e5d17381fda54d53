/- A journal out of payloads, walked: whole. Conditions: none. -/
import Derived.Test.YtfbahfibgmdlnaaJ13
import Derived.Test.YtfbahfibgmdlnaaOps4
namespace Go.Proofs.Ytfbahfibgmdlnaa
open Go.RowKit
set_option linter.unusedVariables false

def wstep (j r : List UInt8) : List UInt8 := if (app j r).2 = 0 then (app j r).1 else j
def wholeL (ls : List (List UInt8)) : List UInt8 := ls.foldl wstep []
theorem wstep_length (j r : List UInt8) : (wstep j r).length ≤ j.length + 4006 := by
  unfold wstep
  split
  · exact app_length j r
  · omega

theorem whole_any (v : Value) (ls : List (List UInt8)) (w : World) (h : LB anyB w v ls) (hs : ls.length ≤ 15) :
    Fn Try.prog 23 [v] w fun v w' => w'.ownsRow w.heap.size 5 1 v (wholeL ls).length (cells8 (wholeL ls)) ∧ Ext w w' := by
  obtain ⟨vs, ⟨a, c, rfl, hl, hc, hm, hx⟩, hvl, hel⟩ := h
  refine fn_of_wc Try.func23 rfl Try.ntmps23 (Nat.le_of_ble_eq_true rfl) (by kernel_rfl) ?_
  repeat'
    first
      | refine Q_then ?_ | refine C_cond_t rfl ?_ | refine C_cond_f rfl ?_ | refine C_seq ?_ | refine C_block ?_ | refine C_skip ?_ | refine C_ret ?_ | refine C_exit ?_
      | refine Q_then_ret ?_ | refine Q_then_exit ?_ | refine Q_block ?_ | refine Q_block_ret ?_ | refine Q_block_here ?_ | refine Q_block_on rfl ?_ | refine C_scope ?_ | refine C_label ?_ | refine Q_asn ?_
  (refine C_region ?_
   <;> (refine M_assign ?_; (first | refine M_slice rfl ?_ | refine W_move ?_))
   <;> refine W_nil ?_)
  repeat'
    first
      | refine Q_then ?_ | refine C_cond_t rfl ?_ | refine C_cond_f rfl ?_ | refine C_seq ?_ | refine C_block ?_ | refine C_skip ?_ | refine C_ret ?_ | refine C_exit ?_
      | refine Q_then_ret ?_ | refine Q_then_exit ?_ | refine Q_block ?_ | refine Q_block_ret ?_ | refine Q_block_here ?_ | refine Q_block_on rfl ?_ | refine C_scope ?_ | refine C_label ?_ | refine Q_asn ?_
  (refine C_region ?_
   <;> (refine M_assign ?_; (first | refine M_slice rfl ?_ | refine W_move ?_))
   <;> refine W_nil ?_)
  repeat'
    first
      | refine Q_then ?_ | refine C_cond_t rfl ?_ | refine C_cond_f rfl ?_ | refine C_seq ?_ | refine C_block ?_ | refine C_skip ?_ | refine C_ret ?_ | refine C_exit ?_
      | refine Q_then_ret ?_ | refine Q_then_exit ?_ | refine Q_block ?_ | refine Q_block_ret ?_ | refine Q_block_here ?_ | refine Q_block_on rfl ?_ | refine C_scope ?_ | refine C_label ?_ | refine Q_asn ?_
  (refine C_region ?_
   <;> (refine M_assign ?_; (first | refine M_int rfl ?_ | refine W_move ?_))
   <;> refine W_nil ?_)
  repeat'
    first
      | refine Q_then ?_ | refine C_cond_t rfl ?_ | refine C_cond_f rfl ?_ | refine C_seq ?_ | refine C_block ?_ | refine C_skip ?_ | refine C_ret ?_ | refine C_exit ?_
      | refine Q_then_ret ?_ | refine Q_then_exit ?_ | refine Q_block ?_ | refine Q_block_ret ?_ | refine Q_block_here ?_ | refine Q_block_on rfl ?_ | refine C_scope ?_ | refine C_label ?_ | refine Q_asn ?_
  refine C_loop (α := Nat × Value) (fun x => [(0, .slice a ls.length c), (3, x.2), (4, .int .i64 x.1)]) (fun x w1 => x.1 ≤ ls.length ∧ Ext w w1 ∧ (wholeL (ls.take x.1)).length ≤ 4006 * x.1 ∧ w1.ownsRow w.heap.size 5 1 x.2 (wholeL (ls.take x.1)).length (cells8 (wholeL (ls.take x.1)))) (fun x => ls.length - x.1) (0, .slice none 0 0) ⟨rfl, rfl, rfl, trivial⟩ ⟨by omega, Ext.refl _, by simp [wholeL], ⟨rfl, .inl ⟨rfl, rfl⟩⟩⟩ ?_
  rintro ⟨k, v⟩ w1 f' ⟨hk, he, hb, ho⟩
  dsimp only at hk hb ho ⊢
  generalize hj : wholeL (ls.take k) = j at hb ho
  obtain ⟨ja, jc, rfl⟩ := own_form ho
  repeat'
    first
      | refine Q_then ?_ | refine C_cond_t rfl ?_ | refine C_cond_f rfl ?_ | refine C_seq ?_ | refine C_block ?_ | refine C_skip ?_ | refine C_ret ?_ | refine C_exit ?_
      | refine Q_then_ret ?_ | refine Q_then_exit ?_ | refine Q_block ?_ | refine Q_block_ret ?_ | refine Q_block_here ?_ | refine Q_block_on rfl ?_ | refine C_scope ?_ | refine C_label ?_ | refine Q_asn ?_
  (refine C_region ?_
   <;> (first | refine M_int rfl ?_ | refine W_move ?_)
   <;> (first | refine M_slice rfl ?_ | refine W_move ?_)
   <;> refine W_len rfl ?_
   <;> (refine W_lss rfl rfl (fun hc => ?_) (fun hc => ?_) <;> try (exfalso; omega))
   <;> refine W_nil ?_)
  · repeat'
      first
        | refine Q_then ?_ | refine C_cond_t rfl ?_ | refine C_cond_f rfl ?_ | refine C_seq ?_ | refine C_block ?_ | refine C_skip ?_ | refine C_ret ?_ | refine C_exit ?_
        | refine Q_then_ret ?_ | refine Q_then_exit ?_ | refine Q_block ?_ | refine Q_block_ret ?_ | refine Q_block_here ?_ | refine Q_block_on rfl ?_ | refine C_scope ?_ | refine C_label ?_ | refine Q_asn ?_
    obtain ⟨b, o, rfl, _, g⟩ := hx.resolve_left (by omega)
    have hk1 : k < vs.length := by omega
    have hk2 : k < ls.length := by omega
    have e1 := he.cell (g k vs[k] (by simp [hk1])) (by simp)
    have d1 := (hel k vs[k] ls[k] (by simp [hk1]) (by simp [hk2])).ext he
    have hts : wholeL (ls.take (k + 1)) = wstep j ls[k] := by rw [List.take_succ_eq_append_getElem hk2, wholeL, List.foldl_append]; simp only [wholeL] at hj; rw [hj]; rfl
    generalize vs[k] = u at *
    generalize ls[k] = r at *
    obtain ⟨a', c', rfl, hl', _⟩ := id d1
    (refine C_region ?_
     <;> (first | refine M_slice rfl ?_ | refine W_move ?_)
     <;> (first | refine M_slice rfl ?_ | refine W_move ?_)
     <;> (first | refine M_int rfl ?_ | refine W_move ?_)
     <;> (first | refine W_idx1 rfl rfl rfl (by omega) ?_ | refine W_idx rfl rfl rfl (by omega) ?_ | refine W_indexAddr rfl rfl (by omega) (by omega) ?_)
     <;> (first | refine W_load rfl (Blk.cell (by assumption) (by rfl)) ?_ | refine W_load rfl (by assumption) ?_))
    -- at operation 5: <dst=(some 19) op=(call <callee=(value (func 13)) args=[(tmp 14), (tmp 18)] argTypes=[24, 24]>) type=29 guard=none>
    refine W_call (Append_app _ _ j r w1 (own_bytes ho rfl) d1 (by omega)) rfl ?_
    rintro v2 w2 ⟨rv, rfl, ho2, he2⟩
    have hap := app_length j r
    obtain ⟨ra, rc, rfl⟩ := own_form ho2
    ((first | refine M_tuple rfl ?_ | refine W_move ?_)
     <;> refine W_extract rfl rfl ?_
     <;> refine W_extract rfl rfl ?_
     <;> (refine M_assign ?_; (first | refine M_slice rfl ?_ | refine W_move ?_))
     <;> (refine M_assign ?_; (first | refine M_int rfl ?_ | refine W_move ?_))
     <;> refine W_nil ?_)
    repeat'
      first
        | refine Q_then ?_ | refine C_cond_t rfl ?_ | refine C_cond_f rfl ?_ | refine C_seq ?_ | refine C_block ?_ | refine C_skip ?_ | refine C_ret ?_ | refine C_exit ?_
        | refine Q_then_ret ?_ | refine Q_then_exit ?_ | refine Q_block ?_ | refine Q_block_ret ?_ | refine Q_block_here ?_ | refine Q_block_on rfl ?_ | refine C_scope ?_ | refine C_label ?_ | refine Q_asn ?_
    (refine C_region ?_
     <;> (first | refine M_int rfl ?_ | refine W_move ?_)
     <;> (refine W_eql rfl rfl (fun hc => ?_) (fun hc => ?_) <;> try (exfalso; omega))
     <;> refine W_nil ?_)
    · repeat'
        first
          | refine Q_then ?_ | refine C_cond_t rfl ?_ | refine C_cond_f rfl ?_ | refine C_seq ?_ | refine C_block ?_ | refine C_skip ?_ | refine C_ret ?_ | refine C_exit ?_
          | refine Q_then_ret ?_ | refine Q_then_exit ?_ | refine Q_block ?_ | refine Q_block_ret ?_ | refine Q_block_here ?_ | refine Q_block_on rfl ?_ | refine C_scope ?_ | refine C_label ?_ | refine Q_asn ?_
      (refine C_region ?_
       <;> (first | refine M_slice rfl ?_ | refine W_move ?_)
       <;> (refine M_assign ?_; (first | refine M_slice rfl ?_ | refine W_move ?_))
       <;> refine W_nil ?_)
      repeat'
        first
          | refine Q_then ?_ | refine C_cond_t rfl ?_ | refine C_cond_f rfl ?_ | refine C_seq ?_ | refine C_block ?_ | refine C_skip ?_ | refine C_ret ?_ | refine C_exit ?_
          | refine Q_then_ret ?_ | refine Q_then_exit ?_ | refine Q_block ?_ | refine Q_block_ret ?_ | refine Q_block_here ?_ | refine Q_block_on rfl ?_ | refine C_scope ?_ | refine C_label ?_ | refine Q_asn ?_
      (refine C_region ?_
       <;> (first | refine M_int rfl ?_ | refine W_move ?_)
       <;> refine W_add rfl rfl (by first | exact inR_i64 (by omega) (by omega) | exact inR_u8 (by omega) (by omega) | exact inR_u16 (by omega) (by omega)) ?_
       <;> (refine M_assign ?_; (first | refine M_int rfl ?_ | refine W_move ?_))
       <;> refine W_nil ?_)
      repeat'
        first
          | refine Q_then ?_ | refine C_cond_t rfl ?_ | refine C_cond_f rfl ?_ | refine C_seq ?_ | refine C_block ?_ | refine C_skip ?_ | refine C_ret ?_ | refine C_exit ?_
          | refine Q_then_ret ?_ | refine Q_then_exit ?_ | refine Q_block ?_ | refine Q_block_ret ?_ | refine Q_block_here ?_ | refine Q_block_on rfl ?_ | refine C_scope ?_ | refine C_label ?_ | refine Q_asn ?_
      have hw : wstep j r = (app j r).1 := by rw [wstep, if_pos hc]
      refine ⟨(k + 1, .slice ra (app j r).1.length rc), ⟨rfl, ⟨rfl, rfl, rfl, trivial⟩, ⟨by omega, he.trans he2, ?_, ?_⟩⟩, by omega⟩
      · show (wholeL (ls.take (k + 1))).length ≤ _
        rw [hts, hw]; omega
      · show w2.ownsRow _ _ _ _ (wholeL (ls.take (k + 1))).length (cells8 (wholeL (ls.take (k + 1))))
        rw [hts, hw]; exact ownsRow_mono ho2 he.size
    · repeat'
        first
          | refine Q_then ?_ | refine C_cond_t rfl ?_ | refine C_cond_f rfl ?_ | refine C_seq ?_ | refine C_block ?_ | refine C_skip ?_ | refine C_ret ?_ | refine C_exit ?_
          | refine Q_then_ret ?_ | refine Q_then_exit ?_ | refine Q_block ?_ | refine Q_block_ret ?_ | refine Q_block_here ?_ | refine Q_block_on rfl ?_ | refine C_scope ?_ | refine C_label ?_ | refine Q_asn ?_
      (refine C_region ?_
       <;> (first | refine M_int rfl ?_ | refine W_move ?_)
       <;> refine W_add rfl rfl (by first | exact inR_i64 (by omega) (by omega) | exact inR_u8 (by omega) (by omega) | exact inR_u16 (by omega) (by omega)) ?_
       <;> (refine M_assign ?_; (first | refine M_int rfl ?_ | refine W_move ?_))
       <;> refine W_nil ?_)
      repeat'
        first
          | refine Q_then ?_ | refine C_cond_t rfl ?_ | refine C_cond_f rfl ?_ | refine C_seq ?_ | refine C_block ?_ | refine C_skip ?_ | refine C_ret ?_ | refine C_exit ?_
          | refine Q_then_ret ?_ | refine Q_then_exit ?_ | refine Q_block ?_ | refine Q_block_ret ?_ | refine Q_block_here ?_ | refine Q_block_on rfl ?_ | refine C_scope ?_ | refine C_label ?_ | refine Q_asn ?_
      have hw : wstep j r = j := by rw [wstep, if_neg hc]
      refine ⟨(k + 1, .slice ja j.length jc), ⟨rfl, ⟨rfl, rfl, rfl, trivial⟩, ⟨by omega, he.trans he2, ?_, ?_⟩⟩, by omega⟩
      · show (wholeL (ls.take (k + 1))).length ≤ _
        rw [hts, hw]; omega
      · show w2.ownsRow _ _ _ _ (wholeL (ls.take (k + 1))).length (cells8 (wholeL (ls.take (k + 1))))
        rw [hts, hw]; exact ownsRow_ext ho he2
  · repeat'
      first
        | refine Q_then ?_ | refine C_cond_t rfl ?_ | refine C_cond_f rfl ?_ | refine C_seq ?_ | refine C_block ?_ | refine C_skip ?_ | refine C_ret ?_ | refine C_exit ?_
        | refine Q_then_ret ?_ | refine Q_then_exit ?_ | refine Q_block ?_ | refine Q_block_ret ?_ | refine Q_block_here ?_ | refine Q_block_on rfl ?_ | refine C_scope ?_ | refine C_label ?_ | refine Q_asn ?_
    (refine C_region ?_
     <;> (first | refine M_slice rfl ?_ | refine W_move ?_)
     <;> (refine M_assign ?_; (first | refine M_slice rfl ?_ | refine W_move ?_))
     <;> refine W_nil ?_)
    repeat'
      first
        | refine Q_then ?_ | refine C_cond_t rfl ?_ | refine C_cond_f rfl ?_ | refine C_seq ?_ | refine C_block ?_ | refine C_skip ?_ | refine C_ret ?_ | refine C_exit ?_
        | refine Q_then_ret ?_ | refine Q_then_exit ?_ | refine Q_block ?_ | refine Q_block_ret ?_ | refine Q_block_here ?_ | refine Q_block_on rfl ?_ | refine C_scope ?_ | refine C_label ?_ | refine Q_asn ?_
    refine fin_ret1 rfl ⟨?_, he⟩
    rw [List.take_of_length_le (by omega)] at hj
    rw [hj]; exact ho
end Go.Proofs.Ytfbahfibgmdlnaa
