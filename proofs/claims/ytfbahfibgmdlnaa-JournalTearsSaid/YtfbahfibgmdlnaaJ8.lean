/- The journal's entries to bytes and back, walked. Conditions: none. -/
import Derived.Test.YtfbahfibgmdlnaaJ7
namespace Go.Proofs.Ytfbahfibgmdlnaa
open Go.RowKit
set_option linter.unusedVariables false

theorem Decode_any (v : Value) (l : List UInt8) (w : World) (h : BytesAt anyB w v l) :
    Fn Try.prog 11 [v] w fun v w' => v = decV (decode l) ∧ Ext w w' := by
  have h0 := h
  obtain ⟨a, c, rfl, hl, hc, hm, hx⟩ := h0
  refine fn_of_wc Try.func11 rfl Try.ntmps11 (Nat.le_of_ble_eq_true rfl) (by kernel_rfl) ?_
  repeat'
    first
      | refine Q_then ?_ | refine C_cond_t rfl ?_ | refine C_cond_f rfl ?_ | refine C_seq ?_ | refine C_block ?_ | refine C_skip ?_ | refine C_ret ?_ | refine C_exit ?_
      | refine Q_then_ret ?_ | refine Q_then_exit ?_ | refine Q_block ?_ | refine Q_block_ret ?_ | refine Q_block_here ?_ | refine Q_block_on rfl ?_ | refine C_scope ?_ | refine C_label ?_ | refine Q_asn ?_
  refine C_region ?_
  refine W_alloc (fun w1 n1 => ?_)
  obtain ⟨k1, s1, b1⟩ := n1
  ((refine M_assign ?_; (first | refine M_int rfl ?_ | refine W_move ?_))
   <;> refine W_nil ?_)
  repeat'
    first
      | refine Q_then ?_ | refine C_cond_t rfl ?_ | refine C_cond_f rfl ?_ | refine C_seq ?_ | refine C_block ?_ | refine C_skip ?_ | refine C_ret ?_ | refine C_exit ?_
      | refine Q_then_ret ?_ | refine Q_then_exit ?_ | refine Q_block ?_ | refine Q_block_ret ?_ | refine Q_block_here ?_ | refine Q_block_on rfl ?_ | refine C_scope ?_ | refine C_label ?_ | refine Q_asn ?_
  by_cases h3l : l.length < 3
  · (refine C_region ?_
     <;> (first | refine M_slice rfl ?_ | refine W_move ?_)
     <;> refine W_len rfl ?_
     <;> (refine W_lss rfl rfl (fun hc => ?_) (fun hc => ?_) <;> try (exfalso; omega))
     <;> (first | refine M_bool rfl ?_ | refine W_move ?_)
     <;> (first | refine W_no rfl ?_ | (refine W_yes rfl ?_; (first | refine M_slice rfl ?_ | refine W_move ?_)))
     <;> (first | refine W_no rfl ?_ | (refine W_yes rfl ?_; refine W_len rfl ?_))
     <;> (first | refine W_no rfl ?_ | (refine W_yes rfl ?_; (refine W_gtr rfl rfl (fun hc => ?_) (fun hc => ?_) <;> try (exfalso; omega))))
     <;> ((first | refine M_pick_t rfl ?_ | refine M_pick_f rfl ?_); (first | refine M_bool rfl ?_ | refine W_move ?_))
     <;> (first | refine M_bool rfl ?_ | refine W_move ?_)
     <;> (first | refine W_no rfl ?_ | (refine W_yes rfl ?_; (first | refine M_slice rfl ?_ | refine W_move ?_)))
     <;> (first | refine W_no rfl ?_ | (refine W_yes rfl ?_; (first | refine W_idx1 rfl rfl rfl (by omega) ?_ | refine W_idx rfl rfl rfl (by omega) ?_ | refine W_indexAddr rfl rfl (by omega) (by omega) ?_)))
     <;> (first | refine W_no rfl ?_ | (refine W_yes rfl ?_; (first | refine W_load rfl (Blk.cell (by assumption) (by rfl)) ?_ | refine W_load rfl (by assumption) ?_)))
     <;> (first | refine W_no rfl ?_ | (refine W_yes rfl ?_; (refine W_lss rfl rfl (fun hc => ?_) (fun hc => ?_) <;> try (exfalso; omega))))
     <;> ((first | refine M_pick_t rfl ?_ | refine M_pick_f rfl ?_); (first | refine M_bool rfl ?_ | refine W_move ?_))
     <;> (first | refine M_bool rfl ?_ | refine W_move ?_)
     <;> (first | refine W_no rfl ?_ | (refine W_yes rfl ?_; (first | refine M_slice rfl ?_ | refine W_move ?_)))
     <;> (first | refine W_no rfl ?_ | (refine W_yes rfl ?_; (first | refine W_idx1 rfl rfl rfl (by omega) ?_ | refine W_idx rfl rfl rfl (by omega) ?_ | refine W_indexAddr rfl rfl (by omega) (by omega) ?_)))
     <;> (first | refine W_no rfl ?_ | (refine W_yes rfl ?_; (first | refine W_load rfl (Blk.cell (by assumption) (by rfl)) ?_ | refine W_load rfl (by assumption) ?_)))
     <;> (first | refine W_no rfl ?_ | (refine W_yes rfl ?_; (refine W_gtr rfl rfl (fun hc => ?_) (fun hc => ?_) <;> try (exfalso; omega))))
     <;> ((first | refine M_pick_t rfl ?_ | refine M_pick_f rfl ?_); (first | refine M_bool rfl ?_ | refine W_move ?_))
     <;> refine W_nil ?_)
    repeat'
      first
        | refine Q_then ?_ | refine C_cond_t rfl ?_ | refine C_cond_f rfl ?_ | refine C_seq ?_ | refine C_block ?_ | refine C_skip ?_ | refine C_ret ?_ | refine C_exit ?_
        | refine Q_then_ret ?_ | refine Q_then_exit ?_ | refine Q_block ?_ | refine Q_block_ret ?_ | refine Q_block_here ?_ | refine Q_block_on rfl ?_ | refine C_scope ?_ | refine C_label ?_ | refine Q_asn ?_
    (refine C_region ?_
     <;> refine W_build (by rfl) (by rfl) ?_)
    -- at operation 1: <dst=none op=(store 23 (tmp 2) (tmp 24)) type=0 guard=none>
    refine W_store_agg (cs := [.int .i64 0, .int .i64 0, strV []]) rfl rfl rfl (by intro u hu; simp at hu; rcases hu with rfl | rfl <;> rfl) b1 (by simp) (fun w3 p3 => ?_)
    obtain ⟨k3, s3, b3⟩ := p3
    ((refine M_assign ?_; (first | refine M_int rfl ?_ | refine W_move ?_))
     <;> refine W_nil ?_)
    repeat'
      first
        | refine Q_then ?_ | refine C_cond_t rfl ?_ | refine C_cond_f rfl ?_ | refine C_seq ?_ | refine C_block ?_ | refine C_skip ?_ | refine C_ret ?_ | refine C_exit ?_
        | refine Q_then_ret ?_ | refine Q_then_exit ?_ | refine Q_block ?_ | refine Q_block_ret ?_ | refine Q_block_here ?_ | refine Q_block_on rfl ?_ | refine C_scope ?_ | refine C_label ?_ | refine Q_asn ?_
    refine fin_retA1 rfl rfl rfl b3.cells ⟨?_, k1.keep k3 (by simp)⟩
    rw [decode_short (by omega)]; rfl
  obtain ⟨b, o, rfl, _, g⟩ := h.cells (by omega)
  have h3 := three (l := l) (by omega)
  have htl : (l.drop 3).length = l.length - 3 := by simp
  have hd := h.drop 3 (by omega)
  have g0 := g 0 (by omega)
  have g1 := g 1 (by omega)
  have g2 := g 2 (by omega)
  have l0 := (l.getD 0 0).toNat_lt
  have l1 := (l.getD 1 0).toNat_lt
  have l2 := (l.getD 2 0).toNat_lt
  have hunl := un_le (l.getD 1 0) (l.getD 2 0)
  generalize l.getD 0 0 = x0 at *
  generalize l.getD 1 0 = x1 at *
  generalize l.getD 2 0 = x2 at *
  generalize l.drop 3 = t at *
  have c0 := fun W (hW : Ext w W) => hW.cell g0 (by simp)
  have c1 := fun W (hW : Ext w W) => hW.cell g1 (by simp)
  have c2 := fun W (hW : Ext w W) => hW.cell g2 (by simp)
  have hz := c0 w1 k1
  unfold enc8 at hz
  have hwr : writable ⟨x0.toNat, un x1 x2, t⟩ = true ↔ 1 ≤ (x0.toNat : Int) ∧ (x0.toNat : Int) ≤ 4 ∧ l.length ≤ 4000 := by
    rw [writable_iff]
    simp only
    constructor
    · rintro ⟨h1, h2, _, _, h5⟩; exact ⟨h1, h2, by omega⟩
    · rintro ⟨h1, h2, h5⟩; exact ⟨h1, h2, by omega, by omega, by omega⟩
  (refine C_region ?_
   <;> (first | refine M_slice rfl ?_ | refine W_move ?_)
   <;> refine W_len rfl ?_
   <;> (refine W_lss rfl rfl (fun hc => ?_) (fun hc => ?_) <;> try (exfalso; omega))
   <;> (first | refine M_bool rfl ?_ | refine W_move ?_)
   <;> (first | refine W_no rfl ?_ | (refine W_yes rfl ?_; (first | refine M_slice rfl ?_ | refine W_move ?_)))
   <;> (first | refine W_no rfl ?_ | (refine W_yes rfl ?_; refine W_len rfl ?_))
   <;> (first | refine W_no rfl ?_ | (refine W_yes rfl ?_; (refine W_gtr rfl rfl (fun hc => ?_) (fun hc => ?_) <;> try (exfalso; omega))))
   <;> ((first | refine M_pick_t rfl ?_ | refine M_pick_f rfl ?_); (first | refine M_bool rfl ?_ | refine W_move ?_))
   <;> (first | refine M_bool rfl ?_ | refine W_move ?_)
   <;> (first | refine W_no rfl ?_ | (refine W_yes rfl ?_; (first | refine M_slice rfl ?_ | refine W_move ?_)))
   <;> (first | refine W_no rfl ?_ | (refine W_yes rfl ?_; (first | refine W_idx1 rfl rfl rfl (by omega) ?_ | refine W_idx rfl rfl rfl (by omega) ?_ | refine W_indexAddr rfl rfl (by omega) (by omega) ?_)))
   <;> (first | refine W_no rfl ?_ | (refine W_yes rfl ?_; (first | refine W_load rfl (Blk.cell (by assumption) (by rfl)) ?_ | refine W_load rfl (by assumption) ?_)))
   <;> (first | refine W_no rfl ?_ | (refine W_yes rfl ?_; (refine W_lss rfl rfl (fun hc => ?_) (fun hc => ?_) <;> try (exfalso; omega))))
   <;> ((first | refine M_pick_t rfl ?_ | refine M_pick_f rfl ?_); (first | refine M_bool rfl ?_ | refine W_move ?_))
   <;> (first | refine M_bool rfl ?_ | refine W_move ?_)
   <;> (first | refine W_no rfl ?_ | (refine W_yes rfl ?_; (first | refine M_slice rfl ?_ | refine W_move ?_)))
   <;> (first | refine W_no rfl ?_ | (refine W_yes rfl ?_; (first | refine W_idx1 rfl rfl rfl (by omega) ?_ | refine W_idx rfl rfl rfl (by omega) ?_ | refine W_indexAddr rfl rfl (by omega) (by omega) ?_)))
   <;> (first | refine W_no rfl ?_ | (refine W_yes rfl ?_; (first | refine W_load rfl (Blk.cell (by assumption) (by rfl)) ?_ | refine W_load rfl (by assumption) ?_)))
   <;> (first | refine W_no rfl ?_ | (refine W_yes rfl ?_; (refine W_gtr rfl rfl (fun hc => ?_) (fun hc => ?_) <;> try (exfalso; omega))))
   <;> ((first | refine M_pick_t rfl ?_ | refine M_pick_f rfl ?_); (first | refine M_bool rfl ?_ | refine W_move ?_))
   <;> refine W_nil ?_)
  all_goals
    repeat'
      first
        | refine Q_then ?_ | refine C_cond_t rfl ?_ | refine C_cond_f rfl ?_ | refine C_seq ?_ | refine C_block ?_ | refine C_skip ?_ | refine C_ret ?_ | refine C_exit ?_
        | refine Q_then_ret ?_ | refine Q_then_exit ?_ | refine Q_block ?_ | refine Q_block_ret ?_ | refine Q_block_here ?_ | refine Q_block_on rfl ?_ | refine C_scope ?_ | refine C_label ?_ | refine Q_asn ?_
  any_goals
    have hw : writable ⟨x0.toNat, un x1 x2, t⟩ = false := by rw [Bool.eq_false_iff, Ne, hwr]; omega
    (refine C_region ?_
     <;> refine W_build (by rfl) (by rfl) ?_)
    -- at operation 1: <dst=none op=(store 23 (tmp 2) (tmp 24)) type=0 guard=none>
    refine W_store_agg (cs := [.int .i64 0, .int .i64 0, strV []]) rfl rfl rfl (by intro u hu; simp at hu; rcases hu with rfl | rfl <;> rfl) b1 (by simp) (fun w3 p3 => ?_)
    obtain ⟨k3, s3, b3⟩ := p3
    ((refine M_assign ?_; (first | refine M_int rfl ?_ | refine W_move ?_))
     <;> refine W_nil ?_)
    repeat'
      first
        | refine Q_then ?_ | refine C_cond_t rfl ?_ | refine C_cond_f rfl ?_ | refine C_seq ?_ | refine C_block ?_ | refine C_skip ?_ | refine C_ret ?_ | refine C_exit ?_
        | refine Q_then_ret ?_ | refine Q_then_exit ?_ | refine Q_block ?_ | refine Q_block_ret ?_ | refine Q_block_here ?_ | refine Q_block_on rfl ?_ | refine C_scope ?_ | refine C_label ?_ | refine Q_asn ?_
    refine fin_retA1 rfl rfl rfl b3.cells ⟨?_, k1.keep k3 (by simp)⟩
    rw [h3, decode_none hw]; rfl
  have hw : writable ⟨x0.toNat, un x1 x2, t⟩ = true := by rw [hwr]; omega
  unfold enc8 at c0
  refine C_drawN (.read 0 (.read 1 (.read 2 (.read 3 (.read 4 (.read 5 (.read 6 (.read 7 (.read 8 (.read 9 (.read 11 (.read 12 (.read 13 (.alt 10 (.read 14 (.alt 15 (.read 16 .done) .stop)) .stop)))))))))))))) mixed (by kernel_rfl) (fun wd kd ed => ⟨Ext w, ?_, ?_⟩)
  · exact k1.trans kd
  ((apply D_R rfl rfl; (intro W hW; (first | refine M_slice rfl ?_ | refine W_move ?_); exact W_nil ⟨rfl, rfl, rfl⟩))
   <;> (apply D_R rfl rfl; (intro W hW; (first | refine W_idx1 rfl rfl rfl (by omega) ?_ | refine W_idx rfl rfl rfl (by omega) ?_ | refine W_indexAddr rfl rfl (by omega) (by omega) ?_); exact W_nil ⟨rfl, rfl, rfl⟩))
   <;> (apply D_R rfl rfl; (intro W hW; (first | refine W_load rfl (c0 W hW) ?_ | refine W_load rfl (c1 W hW) ?_ | refine W_load rfl (c2 W hW) ?_ | refine W_load_agg rfl (by rfl) (c0 W hW) ?_ | refine W_load_agg rfl (by rfl) (c1 W hW) ?_ | refine W_load_agg rfl (by rfl) (c2 W hW) ?_); exact W_nil ⟨rfl, rfl, rfl⟩))
   <;> (apply D_R rfl rfl; (intro W hW; refine W_conv rfl (by first | exact inR_i64 (by omega) (by omega) | exact inR_u8 (by omega) (by omega) | exact inR_u16 (by omega) (by omega)) ?_; exact W_nil ⟨rfl, rfl, rfl⟩))
   <;> (apply D_R rfl rfl; (intro W hW; (first | refine M_slice rfl ?_ | refine W_move ?_); exact W_nil ⟨rfl, rfl, rfl⟩))
   <;> (apply D_R rfl rfl; (intro W hW; (first | refine W_idx1 rfl rfl rfl (by omega) ?_ | refine W_idx rfl rfl rfl (by omega) ?_ | refine W_indexAddr rfl rfl (by omega) (by omega) ?_); exact W_nil ⟨rfl, rfl, rfl⟩))
   <;> (apply D_R rfl rfl; (intro W hW; (first | refine W_load rfl (c0 W hW) ?_ | refine W_load rfl (c1 W hW) ?_ | refine W_load rfl (c2 W hW) ?_ | refine W_load_agg rfl (by rfl) (c0 W hW) ?_ | refine W_load_agg rfl (by rfl) (c1 W hW) ?_ | refine W_load_agg rfl (by rfl) (c2 W hW) ?_); exact W_nil ⟨rfl, rfl, rfl⟩))
   <;> (apply D_R rfl rfl; (intro W hW; (first | refine M_slice rfl ?_ | refine W_move ?_); exact W_nil ⟨rfl, rfl, rfl⟩))
   <;> (apply D_R rfl rfl; (intro W hW; (first | refine W_idx1 rfl rfl rfl (by omega) ?_ | refine W_idx rfl rfl rfl (by omega) ?_ | refine W_indexAddr rfl rfl (by omega) (by omega) ?_); exact W_nil ⟨rfl, rfl, rfl⟩))
   <;> (apply D_R rfl rfl; (intro W hW; (first | refine W_load rfl (c0 W hW) ?_ | refine W_load rfl (c1 W hW) ?_ | refine W_load rfl (c2 W hW) ?_ | refine W_load_agg rfl (by rfl) (c0 W hW) ?_ | refine W_load_agg rfl (by rfl) (c1 W hW) ?_ | refine W_load_agg rfl (by rfl) (c2 W hW) ?_); exact W_nil ⟨rfl, rfl, rfl⟩))
   <;> (apply D_R rfl rfl; (intro W hW; (first | refine M_slice rfl ?_ | refine W_move ?_); exact W_nil ⟨rfl, rfl, rfl⟩))
   <;> (apply D_R rfl rfl; (intro W hW; refine W_slice_l rfl rfl (by omega) (by omega) ?_; exact W_nil ⟨rfl, rfl, rfl⟩)))
  -- at place 12, operation 13: <dst=(some 38) op=(convert 24 9 (tmp 37)) type=9 guard=none>
  refine D_R rfl rfl (fun W hW => W_bstr rfl (hd.ext hW) (W_nil ⟨rfl, rfl, rfl⟩)) ?_
  skip
  -- at place 13, operation 10: <dst=(some 35) op=(call <callee=(value (func 24)) args=[(tmp 31), (tmp 34)] argTypes=[5, 5]>) type=3 guard=none>
  refine D_E rfl ?_
  refine W_call (joined_any x1 x2 _) rfl ?_
  rintro u2 w2 ⟨rfl, rfl⟩
  refine W_nil ⟨Ext w, fun _ h => h, k1.trans kd, ?_⟩
  ((apply D_R rfl rfl; (intro W hW; refine W_build (by rfl) (by rfl) ?_; exact W_nil ⟨rfl, rfl, rfl⟩)))
  -- at place 15, operation 15: <dst=none op=(store 23 (tmp 2) (tmp 39)) type=0 guard=none>
  refine D_E rfl ?_
  refine W_store_agg (cs := [.int .i64 x0.toNat, .int .i64 (un x1 x2 : Nat), strV t]) rfl rfl rfl (by intro u hu; simp at hu; rcases hu with rfl | rfl | rfl <;> rfl) (b1.keep kd (by simp)) (by simp) (fun w3 p3 => ?_)
  obtain ⟨k3, s3, b3⟩ := p3
  have k13 : Ext w w3 := (k1.trans kd).keep k3 (by simp)
  refine W_nil ⟨Ext w, fun _ h => h, k13, ?_⟩
  ((apply D_R rfl rfl; (intro W hW; (refine M_assign ?_; (first | refine M_int rfl ?_ | refine W_move ?_)); exact W_nil ⟨rfl, rfl, rfl⟩))
   <;> refine D_nil ?_)
  repeat'
    first
      | refine Q_then ?_ | refine C_cond_t rfl ?_ | refine C_cond_f rfl ?_ | refine C_seq ?_ | refine C_block ?_ | refine C_skip ?_ | refine C_ret ?_ | refine C_exit ?_
      | refine Q_then_ret ?_ | refine Q_then_exit ?_ | refine Q_block ?_ | refine Q_block_ret ?_ | refine Q_block_here ?_ | refine Q_block_on rfl ?_ | refine C_scope ?_ | refine C_label ?_ | refine Q_asn ?_
  refine fin_retA1 rfl rfl rfl b3.cells ⟨?_, k13⟩
  rw [h3, decode_some hw]; rfl

theorem enc_cells (z a b c : Value) (t : List UInt8) : splice ((((List.replicate (3 + t.length) z).set 0 a).set 1 b).set 2 c) 3 (cells8 t) = a :: b :: c :: cells8 t := by
  rw [show 3 + t.length = t.length + 1 + 1 + 1 by omega]
  simp [splice, List.replicate_succ, cells8_length]
  rw [show 3 + t.length = t.length + 1 + 1 + 1 by omega]
  simp

theorem Encode_any (e : Ent) (w : World) :
    Fn Try.prog 18 [entV e] w fun v w' => w'.ownsRow w.heap.size 5 1 v (encode e).length (cells8 (encode e)) ∧ Ext w w' := by
  refine fn_of_wc Try.func18 rfl Try.ntmps18 (Nat.le_of_ble_eq_true rfl) (by kernel_rfl) ?_
  repeat'
    first
      | refine Q_then ?_ | refine C_cond_t rfl ?_ | refine C_cond_f rfl ?_ | refine C_seq ?_ | refine C_block ?_ | refine C_skip ?_ | refine C_ret ?_ | refine C_exit ?_
      | refine Q_then_ret ?_ | refine Q_then_exit ?_ | refine Q_block ?_ | refine Q_block_ret ?_ | refine Q_block_here ?_ | refine Q_block_on rfl ?_ | refine C_scope ?_ | refine C_label ?_ | refine Q_asn ?_
  refine C_region ?_
  refine W_box (L := [.int .i64 e.kind, .int .i64 e.n, strV e.text]) rfl (fun w1 n1 => ?_)
  obtain ⟨k1, s1, b1⟩ := n1
  ((refine M_assign ?_; (first | refine M_slice rfl ?_ | refine W_move ?_))
   <;> refine W_nil ?_)
  repeat'
    first
      | refine Q_then ?_ | refine C_cond_t rfl ?_ | refine C_cond_f rfl ?_ | refine C_seq ?_ | refine C_block ?_ | refine C_skip ?_ | refine C_ret ?_ | refine C_exit ?_
      | refine Q_then_ret ?_ | refine Q_then_exit ?_ | refine Q_block ?_ | refine Q_block_ret ?_ | refine Q_block_here ?_ | refine Q_block_on rfl ?_ | refine C_scope ?_ | refine C_label ?_ | refine Q_asn ?_
  (refine C_region ?_
   <;> (refine M_assign ?_; (first | refine M_int rfl ?_ | refine W_move ?_))
   <;> refine W_nil ?_)
  repeat'
    first
      | refine Q_then ?_ | refine C_cond_t rfl ?_ | refine C_cond_f rfl ?_ | refine C_seq ?_ | refine C_block ?_ | refine C_skip ?_ | refine C_ret ?_ | refine C_exit ?_
      | refine Q_then_ret ?_ | refine Q_then_exit ?_ | refine Q_block ?_ | refine Q_block_ret ?_ | refine Q_block_here ?_ | refine Q_block_on rfl ?_ | refine C_scope ?_ | refine C_label ?_ | refine Q_asn ?_
  (refine C_region ?_
   <;> refine W_fieldAddr rfl ?_
   <;> (first | refine W_load rfl (Blk.cell (by assumption) (by rfl)) ?_ | refine W_load rfl (by assumption) ?_)
   <;> (refine W_lss rfl rfl (fun hc => ?_) (fun hc => ?_) <;> try (exfalso; omega))
   <;> (first | refine M_bool rfl ?_ | refine W_move ?_)
   <;> (first | refine W_no rfl ?_ | (refine W_yes rfl ?_; refine W_fieldAddr rfl ?_))
   <;> (first | refine W_no rfl ?_ | (refine W_yes rfl ?_; (first | refine W_load rfl (Blk.cell (by assumption) (by rfl)) ?_ | refine W_load rfl (by assumption) ?_)))
   <;> (first | refine W_no rfl ?_ | (refine W_yes rfl ?_; (refine W_gtr rfl rfl (fun hc => ?_) (fun hc => ?_) <;> try (exfalso; omega))))
   <;> ((first | refine M_pick_t rfl ?_ | refine M_pick_f rfl ?_); (first | refine M_bool rfl ?_ | refine W_move ?_))
   <;> (first | refine M_bool rfl ?_ | refine W_move ?_)
   <;> (first | refine W_no rfl ?_ | (refine W_yes rfl ?_; refine W_fieldAddr rfl ?_))
   <;> (first | refine W_no rfl ?_ | (refine W_yes rfl ?_; (first | refine W_load rfl (Blk.cell (by assumption) (by rfl)) ?_ | refine W_load rfl (by assumption) ?_)))
   <;> (first | refine W_no rfl ?_ | (refine W_yes rfl ?_; (refine W_lss rfl rfl (fun hc => ?_) (fun hc => ?_) <;> try (exfalso; omega))))
   <;> ((first | refine M_pick_t rfl ?_ | refine M_pick_f rfl ?_); (first | refine M_bool rfl ?_ | refine W_move ?_))
   <;> (first | refine M_bool rfl ?_ | refine W_move ?_)
   <;> (first | refine W_no rfl ?_ | (refine W_yes rfl ?_; refine W_fieldAddr rfl ?_))
   <;> (first | refine W_no rfl ?_ | (refine W_yes rfl ?_; (first | refine W_load rfl (Blk.cell (by assumption) (by rfl)) ?_ | refine W_load rfl (by assumption) ?_)))
   <;> (first | refine W_no rfl ?_ | (refine W_yes rfl ?_; (refine W_gtr rfl rfl (fun hc => ?_) (fun hc => ?_) <;> try (exfalso; omega))))
   <;> ((first | refine M_pick_t rfl ?_ | refine M_pick_f rfl ?_); (first | refine M_bool rfl ?_ | refine W_move ?_))
   <;> (first | refine M_bool rfl ?_ | refine W_move ?_)
   <;> (first | refine W_no rfl ?_ | (refine W_yes rfl ?_; refine W_fieldAddr rfl ?_))
   <;> (first | refine W_no rfl ?_ | (refine W_yes rfl ?_; (first | refine W_load rfl (Blk.cell (by assumption) (by rfl)) ?_ | refine W_load rfl (by assumption) ?_)))
   <;> (first | refine W_no rfl ?_ | (refine W_yes rfl ?_; refine W_slen rfl ?_))
   <;> (first | refine W_no rfl ?_ | (refine W_yes rfl ?_; (first | refine M_int rfl ?_ | refine W_move ?_)))
   <;> (first | refine W_no rfl ?_ | (refine W_yes rfl ?_; (refine W_gtr rfl rfl (fun hc => ?_) (fun hc => ?_) <;> try (exfalso; omega))))
   <;> ((first | refine M_pick_t rfl ?_ | refine M_pick_f rfl ?_); (first | refine M_bool rfl ?_ | refine W_move ?_))
   <;> refine W_nil ?_)
  all_goals
    repeat'
      first
        | refine Q_then ?_ | refine C_cond_t rfl ?_ | refine C_cond_f rfl ?_ | refine C_seq ?_ | refine C_block ?_ | refine C_skip ?_ | refine C_ret ?_ | refine C_exit ?_
        | refine Q_then_ret ?_ | refine Q_then_exit ?_ | refine Q_block ?_ | refine Q_block_ret ?_ | refine Q_block_here ?_ | refine Q_block_on rfl ?_ | refine C_scope ?_ | refine C_label ?_ | refine Q_asn ?_
  any_goals
    have hw : writable e = false := by rw [Bool.eq_false_iff, Ne, writable_iff]; omega
    (refine C_region ?_
     <;> (refine M_assign ?_; (first | refine M_slice rfl ?_ | refine W_move ?_))
     <;> refine W_nil ?_)
    repeat'
      first
        | refine Q_then ?_ | refine C_cond_t rfl ?_ | refine C_cond_f rfl ?_ | refine C_seq ?_ | refine C_block ?_ | refine C_skip ?_ | refine C_ret ?_ | refine C_exit ?_
        | refine Q_then_ret ?_ | refine Q_then_exit ?_ | refine Q_block ?_ | refine Q_block_ret ?_ | refine Q_block_here ?_ | refine Q_block_on rfl ?_ | refine C_scope ?_ | refine C_label ?_ | refine Q_asn ?_
    have he : encode e = [] := by simp [encode, hw]
    rw [he]
    exact fin_ret1 rfl ⟨⟨rfl, .inl ⟨rfl, rfl⟩⟩, k1⟩
  have hw : writable e = true := by rw [writable_iff]; omega
  have he : encode e = b8 e.kind.toNat :: (two e.n.toNat ++ e.text) := by simp [encode, hw]
  rw [he]
  (refine C_region ?_
   <;> refine W_fieldAddr rfl ?_
   <;> (first | refine W_load rfl (Blk.cell (by assumption) (by rfl)) ?_ | refine W_load rfl (by assumption) ?_)
   <;> refine W_slen rfl ?_
   <;> refine W_add rfl rfl (by first | exact inR_i64 (by omega) (by omega) | exact inR_u8 (by omega) (by omega) | exact inR_u16 (by omega) (by omega)) ?_)
  -- at operation 4: <dst=(some 34) op=(makeSlice 24 (tmp 33) (tmp 33)) type=24 guard=none>
  refine W_make1 (n := 3 + e.text.length) rfl rfl rfl (by omega) (by omega) (by omega) (by omega) (fun w2 n2 => ?_)
  obtain ⟨k2, s2, b2⟩ := n2
  ((refine M_assign ?_; (first | refine M_slice rfl ?_ | refine W_move ?_))
   <;> refine W_nil ?_)
  repeat'
    first
      | refine Q_then ?_ | refine C_cond_t rfl ?_ | refine C_cond_f rfl ?_ | refine C_seq ?_ | refine C_block ?_ | refine C_skip ?_ | refine C_ret ?_ | refine C_exit ?_
      | refine Q_then_ret ?_ | refine Q_then_exit ?_ | refine Q_block ?_ | refine Q_block_ret ?_ | refine Q_block_here ?_ | refine Q_block_on rfl ?_ | refine C_scope ?_ | refine C_label ?_ | refine Q_asn ?_
  have hlt1 := b1.lt
  replace b1 := b1.keep k2 (by simp)
  replace k2 := k1.trans k2
  rw [show List.replicate (3 + e.text.length) (Value.int .u8 0) = List.replicate (3 + e.text.length) (Value.int .u8 0) from rfl] at b2
  (refine C_region ?_
   <;> (first | refine M_slice rfl ?_ | refine W_move ?_)
   <;> refine W_fieldAddr rfl ?_
   <;> (first | refine W_load rfl (Blk.cell (by assumption) (by rfl)) ?_ | refine W_load rfl (by assumption) ?_)
   <;> refine W_conv rfl (by first | exact inR_i64 (by omega) (by omega) | exact inR_u8 (by omega) (by omega) | exact inR_u16 (by omega) (by omega)) ?_
   <;> (first | refine W_idx1 rfl rfl rfl (by omega) ?_ | refine W_idx rfl rfl rfl (by omega) ?_ | refine W_indexAddr rfl rfl (by omega) (by omega) ?_))
  -- at operation 5: <dst=none op=(store 5 (tmp 39) (tmp 38)) type=0 guard=none>
  refine W_store (v := .int .u8 e.kind) rfl rfl rfl b2 (by simp; omega) (fun w3 p3 => ?_)
  obtain ⟨k3, s3, b3⟩ := p3
  replace b1 := b1.keep k3 (by simp; omega)
  have hs := k1.size
  replace k3 := k2.keep k3 (by simp; omega)
  refine W_nil ?_
  repeat'
    first
      | refine Q_then ?_ | refine C_cond_t rfl ?_ | refine C_cond_f rfl ?_ | refine C_seq ?_ | refine C_block ?_ | refine C_skip ?_ | refine C_ret ?_ | refine C_exit ?_
      | refine Q_then_ret ?_ | refine Q_then_exit ?_ | refine Q_block ?_ | refine Q_block_ret ?_ | refine Q_block_here ?_ | refine Q_block_on rfl ?_ | refine C_scope ?_ | refine C_label ?_ | refine Q_asn ?_
  (refine C_region ?_
   <;> (first | refine M_slice rfl ?_ | refine W_move ?_)
   <;> (first | refine M_slice rfl ?_ | refine W_move ?_)
   <;> refine W_fieldAddr rfl ?_
   <;> (first | refine W_load rfl (Blk.cell (by assumption) (by rfl)) ?_ | refine W_load rfl (by assumption) ?_))
  -- at operation 4: <dst=(some 45) op=(call <callee=(value (func 26)) args=[(tmp 44)] argTypes=[3]>) type=50 guard=none>
  have en : ((e.n : Int)) = ((e.n.toNat : Nat) : Int) := by omega
  have ht := fun w => halves_any e.n.toNat w (by omega)
  rw [← en] at ht
  refine W_call (ht _) rfl ?_
  rintro u4 w4 ⟨rfl, rfl⟩
  ((first | refine M_tuple rfl ?_ | refine W_move ?_)
   <;> refine W_extract rfl rfl ?_
   <;> refine W_extract rfl rfl ?_
   <;> (first | refine W_idx1 rfl rfl rfl (by omega) ?_ | refine W_idx rfl rfl rfl (by omega) ?_ | refine W_indexAddr rfl rfl (by omega) (by omega) ?_))
  -- at operation 9: <dst=none op=(store 5 (tmp 48) (tmp 46)) type=0 guard=none>
  refine W_store (v := enc8 (b8 (e.n.toNat / 256))) rfl rfl rfl b3 (by simp; omega) (fun w5 p5 => ?_)
  obtain ⟨k5, s5, b5⟩ := p5
  replace b1 := b1.keep k5 (by simp; omega)
  replace k5 := k3.keep k5 (by simp; omega)
  ((first | refine W_idx1 rfl rfl rfl (by omega) ?_ | refine W_idx rfl rfl rfl (by omega) ?_ | refine W_indexAddr rfl rfl (by omega) (by omega) ?_))
  -- at operation 11: <dst=none op=(store 5 (tmp 49) (tmp 47)) type=0 guard=none>
  refine W_store (v := enc8 (b8 (e.n.toNat % 256))) rfl rfl rfl b5 (by simp; omega) (fun w6 p6 => ?_)
  obtain ⟨k6, s6, b6⟩ := p6
  replace b1 := b1.keep k6 (by simp; omega)
  replace k6 := k5.keep k6 (by simp; omega)
  refine W_nil ?_
  repeat'
    first
      | refine Q_then ?_ | refine C_cond_t rfl ?_ | refine C_cond_f rfl ?_ | refine C_seq ?_ | refine C_block ?_ | refine C_skip ?_ | refine C_ret ?_ | refine C_exit ?_
      | refine Q_then_ret ?_ | refine Q_then_exit ?_ | refine Q_block ?_ | refine Q_block_ret ?_ | refine Q_block_here ?_ | refine Q_block_on rfl ?_ | refine C_scope ?_ | refine C_label ?_ | refine Q_asn ?_
  obtain ⟨S, hS⟩ : ∃ S : World → Prop, ∀ W, S W ↔ Blk W w.heap.size 23 [.int .i64 e.kind, .int .i64 e.n, strV e.text] := ⟨_, fun _ => Iff.rfl⟩
  have c2 := fun W (hW : S W) => ((hS W).1 hW).cell (o := 2) rfl
  refine C_drawN (.read 0 (.read 1 (.read 2 (.read 3 (.alt 4 .done .stop))))) mixed (by kernel_rfl) (fun wd kd ed => ⟨S, ?_, ?_⟩)
  · exact (hS _).2 (b1.keep kd (by simp))
  ((apply D_R rfl rfl; (intro W hW; (first | refine M_slice rfl ?_ | refine W_move ?_); exact W_nil ⟨rfl, rfl, rfl⟩))
   <;> (apply D_R rfl rfl; (intro W hW; refine W_slice_l rfl rfl (by omega) (by omega) ?_; exact W_nil ⟨rfl, rfl, rfl⟩))
   <;> (apply D_R rfl rfl; (intro W hW; refine W_fieldAddr rfl ?_; exact W_nil ⟨rfl, rfl, rfl⟩))
   <;> (apply D_R rfl rfl; (intro W hW; (first | refine W_load rfl (c2 W hW) ?_ | refine W_load_agg rfl (by rfl) (c2 W hW) ?_); exact W_nil ⟨rfl, rfl, rfl⟩)))
  -- at place 4, operation 4: <dst=(some 54) op=(call <callee=(builtin copy) args=[(tmp 51), (tmp 53)] argTypes=[24, 9]>) type=3 guard=none>
  refine D_E rfl ?_
  have t3 : (3 : Int).toNat = 3 := rfl
  rw [t3]
  refine W_copy_str (off := 3) (str := e.text) (dLen := 3 + e.text.length - 3) rfl rfl (b6.keep kd (by simp)) (by omega) (fun hp => ?_) (by simp) (fun w7 p7 => ?_)
  · simp only [adv]
    rw [if_neg (by omega)]
    simp [Addr.add_lit]
  obtain ⟨k7, s7, b7⟩ := p7
  have e7 : Ext w w7 := (k6.trans kd).keep k7 (by simp; omega)
  refine W_nil ⟨S, fun _ h => h, (hS _).2 ((b1.keep kd (by simp)).keep k7 (by simp; omega)), ?_⟩
  (refine D_nil ?_)
  repeat'
    first
      | refine Q_then ?_ | refine C_cond_t rfl ?_ | refine C_cond_f rfl ?_ | refine C_seq ?_ | refine C_block ?_ | refine C_skip ?_ | refine C_ret ?_ | refine C_exit ?_
      | refine Q_then_ret ?_ | refine Q_then_exit ?_ | refine Q_block ?_ | refine Q_block_ret ?_ | refine Q_block_here ?_ | refine Q_block_on rfl ?_ | refine C_scope ?_ | refine C_label ?_ | refine Q_asn ?_
  (refine C_region ?_
   <;> (first | refine M_slice rfl ?_ | refine W_move ?_)
   <;> (refine M_assign ?_; (first | refine M_slice rfl ?_ | refine W_move ?_))
   <;> refine W_nil ?_)
  repeat'
    first
      | refine Q_then ?_ | refine C_cond_t rfl ?_ | refine C_cond_f rfl ?_ | refine C_seq ?_ | refine C_block ?_ | refine C_skip ?_ | refine C_ret ?_ | refine C_exit ?_
      | refine Q_then_ret ?_ | refine Q_then_exit ?_ | refine Q_block ?_ | refine Q_block_ret ?_ | refine Q_block_here ?_ | refine Q_block_on rfl ?_ | refine C_scope ?_ | refine C_label ?_ | refine Q_asn ?_
  have hlen : (b8 e.kind.toNat :: (two e.n.toNat ++ e.text)).length = 3 + e.text.length := by simp [two_length]; omega
  rw [hlen]
  refine fin_ret1 rfl ⟨?_, e7⟩
  have ek : ((e.kind : Int)) = ((e.kind.toNat : Nat) : Int) := by omega
  have e8 : enc8 (b8 e.kind.toNat) = .int .u8 e.kind := by rw [enc8_b8 (by omega), ← ek]
  have hcs : cells8 (b8 e.kind.toNat :: (two e.n.toNat ++ e.text)) = .int .u8 e.kind :: enc8 (b8 (e.n.toNat / 256)) :: enc8 (b8 (e.n.toNat % 256)) :: cells8 e.text := by
    rw [← e8]; rfl
  rw [hcs]
  replace b7 : Blk w7 w1.heap.size 5 (splice ((((List.replicate (3 + e.text.length) (.int .u8 0)).set 0 (.int .u8 e.kind)).set 1 (enc8 (b8 (e.n.toNat / 256)))).set 2 (enc8 (b8 (e.n.toNat % 256)))) 3 (cells8 e.text)) := b7
  rw [enc_cells] at b7
  refine ⟨by simp [cells8_length]; omega, .inr ⟨w1.heap.size, 3 + e.text.length, _, rfl, by omega, b7, Nat.le_refl _, by unfold maxLen; omega, by simp [cells8_length]; omega, ?_⟩⟩
  rw [List.take_of_length_le (by simp [cells8_length]; omega)]
end Go.Proofs.Ytfbahfibgmdlnaa
