/- Entries out of bytes, walked. Conditions: none. -/
import Derived.Test.YtfbahfibgmdlnaaJ6
namespace Go.Proofs.Ytfbahfibgmdlnaa
open Go.RowKit
set_option linter.unusedVariables false

def decV : Option Ent → Value
  | some e => .tuple #[entV e, .int .i64 0]
  | none => .tuple #[entV zeroE, .int .i64 380]
theorem decode_some {a b c : UInt8} {t : List UInt8} (h : writable ⟨a.toNat, un b c, t⟩ = true) : decode (a :: b :: c :: t) = some ⟨a.toNat, un b c, t⟩ := by simp [decode, h]
theorem decode_none {a b c : UInt8} {t : List UInt8} (h : writable ⟨a.toNat, un b c, t⟩ = false) : decode (a :: b :: c :: t) = none := by simp [decode, h]
theorem decode_short {l : List UInt8} (h : l.length < 3) : decode l = none := by
  match l with
  | [] => rfl
  | [_] => rfl
  | [_, _] => rfl
  | _ :: _ :: _ :: _ => simp at h; omega
theorem three {l : List UInt8} (h : 3 ≤ l.length) : l = l.getD 0 0 :: l.getD 1 0 :: l.getD 2 0 :: l.drop 3 := by
  match l with
  | [] => simp at h
  | [_] => simp at h
  | [_, _] => simp at h
  | _ :: _ :: _ :: _ => simp

theorem refDecode_any (v : Value) (l : List UInt8) (w : World) (h : BytesAt anyB w v l) :
    Fn Try.prog 12 [v] w fun v w' => v = decV (decode l) ∧ Ext w w' := by
  have h0 := h
  obtain ⟨a, c, rfl, hl, hc, hm, hx⟩ := h0
  refine fn_of_wc Try.func12 rfl Try.ntmps12 (Nat.le_of_ble_eq_true rfl) (by kernel_rfl) ?_
  repeat'
    first
      | refine Q_then ?_ | refine C_cond_t rfl ?_ | refine C_cond_f rfl ?_ | refine C_seq ?_ | refine C_block ?_ | refine C_skip ?_ | refine C_ret ?_ | refine C_exit ?_
      | refine Q_then_ret ?_ | refine Q_then_exit ?_ | refine Q_block ?_ | refine Q_block_ret ?_ | refine Q_block_here ?_ | refine Q_block_on rfl ?_ | refine C_scope ?_ | refine C_label ?_ | refine Q_asn ?_
  refine C_region ?_
  refine W_alloc (fun w1 n1 => ?_)
  obtain ⟨k1, s1, b1⟩ := n1
  ((refine M_assign ?_; (first | refine M_int rfl ?_ | refine W_move ?_))
   <;> refine W_nil ?_)
  repeat'
    first
      | refine Q_then ?_ | refine C_cond_t rfl ?_ | refine C_cond_f rfl ?_ | refine C_seq ?_ | refine C_block ?_ | refine C_skip ?_ | refine C_ret ?_ | refine C_exit ?_
      | refine Q_then_ret ?_ | refine Q_then_exit ?_ | refine Q_block ?_ | refine Q_block_ret ?_ | refine Q_block_here ?_ | refine Q_block_on rfl ?_ | refine C_scope ?_ | refine C_label ?_ | refine Q_asn ?_
  (refine C_region ?_
   <;> (first | refine M_slice rfl ?_ | refine W_move ?_)
   <;> refine W_len rfl ?_
   <;> (refine W_lss rfl rfl (fun hc => ?_) (fun hc => ?_) <;> try (exfalso; omega))
   <;> refine W_nil ?_)
  · repeat'
      first
        | refine Q_then ?_ | refine C_cond_t rfl ?_ | refine C_cond_f rfl ?_ | refine C_seq ?_ | refine C_block ?_ | refine C_skip ?_ | refine C_ret ?_ | refine C_exit ?_
        | refine Q_then_ret ?_ | refine Q_then_exit ?_ | refine Q_block ?_ | refine Q_block_ret ?_ | refine Q_block_here ?_ | refine Q_block_on rfl ?_ | refine C_scope ?_ | refine C_label ?_ | refine Q_asn ?_
    (refine C_region ?_
     <;> refine W_build (by rfl) (by rfl) ?_)
    -- at operation 1: <dst=none op=(store 23 (tmp 2) (tmp 9)) type=0 guard=none>
    refine W_store_agg (cs := [.int .i64 0, .int .i64 0, strV []]) rfl rfl rfl (by intro u hu; simp at hu; rcases hu with rfl | rfl <;> rfl) b1 (by simp) (fun w3 p3 => ?_)
    obtain ⟨k3, s3, b3⟩ := p3
    ((refine M_assign ?_; (first | refine M_int rfl ?_ | refine W_move ?_))
     <;> refine W_nil ?_)
    repeat'
      first
        | refine Q_then ?_ | refine C_cond_t rfl ?_ | refine C_cond_f rfl ?_ | refine C_seq ?_ | refine C_block ?_ | refine C_skip ?_ | refine C_ret ?_ | refine C_exit ?_
        | refine Q_then_ret ?_ | refine Q_then_exit ?_ | refine Q_block ?_ | refine Q_block_ret ?_ | refine Q_block_here ?_ | refine Q_block_on rfl ?_ | refine C_scope ?_ | refine C_label ?_ | refine Q_asn ?_
    refine fin_retA1 rfl rfl rfl b3.cells ⟨?_, k1.keep k3 (by simp)⟩
    rw [decode_short (by omega)]; rfl
  repeat'
    first
      | refine Q_then ?_ | refine C_cond_t rfl ?_ | refine C_cond_f rfl ?_ | refine C_seq ?_ | refine C_block ?_ | refine C_skip ?_ | refine C_ret ?_ | refine C_exit ?_
      | refine Q_then_ret ?_ | refine Q_then_exit ?_ | refine Q_block ?_ | refine Q_block_ret ?_ | refine Q_block_here ?_ | refine Q_block_on rfl ?_ | refine C_scope ?_ | refine C_label ?_ | refine Q_asn ?_
  obtain ⟨b, o, rfl, _, g⟩ := h.cells (by omega)
  have h3 := three (l := l) (by omega)
  have hd := h.drop 3 (by omega)
  have g0 := g 0 (by omega)
  have g1 := g 1 (by omega)
  have g2 := g 2 (by omega)
  have l0 := (l.getD 0 0).toNat_lt
  have l1 := (l.getD 1 0).toNat_lt
  have l2 := (l.getD 2 0).toNat_lt
  have hun : ((un (l.getD 1 0) (l.getD 2 0) : Nat) : Int) = ((l.getD 1 0).toNat : Int) * 256 + ((l.getD 2 0).toNat : Int) := by simp [un]
  generalize l.getD 0 0 = x0 at *
  generalize l.getD 1 0 = x1 at *
  generalize l.getD 2 0 = x2 at *
  unfold enc8 at g0 g1 g2
  have c0 := fun W (hW : Ext w1 W) => (k1.trans hW).cell g0 (by simp)
  have c1 := fun W (hW : Ext w1 W) => (k1.trans hW).cell g1 (by simp)
  have c2 := fun W (hW : Ext w1 W) => (k1.trans hW).cell g2 (by simp)
  refine C_drawN (.read 0 (.read 1 (.read 2 (.read 3 (.read 4 (.read 5 (.read 6 (.read 7 (.read 8 (.read 9 (.read 10 (.read 11 (.read 12 (.read 13 (.read 14 (.read 15 (.read 16 (.read 17 (.alt 18 (.alt 19 .done .stop) .stop))))))))))))))))))) mixed (by kernel_rfl) (fun wd kd ed => ⟨Ext w1, ?_, ?_⟩)
  · exact kd
  ((apply D_R rfl rfl; (intro W hW; (first | refine M_slice rfl ?_ | refine W_move ?_); exact W_nil ⟨rfl, rfl, rfl⟩))
   <;> (apply D_R rfl rfl; (intro W hW; (first | refine W_idx1 rfl rfl rfl (by omega) ?_ | refine W_idx rfl rfl rfl (by omega) ?_ | refine W_indexAddr rfl rfl (by omega) (by omega) ?_); exact W_nil ⟨rfl, rfl, rfl⟩))
   <;> (apply D_R rfl rfl; (intro W hW; (first | refine W_load rfl (c0 W hW) ?_ | refine W_load rfl (c1 W hW) ?_ | refine W_load rfl (c2 W hW) ?_ | refine W_load_agg rfl (by rfl) (c0 W hW) ?_ | refine W_load_agg rfl (by rfl) (c1 W hW) ?_ | refine W_load_agg rfl (by rfl) (c2 W hW) ?_); exact W_nil ⟨rfl, rfl, rfl⟩))
   <;> (apply D_R rfl rfl; (intro W hW; refine W_conv rfl (by first | exact inR_i64 (by omega) (by omega) | exact inR_u8 (by omega) (by omega) | exact inR_u16 (by omega) (by omega)) ?_; exact W_nil ⟨rfl, rfl, rfl⟩))
   <;> (apply D_R rfl rfl; (intro W hW; (first | refine M_slice rfl ?_ | refine W_move ?_); exact W_nil ⟨rfl, rfl, rfl⟩))
   <;> (apply D_R rfl rfl; (intro W hW; (first | refine W_idx1 rfl rfl rfl (by omega) ?_ | refine W_idx rfl rfl rfl (by omega) ?_ | refine W_indexAddr rfl rfl (by omega) (by omega) ?_); exact W_nil ⟨rfl, rfl, rfl⟩))
   <;> (apply D_R rfl rfl; (intro W hW; (first | refine W_load rfl (c0 W hW) ?_ | refine W_load rfl (c1 W hW) ?_ | refine W_load rfl (c2 W hW) ?_ | refine W_load_agg rfl (by rfl) (c0 W hW) ?_ | refine W_load_agg rfl (by rfl) (c1 W hW) ?_ | refine W_load_agg rfl (by rfl) (c2 W hW) ?_); exact W_nil ⟨rfl, rfl, rfl⟩))
   <;> (apply D_R rfl rfl; (intro W hW; refine W_conv rfl (by first | exact inR_i64 (by omega) (by omega) | exact inR_u8 (by omega) (by omega) | exact inR_u16 (by omega) (by omega)) ?_; exact W_nil ⟨rfl, rfl, rfl⟩))
   <;> (apply D_R rfl rfl; (intro W hW; refine W_mul rfl rfl (by first | exact inR_i64 (by omega) (by omega) | exact inR_u8 (by omega) (by omega) | exact inR_u16 (by omega) (by omega)) ?_; exact W_nil ⟨rfl, rfl, rfl⟩))
   <;> (apply D_R rfl rfl; (intro W hW; (first | refine M_slice rfl ?_ | refine W_move ?_); exact W_nil ⟨rfl, rfl, rfl⟩))
   <;> (apply D_R rfl rfl; (intro W hW; (first | refine W_idx1 rfl rfl rfl (by omega) ?_ | refine W_idx rfl rfl rfl (by omega) ?_ | refine W_indexAddr rfl rfl (by omega) (by omega) ?_); exact W_nil ⟨rfl, rfl, rfl⟩))
   <;> (apply D_R rfl rfl; (intro W hW; (first | refine W_load rfl (c0 W hW) ?_ | refine W_load rfl (c1 W hW) ?_ | refine W_load rfl (c2 W hW) ?_ | refine W_load_agg rfl (by rfl) (c0 W hW) ?_ | refine W_load_agg rfl (by rfl) (c1 W hW) ?_ | refine W_load_agg rfl (by rfl) (c2 W hW) ?_); exact W_nil ⟨rfl, rfl, rfl⟩))
   <;> (apply D_R rfl rfl; (intro W hW; refine W_conv rfl (by first | exact inR_i64 (by omega) (by omega) | exact inR_u8 (by omega) (by omega) | exact inR_u16 (by omega) (by omega)) ?_; exact W_nil ⟨rfl, rfl, rfl⟩))
   <;> (apply D_R rfl rfl; (intro W hW; refine W_add rfl rfl (by first | exact inR_i64 (by omega) (by omega) | exact inR_u8 (by omega) (by omega) | exact inR_u16 (by omega) (by omega)) ?_; exact W_nil ⟨rfl, rfl, rfl⟩))
   <;> (apply D_R rfl rfl; (intro W hW; (first | refine M_slice rfl ?_ | refine W_move ?_); exact W_nil ⟨rfl, rfl, rfl⟩))
   <;> (apply D_R rfl rfl; (intro W hW; refine W_slice_l rfl rfl (by omega) (by omega) ?_; exact W_nil ⟨rfl, rfl, rfl⟩)))
  -- at place 16, operation 16: <dst=(some 26) op=(convert 24 9 (tmp 25)) type=9 guard=none>
  refine D_R rfl rfl (fun W hW => W_bstr rfl (hd.ext (k1.trans hW)) (W_nil ⟨rfl, rfl, rfl⟩)) ?_
  rw [← hun]
  generalize l.drop 3 = t at *
  ((apply D_R rfl rfl; (intro W hW; refine W_build (by rfl) (by rfl) ?_; exact W_nil ⟨rfl, rfl, rfl⟩)))
  -- at place 18, operation 18: <dst=(some 4) op=(alloc 23) type=0 guard=none>
  refine D_E rfl ?_
  refine W_alloc (fun w2 n2 => ?_)
  obtain ⟨k2, s2, b2⟩ := n2
  refine W_nil ⟨Ext w1, fun _ h => h, kd.trans k2, ?_⟩
  refine D_E rfl ?_
  refine W_store_agg (cs := [.int .i64 x0.toNat, .int .i64 (un x1 x2 : Nat), strV t]) rfl rfl rfl (by intro u hu; simp at hu; rcases hu with rfl | rfl | rfl <;> rfl) b2 (by simp) (fun w3 p3 => ?_)
  obtain ⟨k3, s3, b3⟩ := p3
  have hsd := kd.size
  have k13 : Ext w1 w3 := (kd.trans k2).keep k3 (by simp; omega)
  replace b3 : Blk w3 wd.heap.size 23 [.int .i64 x0.toNat, .int .i64 (un x1 x2 : Nat), strV t] := b3
  refine W_nil ⟨Ext w1, fun _ h => h, k13, ?_⟩
  (refine D_nil ?_)
  repeat'
    first
      | refine Q_then ?_ | refine C_cond_t rfl ?_ | refine C_cond_f rfl ?_ | refine C_seq ?_ | refine C_block ?_ | refine C_skip ?_ | refine C_ret ?_ | refine C_exit ?_
      | refine Q_then_ret ?_ | refine Q_then_exit ?_ | refine Q_block ?_ | refine Q_block_ret ?_ | refine Q_block_here ?_ | refine Q_block_on rfl ?_ | refine C_scope ?_ | refine C_label ?_ | refine Q_asn ?_
  refine C_region ?_
  refine W_load_agg (L := [.int .i64 x0.toNat, .int .i64 (un x1 x2 : Nat), strV t]) rfl rfl b3.cells ?_
  refine W_call (Writable_any ⟨x0.toNat, un x1 x2, t⟩ _) rfl ?_
  rintro u4 w4 ⟨rfl, k4⟩
  ((refine M_assign ?_; (first | refine M_bool rfl ?_ | refine W_move ?_))
   <;> refine W_nil ?_)
  repeat'
    first
      | refine Q_then ?_ | refine C_cond_t rfl ?_ | refine C_cond_f rfl ?_ | refine C_seq ?_ | refine C_block ?_ | refine C_skip ?_ | refine C_ret ?_ | refine C_exit ?_
      | refine Q_then_ret ?_ | refine Q_then_exit ?_ | refine Q_block ?_ | refine Q_block_ret ?_ | refine Q_block_here ?_ | refine Q_block_on rfl ?_ | refine C_scope ?_ | refine C_label ?_ | refine Q_asn ?_
  have k14 := k13.trans k4
  have b14 := b1.keep k14 (by simp)
  replace b3 := b3.keep k4 (by simp)
  cases hw : writable ⟨x0.toNat, un x1 x2, t⟩ with
  | false =>
    (refine C_region ?_
     <;> (first | refine M_bool rfl ?_ | refine W_move ?_)
     <;> refine W_not rfl ?_
     <;> refine W_nil ?_)
    repeat'
      first
        | refine Q_then ?_ | refine C_cond_t rfl ?_ | refine C_cond_f rfl ?_ | refine C_seq ?_ | refine C_block ?_ | refine C_skip ?_ | refine C_ret ?_ | refine C_exit ?_
        | refine Q_then_ret ?_ | refine Q_then_exit ?_ | refine Q_block ?_ | refine Q_block_ret ?_ | refine Q_block_here ?_ | refine Q_block_on rfl ?_ | refine C_scope ?_ | refine C_label ?_ | refine Q_asn ?_
    (refine C_region ?_
     <;> refine W_build (by rfl) (by rfl) ?_)
    -- at operation 1: <dst=none op=(store 23 (tmp 2) (tmp 32)) type=0 guard=none>
    refine W_store_agg (cs := [.int .i64 0, .int .i64 0, strV []]) rfl rfl rfl (by intro u hu; simp at hu; rcases hu with rfl | rfl <;> rfl) b14 (by simp) (fun w5 p5 => ?_)
    obtain ⟨k5, s5, b5⟩ := p5
    ((refine M_assign ?_; (first | refine M_int rfl ?_ | refine W_move ?_))
     <;> refine W_nil ?_)
    repeat'
      first
        | refine Q_then ?_ | refine C_cond_t rfl ?_ | refine C_cond_f rfl ?_ | refine C_seq ?_ | refine C_block ?_ | refine C_skip ?_ | refine C_ret ?_ | refine C_exit ?_
        | refine Q_then_ret ?_ | refine Q_then_exit ?_ | refine Q_block ?_ | refine Q_block_ret ?_ | refine Q_block_here ?_ | refine Q_block_on rfl ?_ | refine C_scope ?_ | refine C_label ?_ | refine Q_asn ?_
    refine fin_retA1 rfl rfl rfl b5.cells ⟨?_, (k1.trans k14).keep k5 (by simp)⟩
    rw [h3, decode_none hw]; rfl
  | true =>
    (refine C_region ?_
     <;> (first | refine M_bool rfl ?_ | refine W_move ?_)
     <;> refine W_not rfl ?_
     <;> refine W_nil ?_)
    repeat'
      first
        | refine Q_then ?_ | refine C_cond_t rfl ?_ | refine C_cond_f rfl ?_ | refine C_seq ?_ | refine C_block ?_ | refine C_skip ?_ | refine C_ret ?_ | refine C_exit ?_
        | refine Q_then_ret ?_ | refine Q_then_exit ?_ | refine Q_block ?_ | refine Q_block_ret ?_ | refine Q_block_here ?_ | refine Q_block_on rfl ?_ | refine C_scope ?_ | refine C_label ?_ | refine Q_asn ?_
    refine C_region ?_
    refine W_load_agg (L := [.int .i64 x0.toNat, .int .i64 (un x1 x2 : Nat), strV t]) rfl rfl b3.cells ?_
    refine W_store_agg (cs := [.int .i64 x0.toNat, .int .i64 (un x1 x2 : Nat), strV t]) rfl rfl rfl (by intro u hu; simp at hu; rcases hu with rfl | rfl | rfl <;> rfl) b14 (by simp) (fun w5 p5 => ?_)
    obtain ⟨k5, s5, b5⟩ := p5
    ((refine M_assign ?_; (first | refine M_int rfl ?_ | refine W_move ?_))
     <;> refine W_nil ?_)
    repeat'
      first
        | refine Q_then ?_ | refine C_cond_t rfl ?_ | refine C_cond_f rfl ?_ | refine C_seq ?_ | refine C_block ?_ | refine C_skip ?_ | refine C_ret ?_ | refine C_exit ?_
        | refine Q_then_ret ?_ | refine Q_then_exit ?_ | refine Q_block ?_ | refine Q_block_ret ?_ | refine Q_block_here ?_ | refine Q_block_on rfl ?_ | refine C_scope ?_ | refine C_label ?_ | refine Q_asn ?_
    refine fin_retA1 rfl rfl rfl b5.cells ⟨?_, (k1.trans k14).keep k5 (by simp)⟩
    rw [h3, decode_some hw]; rfl
end Go.Proofs.Ytfbahfibgmdlnaa
