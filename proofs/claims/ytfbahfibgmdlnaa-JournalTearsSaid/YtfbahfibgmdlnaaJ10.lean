/- The journal's Append and Records, walked. Conditions: none. -/
import Derived.Test.YtfbahfibgmdlnaaJ9
namespace Go.Proofs.Ytfbahfibgmdlnaa
open Go.RowKit
set_option linter.unusedVariables false

theorem splice_app {T X c : List Value} {k : Nat} : splice (T ++ X) (T.length + k) c = T ++ splice X k c := by
  simp only [splice]
  rw [List.take_length_add_append, Nat.add_assoc, List.drop_length_add_append, List.append_assoc]
theorem splice_app' {T X c : List Value} {k t : Nat} (h : T.length = t) : splice (T ++ X) (t + k) c = T ++ splice X k c := by subst h; exact splice_app
theorem splice_zero {m : Nat} {z : Value} {T : List Value} : splice (List.replicate (T.length + m) z) 0 T = T ++ List.replicate m z := by
  simp [splice]
theorem frame_cells (z a b : Value) (P : List Value) {m : Nat} (h : P.length = m) : splice (((List.replicate (6 + m) z).set 0 a).set 1 b) 6 P = [a, b, z, z, z, z] ++ P := by
  subst h
  rw [show 6 + P.length = P.length + 1 + 1 + 1 + 1 + 1 + 1 by omega]
  simp [splice, List.replicate_succ]
  omega
theorem frame_cells2 (z a b : Value) (C P : List Value) (h : C.length = 4) : splice ([a, b, z, z, z, z] ++ P) 2 C = [a, b] ++ C ++ P := by
  simp [splice, h]

theorem Append_any (v1 v2 : Value) (l p : List UInt8) (w : World) (h1 : BytesAt anyB w v1 l) (h2 : BytesAt anyB w v2 p) (hb : l.length ≤ 140000000000000) :
    Fn Try.prog 13 [v1, v2] w fun v w' => ∃ rv, Ext w w' ∧
      ((p.length < 1 ∨ 4000 < p.length) → v = .tuple #[.slice none 0 0, .int .i64 1]) ∧
      (1 ≤ p.length → p.length ≤ 4000 → 500 ≤ (recs 500 l).1.length → v = .tuple #[.slice none 0 0, .int .i64 2]) ∧
      (1 ≤ p.length → p.length ≤ 4000 → (recs 500 l).1.length < 500 → v = .tuple #[rv, .int .i64 0] ∧ w'.ownsRow w.heap.size 5 1 rv ((recs 500 l).2 + (6 + p.length)) (cells8 (l.take (recs 500 l).2 ++ frm p))) := by
  have h01 := h1
  have h02 := h2
  obtain ⟨a1, c1, rfl, hl1, hc1, hm1, hx1⟩ := h01
  obtain ⟨a2, c2, rfl, hl2, hc2, hm2, hx2⟩ := h02
  refine fn_of_wcD Try.func13 rfl Try.ntmps13 (Nat.le_of_ble_eq_true rfl) (by kernel_rfl) ?_
  repeat'
    first
      | refine Q_then ?_ | refine C_cond_t rfl ?_ | refine C_cond_f rfl ?_ | refine C_seq ?_ | refine C_block ?_ | refine C_skip ?_ | refine C_ret ?_ | refine C_exit ?_
      | refine Q_then_ret ?_ | refine Q_then_exit ?_ | refine Q_block ?_ | refine Q_block_ret ?_ | refine Q_block_here ?_ | refine Q_block_on rfl ?_ | refine C_scope ?_ | refine C_label ?_ | refine Q_asn ?_
  (refine C_region ?_
   <;> (refine M_assign ?_; (first | refine M_slice rfl ?_ | refine W_move ?_))
   <;> (refine M_assign ?_; (first | refine M_int rfl ?_ | refine W_move ?_))
   <;> refine W_nil ?_)
  repeat'
    first
      | refine Q_then ?_ | refine C_cond_t rfl ?_ | refine C_cond_f rfl ?_ | refine C_seq ?_ | refine C_block ?_ | refine C_skip ?_ | refine C_ret ?_ | refine C_exit ?_
      | refine Q_then_ret ?_ | refine Q_then_exit ?_ | refine Q_block ?_ | refine Q_block_ret ?_ | refine Q_block_here ?_ | refine Q_block_on rfl ?_ | refine C_scope ?_ | refine C_label ?_ | refine Q_asn ?_
  (refine C_region ?_
   <;> (first | refine M_slice rfl ?_ | refine W_move ?_)
   <;> refine W_len rfl ?_
   <;> (refine W_lss rfl rfl (fun hc => ?_) (fun hc => ?_) <;> try (exfalso; omega))
   <;> (first | refine M_bool rfl ?_ | refine W_move ?_)
   <;> (first | refine W_no rfl ?_ | (refine W_yes rfl ?_; (first | refine M_slice rfl ?_ | refine W_move ?_)))
   <;> (first | refine W_no rfl ?_ | (refine W_yes rfl ?_; refine W_len rfl ?_))
   <;> (first | refine W_no rfl ?_ | (refine W_yes rfl ?_; (refine W_gtr rfl rfl (fun hc => ?_) (fun hc => ?_) <;> try (exfalso; omega))))
   <;> ((first | refine M_pick_t rfl ?_ | refine M_pick_f rfl ?_); (first | refine M_bool rfl ?_ | refine W_move ?_))
   <;> refine W_nil ?_)
  all_goals
    repeat'
      first
        | refine Q_then ?_ | refine C_cond_t rfl ?_ | refine C_cond_f rfl ?_ | refine C_seq ?_ | refine C_block ?_ | refine C_skip ?_ | refine C_ret ?_ | refine C_exit ?_
        | refine Q_then_ret ?_ | refine Q_then_exit ?_ | refine Q_block ?_ | refine Q_block_ret ?_ | refine Q_block_here ?_ | refine Q_block_on rfl ?_ | refine C_scope ?_ | refine C_label ?_ | refine Q_asn ?_
  · (refine C_region ?_
     <;> (refine M_assign ?_; (first | refine M_slice rfl ?_ | refine W_move ?_))
     <;> (refine M_assign ?_; (first | refine M_int rfl ?_ | refine W_move ?_))
     <;> refine W_nil ?_)
    repeat'
      first
        | refine Q_then ?_ | refine C_cond_t rfl ?_ | refine C_cond_f rfl ?_ | refine C_seq ?_ | refine C_block ?_ | refine C_skip ?_ | refine C_ret ?_ | refine C_exit ?_
        | refine Q_then_ret ?_ | refine Q_then_exit ?_ | refine Q_block ?_ | refine Q_block_ret ?_ | refine Q_block_here ?_ | refine Q_block_on rfl ?_ | refine C_scope ?_ | refine C_label ?_ | refine Q_asn ?_
    exact finD_ret2 rfl ⟨.bool true, Ext.refl _, fun _ => rfl, fun h => absurd h (by omega), fun h => absurd h (by omega)⟩
  · (refine C_region ?_
     <;> (refine M_assign ?_; (first | refine M_slice rfl ?_ | refine W_move ?_))
     <;> (refine M_assign ?_; (first | refine M_int rfl ?_ | refine W_move ?_))
     <;> refine W_nil ?_)
    repeat'
      first
        | refine Q_then ?_ | refine C_cond_t rfl ?_ | refine C_cond_f rfl ?_ | refine C_seq ?_ | refine C_block ?_ | refine C_skip ?_ | refine C_ret ?_ | refine C_exit ?_
        | refine Q_then_ret ?_ | refine Q_then_exit ?_ | refine Q_block ?_ | refine Q_block_ret ?_ | refine Q_block_here ?_ | refine Q_block_on rfl ?_ | refine C_scope ?_ | refine C_label ?_ | refine Q_asn ?_
    exact finD_ret2 rfl ⟨.bool true, Ext.refl _, fun _ => rfl, fun h h' => absurd h' (by omega), fun h h' => absurd h' (by omega)⟩
  refine C_region ?_
  refine W_alloc (fun w1 n1 => ?_)
  obtain ⟨k1, s1, b1⟩ := n1
  refine W_alloc (fun w2 n2 => ?_)
  obtain ⟨k2, s2, b2⟩ := n2
  replace b1 := b1.keep k2 (by simp)
  refine W_store (v := .int .i64 0) rfl rfl rfl b1 (by simp) (fun w3 p3 => ?_)
  obtain ⟨k3, s3, b3⟩ := p3
  replace b2 := b2.keep k3 (by simp; omega)
  refine W_store (v := .int .i64 0) rfl rfl rfl b2 (by simp) (fun w4 p4 => ?_)
  obtain ⟨k4, s4, b4⟩ := p4
  replace b3 := b3.keep k4 (by simp; omega)
  have e4 : Ext w w4 := ((k1.trans k2).keep k3 (by simp)).keep k4 (by simp; omega)
  clear b1 b2
  replace b3 : Blk w4 w.heap.size 3 [.int .i64 0] := b3
  replace b4 : Blk w4 w1.heap.size 3 [.int .i64 0] := b4
  refine W_nil ?_
  repeat'
    first
      | refine Q_then ?_ | refine C_cond_t rfl ?_ | refine C_cond_f rfl ?_ | refine C_seq ?_ | refine C_block ?_ | refine C_skip ?_ | refine C_ret ?_ | refine C_exit ?_
      | refine Q_then_ret ?_ | refine Q_then_exit ?_ | refine Q_block ?_ | refine Q_block_ret ?_ | refine Q_block_here ?_ | refine Q_block_on rfl ?_ | refine C_scope ?_ | refine C_label ?_ | refine Q_asn ?_
  (refine C_region ?_
   <;> (first | refine M_slice rfl ?_ | refine W_move ?_))
  -- at operation 1: <dst=(some 21) op=(call <callee=(value (func 25)) args=[(tmp 20)] argTypes=[24]>) type=48 guard=none>
  refine W_call (frames_any _ _ rfl) rfl ?_
  rintro u5 w5 ⟨rfl, k5, s5, b5⟩
  replace b3 := b3.keep k5 (by simp)
  replace b4 := b4.keep k5 (by simp)
  have e5 := e4.trans k5
  (refine W_nil ?_)
  repeat'
    first
      | refine Q_then ?_ | refine C_cond_t rfl ?_ | refine C_cond_f rfl ?_ | refine C_seq ?_ | refine C_block ?_ | refine C_skip ?_ | refine C_ret ?_ | refine C_exit ?_
      | refine Q_then_ret ?_ | refine Q_then_exit ?_ | refine Q_block ?_ | refine Q_block_ret ?_ | refine Q_block_here ?_ | refine Q_block_on rfl ?_ | refine C_scope ?_ | refine C_label ?_ | refine Q_asn ?_
  refine C_range [] [.pointer (some ⟨w4.heap.size, 0, none⟩)] rfl (by kernel_rfl) fun Rdy Bsy Don w6 HL k6 s6 m6 r6 => ?_
  replace b3 := b3.keep k6 (by simp)
  replace b4 := b4.keep k6 (by simp)
  replace b5 := b5.keep k6 (by simp)
  have e6 := e5.trans k6
  obtain ⟨J, hJ⟩ : ∃ J : List (List UInt8) → Nat → World → Prop, ∀ rs o W, J rs o W ↔ (Ext w W ∧ Blk W w.heap.size 3 [.int .i64 rs.length] ∧ Blk W w1.heap.size 3 [.int .i64 o] ∧ Blk W w4.heap.size 24 [.slice a1 l.length c1] ∧ Rdy W ∧ W.heap[w5.heap.size]? = some (.deferred (some []))) := ⟨_, fun _ _ _ => Iff.rfl⟩
  have hlen : w6.heap.size = w.heap.size + 5 := by omega
  have H : Rounds (.func (.yield (w5.heap.size + 1)) #[] #[]) w4.heap.size a1 c1 l J := by
    refine ⟨fun rs o W W' hj k => ?_, fun rs o W hj => ?_, fun rs o W r pv hj hk hf ho hp => ?_⟩
    · obtain ⟨j1, j2, j3, j4, j5, j6⟩ := (hJ _ _ _).1 hj
      exact (hJ _ _ _).2 ⟨j1.trans k, j2.keep k (by simp), j3.keep k (by simp), j4.keep k (by simp), HL.rdy j5 k (by simp), (k.block _ (by have := HL.lt j5; omega) (by simp)).trans j6⟩
    · obtain ⟨j1, j2, j3, j4, j5, j6⟩ := (hJ _ _ _).1 hj
      exact ⟨j4.cell rfl, h1.ext j1⟩
    · obtain ⟨j1, j2, j3, j4, j5, j6⟩ := (hJ _ _ _).1 hj
      have hlt := HL.lt j5
      refine HL.round j5 rfl ?_
      (refine C_region ?_
       <;> (refine M_assign ?_; (first | refine M_int rfl ?_ | refine W_move ?_))
       <;> refine W_nil ?_)
      repeat'
        first
          | refine Q_then ?_ | refine C_cond_t rfl ?_ | refine C_cond_f rfl ?_ | refine C_seq ?_ | refine C_block ?_ | refine C_skip ?_ | refine C_ret ?_ | refine C_exit ?_
          | refine Q_then_ret ?_ | refine Q_then_exit ?_ | refine Q_block ?_ | refine Q_block_ret ?_ | refine Q_block_here ?_ | refine Q_block_on rfl ?_ | refine C_scope ?_ | refine C_label ?_ | refine Q_asn ?_
      refine ⟨j5, fun W2 q2 z2 y2 => ?_⟩
      replace j2 := j2.keep q2 (by simp; omega)
      replace j3 := j3.keep q2 (by simp; omega)
      replace j4 := j4.keep q2 (by simp; omega)
      replace j6 := (q2.block _ (by omega) (by simp)).trans j6
      have e2 := j1.keep q2 (by simp; omega)
      have hfl := first_length hf
      repeat'
        first
          | refine Q_then ?_ | refine C_cond_t rfl ?_ | refine C_cond_f rfl ?_ | refine C_seq ?_ | refine C_block ?_ | refine C_skip ?_ | refine C_ret ?_ | refine C_exit ?_
          | refine Q_then_ret ?_ | refine Q_then_exit ?_ | refine Q_block ?_ | refine Q_block_ret ?_ | refine Q_block_here ?_ | refine Q_block_on rfl ?_ | refine C_scope ?_ | refine C_label ?_ | refine Q_asn ?_
      (refine C_region ?_
       <;> (first | refine W_load rfl (Blk.cell (by assumption) (by rfl)) ?_ | refine W_load rfl (by assumption) ?_)
       <;> refine W_add rfl rfl (by first | exact inR_i64 (by omega) (by omega) | exact inR_u8 (by omega) (by omega) | exact inR_u16 (by omega) (by omega)) ?_
       <;> (first | refine M_int rfl ?_ | refine W_move ?_))
      -- at operation 3: <dst=none op=(store 3 (tmp 6) (tmp 25)) type=0 guard=none>
      refine W_store (v := .int .i64 ((rs.length : Int) + 1)) rfl rfl rfl j2 (by simp) (fun W3 p3 => ?_)
      obtain ⟨q3, z3, y3⟩ := p3
      replace j3 := j3.keep q3 (by simp; omega)
      replace j4 := j4.keep q3 (by simp; omega)
      replace j6 := (q3.block _ (by omega) (by simp; omega)).trans j6
      replace e2 := e2.keep q3 (by simp)
      replace y2 := HL.bsy y2 q3 (by simp; omega)
      refine W_store (v := .int .i64 ((o + (6 + r.length) : Nat) : Int)) rfl rfl rfl j3 (by simp) (fun W4 p4 => ?_)
      obtain ⟨q4, z4, y4⟩ := p4
      replace y3 := y3.keep q4 (by simp; omega)
      replace j4 := j4.keep q4 (by simp; omega)
      replace j6 := (q4.block _ (by omega) (by simp; omega)).trans j6
      replace e2 := e2.keep q4 (by simp; omega)
      replace y2 := HL.bsy y2 q4 (by simp; omega)
      refine W_nil ?_
      repeat'
        first
          | refine Q_then ?_ | refine C_cond_t rfl ?_ | refine C_cond_f rfl ?_ | refine C_seq ?_ | refine C_block ?_ | refine C_skip ?_ | refine C_ret ?_ | refine C_exit ?_
          | refine Q_then_ret ?_ | refine Q_then_exit ?_ | refine Q_block ?_ | refine Q_block_ret ?_ | refine Q_block_here ?_ | refine Q_block_on rfl ?_ | refine C_scope ?_ | refine C_label ?_ | refine Q_asn ?_
      refine Q_rnd y2 fun W5 q5 z5 y5 => ⟨rfl, (hJ _ _ _).2 ⟨e2.keep q5 (by simp; omega), ?_, y4.keep q5 (by simp; omega), j4.keep q5 (by simp; omega), y5, (q5.block _ (by omega) (by simp)).trans j6⟩⟩
      rw [show ((rs ++ [r]).length : Int) = (rs.length : Int) + 1 by simp]
      exact y3.keep q5 (by simp; omega)
  refine Fn.mono (framesIt_any _ _ _ _ _ J H w6 ((hJ _ _ _).2 ⟨e6, b3, b4, b5, r6, m6⟩) ⟨_, rfl⟩) ?_
  rintro v w7 hj
  obtain ⟨j1, j2, j3, j4, j5, j6⟩ := (hJ _ _ _).1 hj
  have hlt := HL.lt j5
  refine .inl ⟨j5, fun w8 k8 s8 => ?_⟩
  have hle := recs_le 500 l
  clear hJ H hj HL r6 m6 b3 b4 b5
  replace j2 := j2.keep k8 (by simp; omega)
  replace j3 := j3.keep k8 (by simp; omega)
  replace j6 := (k8.block _ (by omega) (by simp)).trans j6
  have e8 := j1.keep k8 (by simp; omega)
  generalize (recs 500 l).1 = rs at *
  generalize (recs 500 l).2 = o at *
  repeat'
    first
      | refine Q_then ?_ | refine C_cond_t rfl ?_ | refine C_cond_f rfl ?_ | refine C_seq ?_ | refine C_block ?_ | refine C_skip ?_ | refine C_ret ?_ | refine C_exit ?_
      | refine Q_then_ret ?_ | refine Q_then_exit ?_ | refine Q_block ?_ | refine Q_block_ret ?_ | refine Q_block_here ?_ | refine Q_block_on rfl ?_ | refine C_scope ?_ | refine C_label ?_ | refine Q_asn ?_
  (refine C_region ?_
   <;> (first | refine W_load rfl (Blk.cell (by assumption) (by rfl)) ?_ | refine W_load rfl (by assumption) ?_)
   <;> (refine W_geq rfl rfl (fun hc => ?_) (fun hc => ?_) <;> try (exfalso; omega))
   <;> refine W_nil ?_)
  · repeat'
      first
        | refine Q_then ?_ | refine C_cond_t rfl ?_ | refine C_cond_f rfl ?_ | refine C_seq ?_ | refine C_block ?_ | refine C_skip ?_ | refine C_ret ?_ | refine C_exit ?_
        | refine Q_then_ret ?_ | refine Q_then_exit ?_ | refine Q_block ?_ | refine Q_block_ret ?_ | refine Q_block_here ?_ | refine Q_block_on rfl ?_ | refine C_scope ?_ | refine C_label ?_ | refine Q_asn ?_
    (refine C_region ?_
     <;> (refine M_assign ?_; (first | refine M_slice rfl ?_ | refine W_move ?_))
     <;> (refine M_assign ?_; (first | refine M_int rfl ?_ | refine W_move ?_))
     <;> refine W_nil ?_)
    repeat'
      first
        | refine Q_then ?_ | refine C_cond_t rfl ?_ | refine C_cond_f rfl ?_ | refine C_seq ?_ | refine C_block ?_ | refine C_skip ?_ | refine C_ret ?_ | refine C_exit ?_
        | refine Q_then_ret ?_ | refine Q_then_exit ?_ | refine Q_block ?_ | refine Q_block_ret ?_ | refine Q_block_here ?_ | refine Q_block_on rfl ?_ | refine C_scope ?_ | refine C_label ?_ | refine Q_asn ?_
    refine finD_mark j6 fun w9 k9 s9 => ?_
    exact finD_ret2 rfl ⟨.bool true, e8.keep k9 (by simp; omega), fun h => absurd h (by omega), fun _ _ _ => rfl, fun _ _ h => absurd h (by omega)⟩
  repeat'
    first
      | refine Q_then ?_ | refine C_cond_t rfl ?_ | refine C_cond_f rfl ?_ | refine C_seq ?_ | refine C_block ?_ | refine C_skip ?_ | refine C_ret ?_ | refine C_exit ?_
      | refine Q_then_ret ?_ | refine Q_then_exit ?_ | refine Q_block ?_ | refine Q_block_ret ?_ | refine Q_block_here ?_ | refine Q_block_on rfl ?_ | refine C_scope ?_ | refine C_label ?_ | refine Q_asn ?_
  (refine C_region ?_
   <;> (first | refine W_load rfl (Blk.cell (by assumption) (by rfl)) ?_ | refine W_load rfl (by assumption) ?_)
   <;> refine W_add rfl rfl (by first | exact inR_i64 (by omega) (by omega) | exact inR_u8 (by omega) (by omega) | exact inR_u16 (by omega) (by omega)) ?_
   <;> (first | refine M_slice rfl ?_ | refine W_move ?_)
   <;> refine W_len rfl ?_
   <;> refine W_add rfl rfl (by first | exact inR_i64 (by omega) (by omega) | exact inR_u8 (by omega) (by omega) | exact inR_u16 (by omega) (by omega)) ?_)
  -- at operation 5: <dst=(some 34) op=(makeSlice 24 (tmp 33) (tmp 33)) type=24 guard=none>
  refine W_make1 (n := o + 6 + p.length) rfl rfl rfl (by omega) (by omega) (by omega) (by omega) (fun w9 n9 => ?_)
  obtain ⟨k9, s9, b9⟩ := n9
  replace j2 := j2.keep k9 (by simp)
  replace j3 := j3.keep k9 (by simp)
  replace j6 := (k9.block _ (by have := k8.size; omega) (by simp)).trans j6
  replace e8 := e8.trans k9
  ((refine M_assign ?_; (first | refine M_slice rfl ?_ | refine W_move ?_))
   <;> refine W_nil ?_)
  repeat'
    first
      | refine Q_then ?_ | refine C_cond_t rfl ?_ | refine C_cond_f rfl ?_ | refine C_seq ?_ | refine C_block ?_ | refine C_skip ?_ | refine C_ret ?_ | refine C_exit ?_
      | refine Q_then_ret ?_ | refine Q_then_exit ?_ | refine Q_block ?_ | refine Q_block_ret ?_ | refine Q_block_here ?_ | refine Q_block_on rfl ?_ | refine C_scope ?_ | refine C_label ?_ | refine Q_asn ?_
  (refine C_region ?_
   <;> (first | refine M_slice rfl ?_ | refine W_move ?_)
   <;> (first | refine M_slice rfl ?_ | refine W_move ?_)
   <;> (first | refine W_load rfl (Blk.cell (by assumption) (by rfl)) ?_ | refine W_load rfl (by assumption) ?_)
   <;> refine W_slice_h rfl rfl (by omega) (by omega) ?_)
  -- at operation 4: <dst=(some 39) op=(call <callee=(builtin copy) args=[(tmp 35), (tmp 38)] argTypes=[24, 24]>) type=3 guard=none>
  have to : (o : Int).toNat = o := rfl
  rw [to]
  have ht := (h1.ext e8).take o hle
  have htl : (l.take o).length = o := by simp; omega
  refine W_copy (g := w8.heap.size) (off := 0) (cs := cells8 (l.take o)) rfl rfl b9 (by rw [cells8_length, htl]; simp [Nat.min_def]; omega) (fun h0 => ?_) (by simp [cells8_length]; omega) (oneC_cells8 _) (fun w10 p10 => ?_)
  · rw [cells8_length, htl] at h0
    obtain ⟨b, bo, rfl, _⟩ := ht.cells (by omega)
    exact ⟨rfl, b, bo, rfl, ht.cellsX (by omega)⟩
  obtain ⟨k10, s10, b10⟩ := p10
  replace j2 := j2.keep k10 (by simp; omega)
  replace j3 := j3.keep k10 (by simp; omega)
  replace j6 := (k10.block _ (by have := k8.size; omega) (by simp; omega)).trans j6
  replace e8 := e8.keep k10 (by simp; omega)
  have hcl : (cells8 (l.take o)).length = o := by rw [cells8_length, htl]
  rw [show o + 6 + p.length = (cells8 (l.take o)).length + (6 + p.length) by omega, splice_zero] at b10
  refine W_nil ?_
  repeat'
    first
      | refine Q_then ?_ | refine C_cond_t rfl ?_ | refine C_cond_f rfl ?_ | refine C_seq ?_ | refine C_block ?_ | refine C_skip ?_ | refine C_ret ?_ | refine C_exit ?_
      | refine Q_then_ret ?_ | refine Q_then_exit ?_ | refine Q_block ?_ | refine Q_block_ret ?_ | refine Q_block_here ?_ | refine Q_block_on rfl ?_ | refine C_scope ?_ | refine C_label ?_ | refine Q_asn ?_
  (refine C_region ?_
   <;> (first | refine M_slice rfl ?_ | refine W_move ?_)
   <;> (first | refine W_load rfl (Blk.cell (by assumption) (by rfl)) ?_ | refine W_load rfl (by assumption) ?_)
   <;> refine W_slice_l rfl rfl (by omega) (by omega) ?_
   <;> (refine M_assign ?_; (first | refine M_slice rfl ?_ | refine W_move ?_))
   <;> refine W_nil ?_)
  rw [show (o : Int).toNat = o from rfl]
  rw [show adv (o + 6 + p.length) o 1 (some ⟨w8.heap.size, 0, none⟩) = some ⟨w8.heap.size, o, none⟩ by simp only [adv]; rw [if_neg (by omega)]; simp [Addr.add_lit], show o + 6 + p.length - o = 6 + p.length by omega]
  repeat'
    first
      | refine Q_then ?_ | refine C_cond_t rfl ?_ | refine C_cond_f rfl ?_ | refine C_seq ?_ | refine C_block ?_ | refine C_skip ?_ | refine C_ret ?_ | refine C_exit ?_
      | refine Q_then_ret ?_ | refine Q_then_exit ?_ | refine Q_block ?_ | refine Q_block_ret ?_ | refine Q_block_here ?_ | refine Q_block_on rfl ?_ | refine C_scope ?_ | refine C_label ?_ | refine Q_asn ?_
  (refine C_region ?_
   <;> (first | refine M_slice rfl ?_ | refine W_move ?_)
   <;> (first | refine M_slice rfl ?_ | refine W_move ?_)
   <;> (first | refine M_slice rfl ?_ | refine W_move ?_)
   <;> refine W_len rfl ?_)
  -- at operation 4: <dst=(some 48) op=(call <callee=(value (func 26)) args=[(tmp 47)] argTypes=[3]>) type=50 guard=none>
  refine W_call (halves_any p.length _ (by omega)) rfl ?_
  rintro u11 w11 ⟨rfl, rfl⟩
  ((first | refine M_tuple rfl ?_ | refine W_move ?_)
   <;> refine W_extract rfl rfl ?_
   <;> refine W_extract rfl rfl ?_
   <;> (first | refine W_idx1 rfl rfl rfl (by omega) ?_ | refine W_idx rfl rfl rfl (by omega) ?_ | refine W_indexAddr rfl rfl (by omega) (by omega) ?_))
  -- at operation 9: <dst=none op=(store 5 (tmp 51) (tmp 49)) type=0 guard=none>
  refine W_store (v := enc8 (b8 (p.length / 256))) rfl rfl rfl b10 (by simp; omega) (fun w12 p12 => ?_)
  obtain ⟨k12, s12, b12⟩ := p12
  replace j6 := (k12.block _ (by have := k8.size; omega) (by simp; omega)).trans j6
  replace e8 := e8.keep k12 (by simp; omega)
  ((first | refine W_idx1 rfl rfl rfl (by omega) ?_ | refine W_idx rfl rfl rfl (by omega) ?_ | refine W_indexAddr rfl rfl (by omega) (by omega) ?_))
  -- at operation 11: <dst=none op=(store 5 (tmp 52) (tmp 50)) type=0 guard=none>
  refine W_store (v := enc8 (b8 (p.length % 256))) rfl rfl rfl b12 (by simp; omega) (fun w13 p13 => ?_)
  obtain ⟨k13, s13, b13⟩ := p13
  replace j6 := (k13.block _ (by have := k8.size; omega) (by simp; omega)).trans j6
  replace e8 := e8.keep k13 (by simp; omega)
  refine W_nil ?_
  repeat'
    first
      | refine Q_then ?_ | refine C_cond_t rfl ?_ | refine C_cond_f rfl ?_ | refine C_seq ?_ | refine C_block ?_ | refine C_skip ?_ | refine C_ret ?_ | refine C_exit ?_
      | refine Q_then_ret ?_ | refine Q_then_exit ?_ | refine Q_block ?_ | refine Q_block_ret ?_ | refine Q_block_here ?_ | refine Q_block_on rfl ?_ | refine C_scope ?_ | refine C_label ?_ | refine Q_asn ?_
  (refine C_region ?_
   <;> (first | refine M_slice rfl ?_ | refine W_move ?_)
   <;> refine W_slice_l rfl rfl (by omega) (by omega) ?_
   <;> (first | refine M_slice rfl ?_ | refine W_move ?_))
  -- at operation 3: <dst=(some 56) op=(call <callee=(builtin copy) args=[(tmp 54), (tmp 55)] argTypes=[24, 24]>) type=3 guard=none>
  replace b13 : Blk w13 w8.heap.size 5 (cells8 (l.take o) ++ (((List.replicate (6 + p.length) (.int .u8 0)).set 0 (enc8 (b8 (p.length / 256)))).set 1 (enc8 (b8 (p.length % 256))))) := by
    have hh := b13
    simp only [List.set_append, hcl] at hh
    rw [if_neg (by omega)] at hh
    simp only [List.set_append, hcl] at hh
    rw [if_neg (by omega)] at hh
    simpa using hh
  rw [show (6 : Int).toNat = 6 from rfl]
  have hp := h2.ext e8
  refine W_copy (g := w8.heap.size) (off := o + 6) (cs := cells8 p) rfl rfl b13 (by rw [cells8_length]; simp) (fun h0 => ?_) (by simp [cells8_length, htl]; omega) (oneC_cells8 _) (fun w14 p14 => ?_)
  · obtain ⟨b, bo, rfl, _⟩ := hp.cells (by omega)
    exact ⟨by simp only [adv]; rw [if_neg (by omega)]; simp [Addr.add_lit], b, bo, rfl, hp.cellsX (by omega)⟩
  obtain ⟨k14, s14, b14⟩ := p14
  rw [splice_app' hcl, frame_cells _ _ _ _ (cells8_length p)] at b14
  replace j6 := (k14.block _ (by have := k8.size; omega) (by simp; omega)).trans j6
  replace e8 := e8.keep k14 (by simp; omega)
  refine W_nil ?_
  repeat'
    first
      | refine Q_then ?_ | refine C_cond_t rfl ?_ | refine C_cond_f rfl ?_ | refine C_seq ?_ | refine C_block ?_ | refine C_skip ?_ | refine C_ret ?_ | refine C_exit ?_
      | refine Q_then_ret ?_ | refine Q_then_exit ?_ | refine Q_block ?_ | refine Q_block_ret ?_ | refine Q_block_here ?_ | refine Q_block_on rfl ?_ | refine C_scope ?_ | refine C_label ?_ | refine Q_asn ?_
  (refine C_region ?_
   <;> (first | refine M_slice rfl ?_ | refine W_move ?_)
   <;> refine W_slice_h rfl rfl (by omega) (by omega) ?_
   <;> (first | refine M_slice rfl ?_ | refine W_move ?_))
  -- at operation 3: <dst=(some 60) op=(buildSlice 31 2 [[0, (tmp 58)], [1, (tmp 59)]]) type=31 guard=none>
  refine W_buildSlice1 rfl (by omega) rfl rfl (fun w15 n15 => ?_)
  have k15 := n15.keep
  replace b14 := b14.keep k15 (by simp)
  replace j6 := (k15.block _ (by have := k8.size; omega) (by simp)).trans j6
  replace e8 := e8.trans k15
  have hfirst : BytesAt anyB w15 (.slice (some ⟨w8.heap.size, o, none⟩) 2 (6 + p.length)) (two p.length) := by
    refine ⟨_, _, rfl, by rw [two_length]; omega, by omega, (fun h => by cases h), .inr ⟨_, _, rfl, trivial, ?_⟩⟩
    intro i u hu
    refine b14.cell ?_
    rw [List.getElem?_append_right (by omega), hcl, Nat.add_sub_cancel_left]
    match i with
    | 0 => exact hu
    | 1 => exact hu
    | i + 2 => simp [two, cells8] at hu
  refine W_call (checksum_any _ [two p.length, p] _ (LB_two n15 hfirst (h2.ext e8))) rfl ?_
  rintro u16 w16 ⟨rfl, k16⟩
  rw [show [two p.length, p].flatten = two p.length ++ p by simp]
  replace b14 := b14.keep k16 (by simp)
  replace j6 := (k16.block _ (by have := k8.size; have := k15.size; omega) (by simp)).trans j6
  replace e8 := e8.trans k16
  refine W_alloc (fun w17 n17 => ?_)
  obtain ⟨k17, s17, b17⟩ := n17
  have z16 := k16.size
  have z15 := k15.size
  replace b14 := b14.keep k17 (by simp)
  replace j6 := (k17.block _ (by omega) (by simp)).trans j6
  replace e8 := e8.trans k17
  refine W_store_agg (cs := cells8 (chk (two p.length ++ p))) rfl rfl rfl (oneC_cells8 _) b17 (by simp [cells8_length, chk_length]) (fun w18 p18 => ?_)
  obtain ⟨k18, s18, b18⟩ := p18
  replace b14 := b14.keep k18 (by simp; omega)
  replace j6 := (k18.block _ (by omega) (by simp; omega)).trans j6
  replace e8 := e8.keep k18 (by simp; omega)
  replace b18 : Blk w18 w16.heap.size 52 (cells8 (chk (two p.length ++ p))) := b18
  refine W_nil ?_
  repeat'
    first
      | refine Q_then ?_ | refine C_cond_t rfl ?_ | refine C_cond_f rfl ?_ | refine C_seq ?_ | refine C_block ?_ | refine C_skip ?_ | refine C_ret ?_ | refine C_exit ?_
      | refine Q_then_ret ?_ | refine Q_then_exit ?_ | refine Q_block ?_ | refine Q_block_ret ?_ | refine Q_block_here ?_ | refine Q_block_on rfl ?_ | refine C_scope ?_ | refine C_label ?_ | refine Q_asn ?_
  refine C_drawN (.read 0 (.read 1 (.read 2 (.alt 3 .done .stop)))) mixed (by kernel_rfl) (fun wd kd ed => ⟨Ext w, ?_, ?_⟩)
  · exact e8.trans kd
  ((apply D_R rfl rfl; (intro W hW; (first | refine M_slice rfl ?_ | refine W_move ?_); exact W_nil ⟨rfl, rfl, rfl⟩))
   <;> (apply D_R rfl rfl; (intro W hW; refine W_slice_lh rfl rfl rfl (by omega) (by omega) (by omega) ?_; exact W_nil ⟨rfl, rfl, rfl⟩))
   <;> (apply D_R rfl rfl; (intro W hW; refine W_slice_arr rfl ?_; exact W_nil ⟨rfl, rfl, rfl⟩)))
  -- at place 3, operation 3: <dst=(some 65) op=(call <callee=(builtin copy) args=[(tmp 63), (tmp 64)] argTypes=[24, 24]>) type=3 guard=none>
  refine D_E rfl ?_
  refine W_copy (g := w8.heap.size) (off := o + 2) (cs := cells8 (chk (two p.length ++ p))) rfl rfl (b14.keep kd (by simp)) (by rw [cells8_length, chk_length]; rfl) (fun h0 => ?_) (by simp [cells8_length, chk_length, hcl]; omega) (oneC_cells8 _) (fun w19 p19 => ?_)
  · exact ⟨by rw [show (2 : Int).toNat = 2 from rfl]; simp only [adv]; rw [if_neg (by omega)]; simp [Addr.add_lit], _, _, rfl, (b18.keep kd (by simp)).cells⟩
  obtain ⟨k19, s19, b19⟩ := p19
  have zd := kd.size
  replace j6 := ((kd.block _ (by omega) (by simp)).trans j6)
  replace j6 := (k19.block _ (by omega) (by simp; omega)).trans j6
  replace e8 := (e8.trans kd).keep k19 (by simp; omega)
  rw [splice_app' hcl, frame_cells2 _ _ _ _ _ (by rw [cells8_length, chk_length])] at b19
  refine W_nil ⟨Ext w, fun _ h => h, e8, ?_⟩
  (refine D_nil ?_)
  repeat'
    first
      | refine Q_then ?_ | refine C_cond_t rfl ?_ | refine C_cond_f rfl ?_ | refine C_seq ?_ | refine C_block ?_ | refine C_skip ?_ | refine C_ret ?_ | refine C_exit ?_
      | refine Q_then_ret ?_ | refine Q_then_exit ?_ | refine Q_block ?_ | refine Q_block_ret ?_ | refine Q_block_here ?_ | refine Q_block_on rfl ?_ | refine C_scope ?_ | refine C_label ?_ | refine Q_asn ?_
  (refine C_region ?_
   <;> (first | refine M_slice rfl ?_ | refine W_move ?_)
   <;> (refine M_assign ?_; (first | refine M_slice rfl ?_ | refine W_move ?_))
   <;> (refine M_assign ?_; (first | refine M_int rfl ?_ | refine W_move ?_))
   <;> refine W_nil ?_)
  repeat'
    first
      | refine Q_then ?_ | refine C_cond_t rfl ?_ | refine C_cond_f rfl ?_ | refine C_seq ?_ | refine C_block ?_ | refine C_skip ?_ | refine C_ret ?_ | refine C_exit ?_
      | refine Q_then_ret ?_ | refine Q_then_exit ?_ | refine Q_block ?_ | refine Q_block_ret ?_ | refine Q_block_here ?_ | refine Q_block_on rfl ?_ | refine C_scope ?_ | refine C_label ?_ | refine Q_asn ?_
  refine finD_mark j6 fun w20 k20 s20 => ?_
  refine finD_ret2 rfl ⟨_, e8.keep k20 (by simp; omega), fun h => absurd h (by omega), fun _ _ h => absurd h (by omega), fun _ _ _ => ⟨rfl, ?_⟩⟩
  have hfin : cells8 (l.take o) ++ ([enc8 (b8 (p.length / 256)), enc8 (b8 (p.length % 256))] ++ cells8 (chk (two p.length ++ p)) ++ cells8 p) = cells8 (l.take o ++ frm p) := by
    simp [frm, two, cells8]
  rw [hfin] at b19
  have hlast : (cells8 (l.take o ++ frm p)).length = o + (6 + p.length) := by rw [cells8_length, List.length_append, frm_length, htl]
  refine ⟨by rw [hlast]; omega, .inr ⟨w8.heap.size, o + 6 + p.length, _, ?_, by omega, b19.keep k20 (by simp; omega), by omega, by unfold maxLen; omega, by simp [hlast]; omega, ?_⟩⟩
  · rw [show o + (6 + p.length) = o + 6 + p.length from (Nat.add_assoc _ _ _).symm]
    rfl
  · rw [List.take_of_length_le (by simp [hlast])]
end Go.Proofs.Ytfbahfibgmdlnaa
