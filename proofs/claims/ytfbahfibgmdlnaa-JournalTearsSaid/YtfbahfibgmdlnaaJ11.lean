/- The journal's Records, walked. Conditions: none. -/
import Derived.Test.YtfbahfibgmdlnaaJ10
namespace Go.Proofs.Ytfbahfibgmdlnaa
open Go.RowKit
set_option linter.unusedVariables false

theorem BytesAt.off {w : World} {v : Value} {l : List UInt8} {L : Nat} (h : BytesAt anyB w v l) (hL : ∀ o, w.cell? ⟨L, o, none⟩ = none) : BytesAt (fun b => b ≠ L) w v l := by
  obtain ⟨a, c, rfl, h1, h2, h3, h4⟩ := h
  refine ⟨a, c, rfl, h1, h2, h3, ?_⟩
  by_cases h0 : l.length = 0
  · exact .inl h0
  · obtain ⟨b, o, rfl, _, hc⟩ := h4.resolve_left h0
    refine .inr ⟨b, o, rfl, fun e => ?_, hc⟩
    subst e
    have := hc 0 _ (cells8_get (by omega))
    rw [hL] at this
    cases this

theorem Records_any (v1 : Value) (l : List UInt8) (w : World) (h1 : BytesAt anyB w v1 l) :
    Fn Try.prog 15 [v1] w fun v w' => ∃ rv, v = .tuple #[rv, .int .i64 (recs 500 l).2] ∧ Rs w' w.heap.size rv (recs 500 l).1 ∧ Ext w w' := by
  have h01 := h1
  obtain ⟨a1, c1, rfl, hl1, hc1, hm1, hx1⟩ := h01
  refine fn_of_wcD Try.func15 rfl Try.ntmps15 (Nat.le_of_ble_eq_true rfl) (by kernel_rfl) ?_
  repeat'
    first
      | refine Q_then ?_ | refine C_cond_t rfl ?_ | refine C_cond_f rfl ?_ | refine C_seq ?_ | refine C_block ?_ | refine C_skip ?_ | refine C_ret ?_ | refine C_exit ?_
      | refine Q_then_ret ?_ | refine Q_then_exit ?_ | refine Q_block ?_ | refine Q_block_ret ?_ | refine Q_block_here ?_ | refine Q_block_on rfl ?_ | refine C_scope ?_ | refine C_label ?_ | refine Q_asn ?_
  (refine C_region ?_
   <;> (refine M_assign ?_; (first | refine M_slice rfl ?_ | refine W_move ?_))
   <;> (refine M_assign ?_; (first | refine M_int rfl ?_ | refine W_move ?_))
   <;> refine W_nil ?_)
  repeat'
    first
      | refine Q_then ?_ | refine C_cond_t rfl ?_ | refine C_cond_f rfl ?_ | refine C_seq ?_ | refine C_block ?_ | refine C_skip ?_ | refine C_ret ?_ | refine C_exit ?_
      | refine Q_then_ret ?_ | refine Q_then_exit ?_ | refine Q_block ?_ | refine Q_block_ret ?_ | refine Q_block_here ?_ | refine Q_block_on rfl ?_ | refine C_scope ?_ | refine C_label ?_ | refine Q_asn ?_
  refine C_region ?_
  refine W_alloc (fun w1 n1 => ?_)
  obtain ⟨k1, s1, b1⟩ := n1
  refine W_nil ?_
  repeat'
    first
      | refine Q_then ?_ | refine C_cond_t rfl ?_ | refine C_cond_f rfl ?_ | refine C_seq ?_ | refine C_block ?_ | refine C_skip ?_ | refine C_ret ?_ | refine C_exit ?_
      | refine Q_then_ret ?_ | refine Q_then_exit ?_ | refine Q_block ?_ | refine Q_block_ret ?_ | refine Q_block_here ?_ | refine Q_block_on rfl ?_ | refine C_scope ?_ | refine C_label ?_ | refine Q_asn ?_
  refine C_region ?_
  refine W_alloc (fun w2 n2 => ?_)
  obtain ⟨k2, s2, b2⟩ := n2
  replace b1 := b1.keep k2 (by simp)
  refine W_store (v := .int .i64 0) rfl rfl rfl b2 (by simp) (fun w4 p4 => ?_)
  obtain ⟨k4, s4, b4⟩ := p4
  replace b1 := b1.keep k4 (by simp; omega)
  have e4 : Ext w w4 := (k1.trans k2).keep k4 (by simp; omega)
  clear b2
  replace b4 : Blk w4 w1.heap.size 3 [.int .i64 0] := b4
  refine W_nil ?_
  repeat'
    first
      | refine Q_then ?_ | refine C_cond_t rfl ?_ | refine C_cond_f rfl ?_ | refine C_seq ?_ | refine C_block ?_ | refine C_skip ?_ | refine C_ret ?_ | refine C_exit ?_
      | refine Q_then_ret ?_ | refine Q_then_exit ?_ | refine Q_block ?_ | refine Q_block_ret ?_ | refine Q_block_here ?_ | refine Q_block_on rfl ?_ | refine C_scope ?_ | refine C_label ?_ | refine Q_asn ?_
  (refine C_region ?_
   <;> (first | refine M_slice rfl ?_ | refine W_move ?_))
  -- at operation 1: <dst=(some 10) op=(call <callee=(value (func 25)) args=[(tmp 9)] argTypes=[24]>) type=48 guard=none>
  refine W_call (frames_any _ _ rfl) rfl ?_
  rintro u5 w5 ⟨rfl, k5, s5, b5⟩
  replace b1 := b1.keep k5 (by simp)
  replace b4 := b4.keep k5 (by simp)
  have e5 := e4.trans k5
  (refine W_nil ?_)
  repeat'
    first
      | refine Q_then ?_ | refine C_cond_t rfl ?_ | refine C_cond_f rfl ?_ | refine C_seq ?_ | refine C_block ?_ | refine C_skip ?_ | refine C_ret ?_ | refine C_exit ?_
      | refine Q_then_ret ?_ | refine Q_then_exit ?_ | refine Q_block ?_ | refine Q_block_ret ?_ | refine Q_block_here ?_ | refine Q_block_on rfl ?_ | refine C_scope ?_ | refine C_label ?_ | refine Q_asn ?_
  refine C_range [] [.pointer (some ⟨w4.heap.size, 0, none⟩)] rfl (by kernel_rfl) fun Rdy Bsy Don w6 HL k6 s6 m6 r6 => ?_
  replace b1 := b1.keep k6 (by simp)
  replace b4 := b4.keep k6 (by simp)
  replace b5 := b5.keep k6 (by simp)
  have e6 := e5.trans k6
  obtain ⟨J, hJ⟩ : ∃ J : List (List UInt8) → Nat → World → Prop, ∀ rs o W, J rs o W ↔ (Ext w W ∧ (∃ rv, Rs W (w.heap.size + 5) rv rs ∧ Blk W w.heap.size 31 [rv]) ∧ Blk W w1.heap.size 3 [.int .i64 o] ∧ Blk W w4.heap.size 24 [.slice a1 l.length c1] ∧ Rdy W ∧ W.heap[w5.heap.size]? = some (.deferred (some []))) := ⟨_, fun _ _ _ => Iff.rfl⟩
  have hlen : w6.heap.size = w.heap.size + 5 := by omega
  have H : Rounds (.func (.yield (w5.heap.size + 1)) #[] #[]) w4.heap.size a1 c1 l J := by
    refine ⟨fun rs o W W' hj k => ?_, fun rs o W hj => ?_, fun rs o W r pv hj hk hf ho hp => ?_⟩
    · obtain ⟨j1, ⟨rv, jr, j2⟩, j3, j4, j5, j6⟩ := (hJ _ _ _).1 hj
      exact (hJ _ _ _).2 ⟨j1.trans k, ⟨rv, jr.ext k, j2.keep k (by simp)⟩, j3.keep k (by simp), j4.keep k (by simp), HL.rdy j5 k (by simp), (k.block _ (by have := HL.lt j5; omega) (by simp)).trans j6⟩
    · obtain ⟨j1, _, j3, j4, j5, j6⟩ := (hJ _ _ _).1 hj
      exact ⟨j4.cell rfl, h1.ext j1⟩
    · obtain ⟨j1, ⟨rv, jr, j2⟩, j3, j4, j5, j6⟩ := (hJ _ _ _).1 hj
      have hlt := HL.lt j5
      refine HL.round j5 rfl ?_
      obtain ⟨pa, pc, rfl, _⟩ := id hp
      repeat'
        first
          | refine Q_then ?_ | refine C_cond_t rfl ?_ | refine C_cond_f rfl ?_ | refine C_seq ?_ | refine C_block ?_ | refine C_skip ?_ | refine C_ret ?_ | refine C_exit ?_
          | refine Q_then_ret ?_ | refine Q_then_exit ?_ | refine Q_block ?_ | refine Q_block_ret ?_ | refine Q_block_here ?_ | refine Q_block_on rfl ?_ | refine C_scope ?_ | refine C_label ?_ | refine Q_asn ?_
      (refine C_region ?_
       <;> (refine M_assign ?_; (first | refine M_int rfl ?_ | refine W_move ?_))
       <;> refine W_nil ?_)
      repeat'
        first
          | refine Q_then ?_ | refine C_cond_t rfl ?_ | refine C_cond_f rfl ?_ | refine C_seq ?_ | refine C_block ?_ | refine C_skip ?_ | refine C_ret ?_ | refine C_exit ?_
          | refine Q_then_ret ?_ | refine Q_then_exit ?_ | refine Q_block ?_ | refine Q_block_ret ?_ | refine Q_block_here ?_ | refine Q_block_on rfl ?_ | refine C_scope ?_ | refine C_label ?_ | refine Q_asn ?_
      (refine C_region ?_
       <;> (refine M_assign ?_; (first | refine M_slice rfl ?_ | refine W_move ?_))
       <;> refine W_nil ?_)
      repeat'
        first
          | refine Q_then ?_ | refine C_cond_t rfl ?_ | refine C_cond_f rfl ?_ | refine C_seq ?_ | refine C_block ?_ | refine C_skip ?_ | refine C_ret ?_ | refine C_exit ?_
          | refine Q_then_ret ?_ | refine Q_then_exit ?_ | refine Q_block ?_ | refine Q_block_ret ?_ | refine Q_block_here ?_ | refine Q_block_on rfl ?_ | refine C_scope ?_ | refine C_label ?_ | refine Q_asn ?_
      refine ⟨j5, fun W2 q2 z2 y2 => ?_⟩
      have hfl := first_length hf
      replace jr := jr.keepX q2 (by simp; omega)
      have ltr : ∀ g, rv.ownBlock = some g → g < W2.heap.size := by
        obtain ⟨vs, hv, _⟩ := id jr
        exact fun g hg => (hv.lt g hg).2
      replace j2 := j2.keep q2 (by simp; omega)
      replace j3 := j3.keep q2 (by simp; omega)
      replace j4 := j4.keep q2 (by simp; omega)
      replace j6 := (q2.block _ (by omega) (by simp)).trans j6
      have e2 := j1.keep q2 (by simp; omega)
      have hp2 : BytesAt anyB W2 (.slice pa r.length pc) r := ((hp.off (HL.nocell j5)).keepX q2 (fun b hb => by simpa using hb)).mono (ok' := anyB) fun _ _ => trivial
      repeat'
        first
          | refine Q_then ?_ | refine C_cond_t rfl ?_ | refine C_cond_f rfl ?_ | refine C_seq ?_ | refine C_block ?_ | refine C_skip ?_ | refine C_ret ?_ | refine C_exit ?_
          | refine Q_then_ret ?_ | refine Q_then_exit ?_ | refine Q_block ?_ | refine Q_block_ret ?_ | refine Q_block_here ?_ | refine Q_block_on rfl ?_ | refine C_scope ?_ | refine C_label ?_ | refine Q_asn ?_
      (refine C_region ?_
       <;> (first | refine M_slice rfl ?_ | refine W_move ?_)
       <;> refine W_len rfl ?_)
      -- at operation 2: <dst=(some 15) op=(makeSlice 24 (tmp 14) (tmp 14)) type=24 guard=none>
      refine W_make1 (n := r.length) rfl rfl rfl rfl rfl (by omega) (by omega) (fun W3 m3 => ?_)
      obtain ⟨q3, z3, y3⟩ := m3
      ((refine M_assign ?_; (first | refine M_slice rfl ?_ | refine W_move ?_))
       <;> refine W_nil ?_)
      repeat'
        first
          | refine Q_then ?_ | refine C_cond_t rfl ?_ | refine C_cond_f rfl ?_ | refine C_seq ?_ | refine C_block ?_ | refine C_skip ?_ | refine C_ret ?_ | refine C_exit ?_
          | refine Q_then_ret ?_ | refine Q_then_exit ?_ | refine Q_block ?_ | refine Q_block_ret ?_ | refine Q_block_here ?_ | refine Q_block_on rfl ?_ | refine C_scope ?_ | refine C_label ?_ | refine Q_asn ?_
      (refine C_region ?_
       <;> (first | refine M_slice rfl ?_ | refine W_move ?_)
       <;> (first | refine M_slice rfl ?_ | refine W_move ?_))
      -- at operation 2: <dst=(some 18) op=(call <callee=(builtin copy) args=[(tmp 16), (tmp 17)] argTypes=[24, 24]>) type=3 guard=none>
      refine W_copy (g := W2.heap.size) (off := 0) (cs := cells8 r) rfl rfl y3 (by rw [cells8_length]; simp) (fun h0 => ?_) (by simp [cells8_length]) (oneC_cells8 _) (fun W4 p4 => ?_)
      · have hp3 := hp2.ext q3
        obtain ⟨b, bo, rfl, _⟩ := hp3.cells (by omega)
        exact ⟨rfl, b, bo, rfl, hp3.cellsX (by omega)⟩
      obtain ⟨q4, z4, y4⟩ := p4
      have q34 : Ext W2 W4 := q3.keep q4 (by simp)
      rw [show List.replicate r.length (Value.int .u8 0) = List.replicate ((cells8 r).length + 0) (Value.int .u8 0) by rw [cells8_length]; rfl, splice_zero] at y4
      have hJ2 := hJ (rs ++ [r]) (o + (6 + r.length))
      replace jr := jr.ext q34
      replace j2 := j2.keep q34 (by simp)
      replace j3 := j3.keep q34 (by simp)
      replace j4 := j4.keep q34 (by simp)
      replace j6 := (q34.block _ (by omega) (by simp)).trans j6
      replace e2 := e2.trans q34
      replace y2 := HL.bsy y2 q34 (by simp)
      refine W_nil ?_
      repeat'
        first
          | refine Q_then ?_ | refine C_cond_t rfl ?_ | refine C_cond_f rfl ?_ | refine C_seq ?_ | refine C_block ?_ | refine C_skip ?_ | refine C_ret ?_ | refine C_exit ?_
          | refine Q_then_ret ?_ | refine Q_then_exit ?_ | refine Q_block ?_ | refine Q_block_ret ?_ | refine Q_block_here ?_ | refine Q_block_on rfl ?_ | refine C_scope ?_ | refine C_label ?_ | refine Q_asn ?_
      refine C_region ?_
      obtain ⟨ra, rc, rfl⟩ := jr.form
      refine W_load rfl (j2.cell rfl) ?_
      ((first | refine M_slice rfl ?_ | refine W_move ?_))
      -- at operation 2: <dst=(some 21) op=(buildSlice 31 1 [[0, (tmp 20)]]) type=31 guard=none>
      refine W_buildSlice1 (out := [.slice (some ⟨W2.heap.size, 0, none⟩) r.length r.length]) rfl (by omega) rfl rfl (fun W5 n5 => ?_)
      have q5 := n5.keep
      have z5 := n5.size
      have own5 := n5.own (n := 1) (size := 1) rfl (by unfold maxLen; omega) (Nat.le_refl _)
      have zz := q34.size
      have hu : BytesAt (fun b => b < W5.heap.size ∧ (Value.slice ra rs.length rc).ownBlock ≠ some b ∧ w.heap.size + 5 ≤ b) W5 (.slice (some ⟨W2.heap.size, 0, none⟩) r.length r.length) r := by
        refine ⟨_, _, rfl, Nat.le_refl _, by omega, (fun h => by cases h), .inr ⟨_, _, rfl, ⟨by omega, fun e => by have := ltr _ e; omega, by omega⟩, ?_⟩⟩
        have := (y4.keep q5 (by simp)).cells
        simpa using this
      obtain ⟨vs, hv1, hv2⟩ := jr.ext q5
      refine W_append rfl rfl hv1 (Sl_of_own (ok := anyB) own5 fun _ _ => trivial) (by omega) rfl rfl (by intro u hu; simp at hu; subst hu; rfl) (by omega) (by omega) (by omega) (fun u6 W6 a6 => ?_)
      have jr6 := Rs.push hv1 hv2 hu a6
      have hlo : ∀ g, (Value.slice ra rs.length rc).ownBlock = some g → w.heap.size + 5 ≤ g := fun g hg => (hv1.lt g hg).1
      have hno : ∀ b, b < w.heap.size + 5 → b ∉ (Value.slice ra rs.length rc).ownBlock.toList := fun b hb hm => by have := hlo b (by simpa using hm); omega
      have z6 := a6.keep.size
      replace j2 := (j2.keep q5 (by simp)).keep a6.keep (hno _ (by omega))
      replace j3 := (j3.keep q5 (by simp)).keep a6.keep (hno _ (by omega))
      replace j4 := (j4.keep q5 (by simp)).keep a6.keep (hno _ (by omega))
      replace j6 := (a6.keep.block _ (by omega) (hno _ (by omega))).trans ((q5.block _ (by omega) (by simp)).trans j6)
      replace e2 := (e2.trans q5).apd hv1 (by omega) a6
      replace y2 := HL.bsy (HL.bsy y2 q5 (by simp)) a6.keep (hno _ (by omega))
      obtain ⟨ua, uc, rfl⟩ := own_form a6.own
      ((first | refine M_int rfl ?_ | refine W_move ?_))
      -- at operation 5: <dst=none op=(store 31 (tmp 4) (tmp 22)) type=0 guard=none>
      refine W_store (v := .slice ua (rs.length + 1) uc) rfl rfl rfl j2 (by simp) (fun W7 p7 => ?_)
      obtain ⟨q7, z7, y7⟩ := p7
      replace jr6 := jr6.keepX q7 (by intro x hx; simp at hx; omega)
      replace j3 := j3.keep q7 (by simp; omega)
      replace j4 := j4.keep q7 (by simp; omega)
      replace j6 := (q7.block _ (by omega) (by simp; omega)).trans j6
      replace e2 := e2.keep q7 (by simp)
      replace y2 := HL.bsy y2 q7 (by simp; omega)
      refine W_store (v := .int .i64 ((o + (6 + r.length) : Nat) : Int)) rfl rfl rfl j3 (by simp) (fun W8 p8 => ?_)
      obtain ⟨q8, z8, y8⟩ := p8
      replace jr6 := jr6.keepX q8 (by simp; omega)
      replace y7 := y7.keep q8 (by simp; omega)
      replace j4 := j4.keep q8 (by simp; omega)
      replace j6 := (q8.block _ (by omega) (by simp; omega)).trans j6
      replace e2 := e2.keep q8 (by simp; omega)
      replace y2 := HL.bsy y2 q8 (by simp; omega)
      refine W_nil ?_
      repeat'
        first
          | refine Q_then ?_ | refine C_cond_t rfl ?_ | refine C_cond_f rfl ?_ | refine C_seq ?_ | refine C_block ?_ | refine C_skip ?_ | refine C_ret ?_ | refine C_exit ?_
          | refine Q_then_ret ?_ | refine Q_then_exit ?_ | refine Q_block ?_ | refine Q_block_ret ?_ | refine Q_block_here ?_ | refine Q_block_on rfl ?_ | refine C_scope ?_ | refine C_label ?_ | refine Q_asn ?_
      exact Q_rnd y2 fun W9 q9 z9 y9 => ⟨rfl, (hJ2 _).2 ⟨e2.keep q9 (by simp; omega), ⟨_, jr6.keepX q9 (by simp; omega), y7.keep q9 (by simp; omega)⟩, y8.keep q9 (by simp; omega), j4.keep q9 (by simp; omega), y9, (q9.block _ (by omega) (by simp)).trans j6⟩⟩
  refine Fn.mono (framesIt_any _ _ _ _ _ J H w6 ((hJ _ _ _).2 ⟨e6, ⟨_, Rs.nil _ _, b1⟩, b4, b5, r6, m6⟩) ⟨_, rfl⟩) ?_
  rintro v w7 hj
  obtain ⟨j1, ⟨rv, jr, j2⟩, j3, j4, j5, j6⟩ := (hJ _ _ _).1 hj
  have hlt := HL.lt j5
  refine .inl ⟨j5, fun w8 k8 s8 => ?_⟩
  clear hJ H hj HL r6 m6 b1 b4 b5
  replace j2 := j2.keep k8 (by simp; omega)
  replace j3 := j3.keep k8 (by simp; omega)
  replace j6 := (k8.block _ (by omega) (by simp)).trans j6
  have e8 := j1.keep k8 (by simp; omega)
  replace jr := jr.keepX k8 (by intro x hx; simp at hx; omega)
  generalize (recs 500 l).1 = rs at *
  generalize (recs 500 l).2 = o at *
  obtain ⟨ra, rc, rfl⟩ := jr.form
  repeat'
    first
      | refine Q_then ?_ | refine C_cond_t rfl ?_ | refine C_cond_f rfl ?_ | refine C_seq ?_ | refine C_block ?_ | refine C_skip ?_ | refine C_ret ?_ | refine C_exit ?_
      | refine Q_then_ret ?_ | refine Q_then_exit ?_ | refine Q_block ?_ | refine Q_block_ret ?_ | refine Q_block_here ?_ | refine Q_block_on rfl ?_ | refine C_scope ?_ | refine C_label ?_ | refine Q_asn ?_
  obtain ⟨S, hS⟩ : ∃ S : World → Prop, ∀ W, S W ↔ Ext w8 W := ⟨_, fun _ => Iff.rfl⟩
  have q0 := fun W (hW : S W) => (j2.keep ((hS W).1 hW) (by simp)).cell (o := 0) rfl
  have q1 := fun W (hW : S W) => (j3.keep ((hS W).1 hW) (by simp)).cell (o := 0) rfl
  refine C_drawN (.read 0 (.read 1 (.read 2 (.read 3 .done)))) mixed (by kernel_rfl) (fun wd kd ed => ⟨S, ?_, ?_⟩)
  · exact (hS _).2 kd
  ((apply D_R rfl rfl; (intro W hW; (first | refine W_load rfl (q0 W hW) ?_ | refine W_load rfl (q1 W hW) ?_ | refine W_load_agg rfl (by rfl) (q0 W hW) ?_ | refine W_load_agg rfl (by rfl) (q1 W hW) ?_); exact W_nil ⟨rfl, rfl, rfl⟩))
   <;> (apply D_R rfl rfl; (intro W hW; (first | refine W_load rfl (q0 W hW) ?_ | refine W_load rfl (q1 W hW) ?_ | refine W_load_agg rfl (by rfl) (q0 W hW) ?_ | refine W_load_agg rfl (by rfl) (q1 W hW) ?_); exact W_nil ⟨rfl, rfl, rfl⟩))
   <;> (apply D_R rfl rfl; (intro W hW; (refine M_assign ?_; (first | refine M_slice rfl ?_ | refine W_move ?_)); exact W_nil ⟨rfl, rfl, rfl⟩))
   <;> (apply D_R rfl rfl; (intro W hW; (refine M_assign ?_; (first | refine M_int rfl ?_ | refine W_move ?_)); exact W_nil ⟨rfl, rfl, rfl⟩))
   <;> refine D_nil ?_)
  repeat'
    first
      | refine Q_then ?_ | refine C_cond_t rfl ?_ | refine C_cond_f rfl ?_ | refine C_seq ?_ | refine C_block ?_ | refine C_skip ?_ | refine C_ret ?_ | refine C_exit ?_
      | refine Q_then_ret ?_ | refine Q_then_exit ?_ | refine Q_block ?_ | refine Q_block_ret ?_ | refine Q_block_here ?_ | refine Q_block_on rfl ?_ | refine C_scope ?_ | refine C_label ?_ | refine Q_asn ?_
  have zd := kd.size
  refine finD_mark ((kd.block _ (by omega) (by simp)).trans j6) fun w9 k9 s9 => ?_
  exact finD_ret2 rfl ⟨_, rfl, Rs.lower (Rs.keepX (jr.ext kd) k9 (by intro x hx; simp at hx; omega)) (by omega), (e8.trans kd).keep k9 (by simp; omega)⟩
end Go.Proofs.Ytfbahfibgmdlnaa
