/- Entries to bytes and back, walked. Conditions: none. -/
import Derived.Test.YtfbahfibgmdlnaaJ5
namespace Go.Proofs.Ytfbahfibgmdlnaa
open Go.RowKit
set_option linter.unusedVariables false

theorem writable_iff (e : Ent) : writable e = true ↔ 1 ≤ e.kind ∧ e.kind ≤ 4 ∧ 0 ≤ e.n ∧ e.n ≤ 65535 ∧ e.text.length ≤ 3997 := by
  simp only [writable, Bool.and_eq_true, decide_eq_true_eq]
  constructor
  · rintro ⟨⟨⟨⟨h1, h2⟩, h3⟩, h4⟩, h5⟩; exact ⟨h1, h2, h3, h4, h5⟩
  · rintro ⟨h1, h2, h3, h4, h5⟩; exact ⟨⟨⟨⟨h1, h2⟩, h3⟩, h4⟩, h5⟩

theorem refEncode_any (e : Ent) (w : World) :
    Fn Try.prog 19 [entV e] w fun v w' => w'.ownsRow w.heap.size 5 1 v (encode e).length (cells8 (encode e)) ∧ Ext w w' := by
  refine fn_of_wc Try.func19 rfl Try.ntmps19 (Nat.le_of_ble_eq_true rfl) (by kernel_rfl) ?_
  repeat'
    first
      | refine Q_then ?_ | refine C_cond_t rfl ?_ | refine C_cond_f rfl ?_ | refine C_seq ?_ | refine C_block ?_ | refine C_skip ?_ | refine C_ret ?_ | refine C_exit ?_
      | refine Q_then_ret ?_ | refine Q_then_exit ?_ | refine Q_block ?_ | refine Q_block_ret ?_ | refine Q_block_here ?_ | refine Q_block_on rfl ?_ | refine C_scope ?_ | refine C_label ?_ | refine Q_asn ?_
  refine C_region ?_
  refine W_box (L := [.int .i64 e.kind, .int .i64 e.n, strV e.text]) rfl (fun w1 n1 => ?_)
  obtain ⟨k1, s1, b1⟩ := n1
  ((refine M_assign ?_; (first | refine M_slice rfl ?_ | refine W_move ?_))
   <;> refine W_nil ?_)
  repeat'
    first
      | refine Q_then ?_ | refine C_cond_t rfl ?_ | refine C_cond_f rfl ?_ | refine C_seq ?_ | refine C_block ?_ | refine C_skip ?_ | refine C_ret ?_ | refine C_exit ?_
      | refine Q_then_ret ?_ | refine Q_then_exit ?_ | refine Q_block ?_ | refine Q_block_ret ?_ | refine Q_block_here ?_ | refine Q_block_on rfl ?_ | refine C_scope ?_ | refine C_label ?_ | refine Q_asn ?_
  refine C_region ?_
  refine W_load_agg (L := [.int .i64 e.kind, .int .i64 e.n, strV e.text]) rfl rfl b1.cells ?_
  refine W_call (Writable_any e _) rfl ?_
  rintro u2 w2 ⟨rfl, k2⟩
  ((refine M_assign ?_; (first | refine M_bool rfl ?_ | refine W_move ?_))
   <;> refine W_nil ?_)
  have b2 := b1.keep k2 (by simp)
  have e2 := k1.trans k2
  repeat'
    first
      | refine Q_then ?_ | refine C_cond_t rfl ?_ | refine C_cond_f rfl ?_ | refine C_seq ?_ | refine C_block ?_ | refine C_skip ?_ | refine C_ret ?_ | refine C_exit ?_
      | refine Q_then_ret ?_ | refine Q_then_exit ?_ | refine Q_block ?_ | refine Q_block_ret ?_ | refine Q_block_here ?_ | refine Q_block_on rfl ?_ | refine C_scope ?_ | refine C_label ?_ | refine Q_asn ?_
  cases hw : writable e with
  | false =>
    (refine C_region ?_
     <;> (first | refine M_bool rfl ?_ | refine W_move ?_)
     <;> refine W_not rfl ?_
     <;> refine W_nil ?_)
    repeat'
      first
        | refine Q_then ?_ | refine C_cond_t rfl ?_ | refine C_cond_f rfl ?_ | refine C_seq ?_ | refine C_block ?_ | refine C_skip ?_ | refine C_ret ?_ | refine C_exit ?_
        | refine Q_then_ret ?_ | refine Q_then_exit ?_ | refine Q_block ?_ | refine Q_block_ret ?_ | refine Q_block_here ?_ | refine Q_block_on rfl ?_ | refine C_scope ?_ | refine C_label ?_ | refine Q_asn ?_
    (refine C_region ?_
     <;> (refine M_assign ?_; (first | refine M_slice rfl ?_ | refine W_move ?_))
     <;> refine W_nil ?_)
    repeat'
      first
        | refine Q_then ?_ | refine C_cond_t rfl ?_ | refine C_cond_f rfl ?_ | refine C_seq ?_ | refine C_block ?_ | refine C_skip ?_ | refine C_ret ?_ | refine C_exit ?_
        | refine Q_then_ret ?_ | refine Q_then_exit ?_ | refine Q_block ?_ | refine Q_block_ret ?_ | refine Q_block_here ?_ | refine Q_block_on rfl ?_ | refine C_scope ?_ | refine C_label ?_ | refine Q_asn ?_
    have he : encode e = [] := by simp [encode, hw]
    rw [he]
    exact fin_ret1 rfl ⟨⟨rfl, .inl ⟨rfl, rfl⟩⟩, e2⟩
  | true =>
    obtain ⟨h1, h2, h3, h4, h5⟩ := (writable_iff e).1 hw
    have he : encode e = b8 e.kind.toNat :: (two e.n.toNat ++ e.text) := by simp [encode, hw]
    rw [he]
    (refine C_region ?_
     <;> (first | refine M_bool rfl ?_ | refine W_move ?_)
     <;> refine W_not rfl ?_
     <;> refine W_nil ?_)
    repeat'
      first
        | refine Q_then ?_ | refine C_cond_t rfl ?_ | refine C_cond_f rfl ?_ | refine C_seq ?_ | refine C_block ?_ | refine C_skip ?_ | refine C_ret ?_ | refine C_exit ?_
        | refine Q_then_ret ?_ | refine Q_then_exit ?_ | refine Q_block ?_ | refine Q_block_ret ?_ | refine Q_block_here ?_ | refine Q_block_on rfl ?_ | refine C_scope ?_ | refine C_label ?_ | refine Q_asn ?_
    have c0 := fun W (hW : Ext w2 W) => (b2.keep hW (by simp)).cell (o := 0) rfl
    have c1 := fun W (hW : Ext w2 W) => (b2.keep hW (by simp)).cell (o := 1) rfl
    refine C_drawN (.read 0 (.read 1 (.read 2 (.read 4 (.read 5 (.alt 3 (.alt 6 (.alt 7 (.read 8 .done) .stop) .stop) (.alt 6 (.alt 3 (.alt 7 (.read 8 .done) .stop) .stop) .stop))))))) mixed (by kernel_rfl) (fun wd kd ed => ⟨Ext w2, ?_, ?_⟩)
    · exact kd
    ((apply D_R rfl rfl; (intro W hW; refine W_fieldAddr rfl ?_; exact W_nil ⟨rfl, rfl, rfl⟩))
     <;> (apply D_R rfl rfl; (intro W hW; (first | refine W_load rfl (c0 W hW) ?_ | refine W_load rfl (c1 W hW) ?_ | refine W_load_agg rfl (by rfl) (c0 W hW) ?_ | refine W_load_agg rfl (by rfl) (c1 W hW) ?_); exact W_nil ⟨rfl, rfl, rfl⟩))
     <;> (apply D_R rfl rfl; (intro W hW; refine W_conv rfl (by first | exact inR_i64 (by omega) (by omega) | exact inR_u8 (by omega) (by omega) | exact inR_u16 (by omega) (by omega)) ?_; exact W_nil ⟨rfl, rfl, rfl⟩))
     <;> (apply D_R rfl rfl; (intro W hW; refine W_fieldAddr rfl ?_; exact W_nil ⟨rfl, rfl, rfl⟩))
     <;> (apply D_R rfl rfl; (intro W hW; (first | refine W_load rfl (c0 W hW) ?_ | refine W_load rfl (c1 W hW) ?_ | refine W_load_agg rfl (by rfl) (c0 W hW) ?_ | refine W_load_agg rfl (by rfl) (c1 W hW) ?_); exact W_nil ⟨rfl, rfl, rfl⟩)))
    -- at place 5, operation 3 of [3, 6]: <dst=(some 13) op=(buildSlice 24 1 [[0, (tmp 12)]]) type=24 guard=none>
    have ek : ((e.kind : Int)) = ((e.kind.toNat : Nat) : Int) := by omega
    have en : ((e.n : Int)) = ((e.n.toNat : Nat) : Int) := by omega
    have e8 : enc8 (b8 e.kind.toNat) = .int .u8 e.kind := by rw [enc8_b8 (by omega), ← ek]
    have ht := fun w => two_any e.n.toNat w (by omega)
    rw [← en] at ht
    refine D_A rfl ?_ (D_E rfl ?_)
    · refine W_buildSlice1 (out := cells8 [b8 e.kind.toNat]) rfl (by omega) rfl (by simp only [cells8, List.map_cons, List.map_nil, e8]; rfl) (fun w3 n3 => ?_)
      have o3 := n3.own (n := 1) (size := 1) rfl (by unfold maxLen; omega) (Nat.le_refl _)
      refine W_nil ⟨Ext w2, fun _ h => h, kd.trans n3.keep, ?_⟩
      refine D_E rfl ?_
      refine W_call (ht _) rfl ?_
      rintro u4 w4 ⟨o4, k4⟩
      refine W_nil ⟨Ext w2, fun _ h => h, (kd.trans n3.keep).trans k4, ?_⟩
      refine D_E rfl ?_
      refine W_apd8 rfl rfl rfl (ownsRow_ext o3 k4) (own_bytes o4 rfl) (by simp [two_length]) (by have := n3.keep.size; have := k4.size; omega) (fun u5 w5 a5 => ?_)
      have o5 := a5.own
      have k5 : Ext w w5 := ((e2.trans kd).trans (n3.keep.trans k4)).apd (ownsRow_ext o3 k4) (by have := e2.size; have := kd.size; omega) a5
      have k25 : Ext w2 w5 := (kd.trans (n3.keep.trans k4)).apd (ownsRow_ext o3 k4) (by have := kd.size; omega) a5
      refine W_nil ⟨Ext w2, fun _ h => h, k25, ?_⟩
      ((apply D_R rfl rfl; (intro W hW; (refine M_assign ?_; (first | refine M_slice rfl ?_ | refine W_move ?_)); exact W_nil ⟨rfl, rfl, rfl⟩))
       <;> refine D_nil ?_)
      repeat'
        first
          | refine Q_then ?_ | refine C_cond_t rfl ?_ | refine C_cond_f rfl ?_ | refine C_seq ?_ | refine C_block ?_ | refine C_skip ?_ | refine C_ret ?_ | refine C_exit ?_
          | refine Q_then_ret ?_ | refine Q_then_exit ?_ | refine Q_block ?_ | refine Q_block_ret ?_ | refine Q_block_here ?_ | refine Q_block_on rfl ?_ | refine C_scope ?_ | refine C_label ?_ | refine Q_asn ?_
      (refine C_region ?_
       <;> (refine M_assign ?_; (first | refine M_int rfl ?_ | refine W_move ?_))
       <;> refine W_nil ?_)
      repeat'
        first
          | refine Q_then ?_ | refine C_cond_t rfl ?_ | refine C_cond_f rfl ?_ | refine C_seq ?_ | refine C_block ?_ | refine C_skip ?_ | refine C_ret ?_ | refine C_exit ?_
          | refine Q_then_ret ?_ | refine Q_then_exit ?_ | refine Q_block ?_ | refine Q_block_ret ?_ | refine Q_block_here ?_ | refine Q_block_on rfl ?_ | refine C_scope ?_ | refine C_label ?_ | refine Q_asn ?_
      have hsz2 : w.heap.size + 1 ≤ wd.heap.size := by have := k2.size; have := kd.size; omega
      have o6 := ownsRow_mono o5 hsz2
      have b6 := b2.keep k25 (by simp)
      have hsz3 := k1.size
      clear a5 o4 k4 n3 o3 o5 k25 c0 c1 kd ed
      refine C_loop (α := Nat × Value) (fun x => [(1, .pointer (some ⟨w.heap.size, 0, none⟩)), (4, x.2), (5, .int .i64 x.1)])
        (fun x wk => x.1 ≤ e.text.length ∧ Ext w wk ∧ Blk wk w.heap.size 23 [.int .i64 e.kind, .int .i64 e.n, strV e.text] ∧ wk.ownsRow (w.heap.size + 1) 5 1 x.2 (3 + x.1) (cells8 (b8 e.kind.toNat :: (two e.n.toNat ++ e.text.take x.1))))
        (fun x => e.text.length - x.1) (0, u5) ⟨rfl, rfl, rfl, trivial⟩ ⟨by simp, k5, b6, by simpa [two_length] using o6⟩ ?_
      clear b6 o6 k5 b2 b1 hsz2
      rintro ⟨k, v⟩ wk f' ⟨hk, hwk, bk, ok⟩
      simp only at hk ok
      change WC _ _ _ _ (ov [(1, .pointer (some ⟨w.heap.size, 0, none⟩)), (4, v), (5, .int .i64 (k : Int))] f') _ _
      repeat'
        first
          | refine Q_then ?_ | refine C_cond_t rfl ?_ | refine C_cond_f rfl ?_ | refine C_seq ?_ | refine C_block ?_ | refine C_skip ?_ | refine C_ret ?_ | refine C_exit ?_
          | refine Q_then_ret ?_ | refine Q_then_exit ?_ | refine Q_block ?_ | refine Q_block_ret ?_ | refine Q_block_here ?_ | refine Q_block_on rfl ?_ | refine C_scope ?_ | refine C_label ?_ | refine Q_asn ?_
      (refine C_region ?_
       <;> (first | refine M_int rfl ?_ | refine W_move ?_)
       <;> refine W_fieldAddr rfl ?_
       <;> (first | refine W_load rfl (Blk.cell (by assumption) (by rfl)) ?_ | refine W_load rfl (by assumption) ?_)
       <;> refine W_slen rfl ?_
       <;> (refine W_lss rfl rfl (fun hc => ?_) (fun hc => ?_) <;> try (exfalso; omega))
       <;> refine W_nil ?_)
      · repeat'
          first
            | refine Q_then ?_ | refine C_cond_t rfl ?_ | refine C_cond_f rfl ?_ | refine C_seq ?_ | refine C_block ?_ | refine C_skip ?_ | refine C_ret ?_ | refine C_exit ?_
            | refine Q_then_ret ?_ | refine Q_then_exit ?_ | refine Q_block ?_ | refine Q_block_ret ?_ | refine Q_block_here ?_ | refine Q_block_on rfl ?_ | refine C_scope ?_ | refine C_label ?_ | refine Q_asn ?_
        (refine C_region ?_
         <;> (first | refine M_slice rfl ?_ | refine W_move ?_)
         <;> refine W_fieldAddr rfl ?_
         <;> (first | refine W_load rfl (Blk.cell (by assumption) (by rfl)) ?_ | refine W_load rfl (by assumption) ?_)
         <;> (first | refine M_int rfl ?_ | refine W_move ?_))
        -- at operation 4: <dst=(some 29) op=(index 9 (tmp 27) (tmp 28)) type=5 guard=none>
        refine W_sindex (c := e.text.getD k 0) rfl rfl (by omega) (by simp [show k < e.text.length by omega]) ?_
        refine W_buildSlice1 (out := cells8 [e.text.getD k 0]) rfl (by omega) rfl rfl (fun w6 n6 => ?_)
        have o6 := n6.own (n := 1) (size := 1) rfl (by unfold maxLen; omega) (Nat.le_refl _)
        have lt6 := bk.lt
        refine W_apd8 (v := v) rfl rfl rfl (ownsRow_ext ok n6.keep) (own_bytes o6 rfl) (by simp; omega) (by have := n6.keep.size; omega) (fun u7 w7 a7 => ?_)
        have k7 : Ext w w7 := (hwk.trans n6.keep).apd (ownsRow_ext ok n6.keep) (by omega) a7
        have b7 : Blk w7 w.heap.size 23 [.int .i64 e.kind, .int .i64 e.n, strV e.text] := (bk.keep n6.keep (by simp)).keep a7.keep (by intro hm; have := (ok.lt _ (by simpa using hm)).1; omega)
        ((refine M_assign ?_; (first | refine M_slice rfl ?_ | refine W_move ?_))
         <;> refine W_nil ?_)
        repeat'
          first
            | refine Q_then ?_ | refine C_cond_t rfl ?_ | refine C_cond_f rfl ?_ | refine C_seq ?_ | refine C_block ?_ | refine C_skip ?_ | refine C_ret ?_ | refine C_exit ?_
            | refine Q_then_ret ?_ | refine Q_then_exit ?_ | refine Q_block ?_ | refine Q_block_ret ?_ | refine Q_block_here ?_ | refine Q_block_on rfl ?_ | refine C_scope ?_ | refine C_label ?_ | refine Q_asn ?_
        (refine C_region ?_
         <;> (first | refine M_int rfl ?_ | refine W_move ?_)
         <;> refine W_add rfl rfl (by first | exact inR_i64 (by omega) (by omega) | exact inR_u8 (by omega) (by omega) | exact inR_u16 (by omega) (by omega)) ?_
         <;> (refine M_assign ?_; (first | refine M_int rfl ?_ | refine W_move ?_))
         <;> refine W_nil ?_)
        repeat'
          first
            | refine Q_then ?_ | refine C_cond_t rfl ?_ | refine C_cond_f rfl ?_ | refine C_seq ?_ | refine C_block ?_ | refine C_skip ?_ | refine C_ret ?_ | refine C_exit ?_
            | refine Q_then_ret ?_ | refine Q_then_exit ?_ | refine Q_block ?_ | refine Q_block_ret ?_ | refine Q_block_here ?_ | refine Q_block_on rfl ?_ | refine C_scope ?_ | refine C_label ?_ | refine Q_asn ?_
        refine ⟨(k + 1, u7), ⟨rfl, ⟨rfl, rfl, rfl, trivial⟩, by simp; omega, k7, b7, ?_⟩, by simp; omega⟩
        have o7 := a7.own
        rw [List.cons_append, List.append_assoc, ← take_succ_getD (by omega)] at o7
        exact o7
      · repeat'
          first
            | refine Q_then ?_ | refine C_cond_t rfl ?_ | refine C_cond_f rfl ?_ | refine C_seq ?_ | refine C_block ?_ | refine C_skip ?_ | refine C_ret ?_ | refine C_exit ?_
            | refine Q_then_ret ?_ | refine Q_then_exit ?_ | refine Q_block ?_ | refine Q_block_ret ?_ | refine Q_block_here ?_ | refine Q_block_on rfl ?_ | refine C_scope ?_ | refine C_label ?_ | refine Q_asn ?_
        (refine C_region ?_
         <;> (first | refine M_slice rfl ?_ | refine W_move ?_)
         <;> (refine M_assign ?_; (first | refine M_slice rfl ?_ | refine W_move ?_))
         <;> refine W_nil ?_)
        repeat'
          first
            | refine Q_then ?_ | refine C_cond_t rfl ?_ | refine C_cond_f rfl ?_ | refine C_seq ?_ | refine C_block ?_ | refine C_skip ?_ | refine C_ret ?_ | refine C_exit ?_
            | refine Q_then_ret ?_ | refine Q_then_exit ?_ | refine Q_block ?_ | refine Q_block_ret ?_ | refine Q_block_here ?_ | refine Q_block_on rfl ?_ | refine C_scope ?_ | refine C_label ?_ | refine Q_asn ?_
        have hkl : k = e.text.length := by omega
        subst hkl
        rw [List.take_length] at ok
        have hlen : (b8 e.kind.toNat :: (two e.n.toNat ++ e.text)).length = 3 + e.text.length := by simp [two_length]; omega
        rw [hlen]
        exact fin_ret1 rfl ⟨ownsRow_mono ok (by omega), hwk⟩
    · refine W_call (ht _) rfl ?_
      rintro u4 w4 ⟨o4, k4⟩
      refine W_nil ⟨Ext w2, fun _ h => h, kd.trans k4, ?_⟩
      refine D_E rfl ?_
      refine W_buildSlice1 (out := cells8 [b8 e.kind.toNat]) rfl (by omega) rfl (by simp only [cells8, List.map_cons, List.map_nil, e8]; rfl) (fun w3 n3 => ?_)
      have o3 := n3.own (n := 1) (size := 1) rfl (by unfold maxLen; omega) (Nat.le_refl _)
      refine W_nil ⟨Ext w2, fun _ h => h, (kd.trans k4).trans n3.keep, ?_⟩
      refine D_E rfl ?_
      refine W_apd8 rfl rfl rfl o3 (own_bytes (ownsRow_ext o4 n3.keep) rfl) (by simp [two_length]) (by have := n3.keep.size; omega) (fun u5 w5 a5 => ?_)
      have o5 := ownsRow_mono a5.own k4.size
      have k5 : Ext w w5 := ((e2.trans kd).trans (k4.trans n3.keep)).apd o3 (by have := e2.size; have := kd.size; have := k4.size; omega) a5
      have k25 : Ext w2 w5 := (kd.trans (k4.trans n3.keep)).apd o3 (by have := kd.size; have := k4.size; omega) a5
      refine W_nil ⟨Ext w2, fun _ h => h, k25, ?_⟩
      ((apply D_R rfl rfl; (intro W hW; (refine M_assign ?_; (first | refine M_slice rfl ?_ | refine W_move ?_)); exact W_nil ⟨rfl, rfl, rfl⟩))
       <;> refine D_nil ?_)
      repeat'
        first
          | refine Q_then ?_ | refine C_cond_t rfl ?_ | refine C_cond_f rfl ?_ | refine C_seq ?_ | refine C_block ?_ | refine C_skip ?_ | refine C_ret ?_ | refine C_exit ?_
          | refine Q_then_ret ?_ | refine Q_then_exit ?_ | refine Q_block ?_ | refine Q_block_ret ?_ | refine Q_block_here ?_ | refine Q_block_on rfl ?_ | refine C_scope ?_ | refine C_label ?_ | refine Q_asn ?_
      (refine C_region ?_
       <;> (refine M_assign ?_; (first | refine M_int rfl ?_ | refine W_move ?_))
       <;> refine W_nil ?_)
      repeat'
        first
          | refine Q_then ?_ | refine C_cond_t rfl ?_ | refine C_cond_f rfl ?_ | refine C_seq ?_ | refine C_block ?_ | refine C_skip ?_ | refine C_ret ?_ | refine C_exit ?_
          | refine Q_then_ret ?_ | refine Q_then_exit ?_ | refine Q_block ?_ | refine Q_block_ret ?_ | refine Q_block_here ?_ | refine Q_block_on rfl ?_ | refine C_scope ?_ | refine C_label ?_ | refine Q_asn ?_
      have hsz2 : w.heap.size + 1 ≤ wd.heap.size := by have := k2.size; have := kd.size; omega
      have o6 := ownsRow_mono o5 hsz2
      have b6 := b2.keep k25 (by simp)
      have hsz3 := k1.size
      clear a5 o4 k4 n3 o3 o5 k25 c0 c1 kd ed
      refine C_loop (α := Nat × Value) (fun x => [(1, .pointer (some ⟨w.heap.size, 0, none⟩)), (4, x.2), (5, .int .i64 x.1)])
        (fun x wk => x.1 ≤ e.text.length ∧ Ext w wk ∧ Blk wk w.heap.size 23 [.int .i64 e.kind, .int .i64 e.n, strV e.text] ∧ wk.ownsRow (w.heap.size + 1) 5 1 x.2 (3 + x.1) (cells8 (b8 e.kind.toNat :: (two e.n.toNat ++ e.text.take x.1))))
        (fun x => e.text.length - x.1) (0, u5) ⟨rfl, rfl, rfl, trivial⟩ ⟨by simp, k5, b6, by simpa [two_length] using o6⟩ ?_
      clear b6 o6 k5 b2 b1 hsz2
      rintro ⟨k, v⟩ wk f' ⟨hk, hwk, bk, ok⟩
      simp only at hk ok
      change WC _ _ _ _ (ov [(1, .pointer (some ⟨w.heap.size, 0, none⟩)), (4, v), (5, .int .i64 (k : Int))] f') _ _
      repeat'
        first
          | refine Q_then ?_ | refine C_cond_t rfl ?_ | refine C_cond_f rfl ?_ | refine C_seq ?_ | refine C_block ?_ | refine C_skip ?_ | refine C_ret ?_ | refine C_exit ?_
          | refine Q_then_ret ?_ | refine Q_then_exit ?_ | refine Q_block ?_ | refine Q_block_ret ?_ | refine Q_block_here ?_ | refine Q_block_on rfl ?_ | refine C_scope ?_ | refine C_label ?_ | refine Q_asn ?_
      (refine C_region ?_
       <;> (first | refine M_int rfl ?_ | refine W_move ?_)
       <;> refine W_fieldAddr rfl ?_
       <;> (first | refine W_load rfl (Blk.cell (by assumption) (by rfl)) ?_ | refine W_load rfl (by assumption) ?_)
       <;> refine W_slen rfl ?_
       <;> (refine W_lss rfl rfl (fun hc => ?_) (fun hc => ?_) <;> try (exfalso; omega))
       <;> refine W_nil ?_)
      · repeat'
          first
            | refine Q_then ?_ | refine C_cond_t rfl ?_ | refine C_cond_f rfl ?_ | refine C_seq ?_ | refine C_block ?_ | refine C_skip ?_ | refine C_ret ?_ | refine C_exit ?_
            | refine Q_then_ret ?_ | refine Q_then_exit ?_ | refine Q_block ?_ | refine Q_block_ret ?_ | refine Q_block_here ?_ | refine Q_block_on rfl ?_ | refine C_scope ?_ | refine C_label ?_ | refine Q_asn ?_
        (refine C_region ?_
         <;> (first | refine M_slice rfl ?_ | refine W_move ?_)
         <;> refine W_fieldAddr rfl ?_
         <;> (first | refine W_load rfl (Blk.cell (by assumption) (by rfl)) ?_ | refine W_load rfl (by assumption) ?_)
         <;> (first | refine M_int rfl ?_ | refine W_move ?_))
        -- at operation 4: <dst=(some 29) op=(index 9 (tmp 27) (tmp 28)) type=5 guard=none>
        refine W_sindex (c := e.text.getD k 0) rfl rfl (by omega) (by simp [show k < e.text.length by omega]) ?_
        refine W_buildSlice1 (out := cells8 [e.text.getD k 0]) rfl (by omega) rfl rfl (fun w6 n6 => ?_)
        have o6 := n6.own (n := 1) (size := 1) rfl (by unfold maxLen; omega) (Nat.le_refl _)
        have lt6 := bk.lt
        refine W_apd8 (v := v) rfl rfl rfl (ownsRow_ext ok n6.keep) (own_bytes o6 rfl) (by simp; omega) (by have := n6.keep.size; omega) (fun u7 w7 a7 => ?_)
        have k7 : Ext w w7 := (hwk.trans n6.keep).apd (ownsRow_ext ok n6.keep) (by omega) a7
        have b7 : Blk w7 w.heap.size 23 [.int .i64 e.kind, .int .i64 e.n, strV e.text] := (bk.keep n6.keep (by simp)).keep a7.keep (by intro hm; have := (ok.lt _ (by simpa using hm)).1; omega)
        ((refine M_assign ?_; (first | refine M_slice rfl ?_ | refine W_move ?_))
         <;> refine W_nil ?_)
        repeat'
          first
            | refine Q_then ?_ | refine C_cond_t rfl ?_ | refine C_cond_f rfl ?_ | refine C_seq ?_ | refine C_block ?_ | refine C_skip ?_ | refine C_ret ?_ | refine C_exit ?_
            | refine Q_then_ret ?_ | refine Q_then_exit ?_ | refine Q_block ?_ | refine Q_block_ret ?_ | refine Q_block_here ?_ | refine Q_block_on rfl ?_ | refine C_scope ?_ | refine C_label ?_ | refine Q_asn ?_
        (refine C_region ?_
         <;> (first | refine M_int rfl ?_ | refine W_move ?_)
         <;> refine W_add rfl rfl (by first | exact inR_i64 (by omega) (by omega) | exact inR_u8 (by omega) (by omega) | exact inR_u16 (by omega) (by omega)) ?_
         <;> (refine M_assign ?_; (first | refine M_int rfl ?_ | refine W_move ?_))
         <;> refine W_nil ?_)
        repeat'
          first
            | refine Q_then ?_ | refine C_cond_t rfl ?_ | refine C_cond_f rfl ?_ | refine C_seq ?_ | refine C_block ?_ | refine C_skip ?_ | refine C_ret ?_ | refine C_exit ?_
            | refine Q_then_ret ?_ | refine Q_then_exit ?_ | refine Q_block ?_ | refine Q_block_ret ?_ | refine Q_block_here ?_ | refine Q_block_on rfl ?_ | refine C_scope ?_ | refine C_label ?_ | refine Q_asn ?_
        refine ⟨(k + 1, u7), ⟨rfl, ⟨rfl, rfl, rfl, trivial⟩, by simp; omega, k7, b7, ?_⟩, by simp; omega⟩
        have o7 := a7.own
        rw [List.cons_append, List.append_assoc, ← take_succ_getD (by omega)] at o7
        exact o7
      · repeat'
          first
            | refine Q_then ?_ | refine C_cond_t rfl ?_ | refine C_cond_f rfl ?_ | refine C_seq ?_ | refine C_block ?_ | refine C_skip ?_ | refine C_ret ?_ | refine C_exit ?_
            | refine Q_then_ret ?_ | refine Q_then_exit ?_ | refine Q_block ?_ | refine Q_block_ret ?_ | refine Q_block_here ?_ | refine Q_block_on rfl ?_ | refine C_scope ?_ | refine C_label ?_ | refine Q_asn ?_
        (refine C_region ?_
         <;> (first | refine M_slice rfl ?_ | refine W_move ?_)
         <;> (refine M_assign ?_; (first | refine M_slice rfl ?_ | refine W_move ?_))
         <;> refine W_nil ?_)
        repeat'
          first
            | refine Q_then ?_ | refine C_cond_t rfl ?_ | refine C_cond_f rfl ?_ | refine C_seq ?_ | refine C_block ?_ | refine C_skip ?_ | refine C_ret ?_ | refine C_exit ?_
            | refine Q_then_ret ?_ | refine Q_then_exit ?_ | refine Q_block ?_ | refine Q_block_ret ?_ | refine Q_block_here ?_ | refine Q_block_on rfl ?_ | refine C_scope ?_ | refine C_label ?_ | refine Q_asn ?_
        have hkl : k = e.text.length := by omega
        subst hkl
        rw [List.take_length] at ok
        have hlen : (b8 e.kind.toNat :: (two e.n.toNat ++ e.text)).length = 3 + e.text.length := by simp [two_length]; omega
        rw [hlen]
        exact fin_ret1 rfl ⟨ownsRow_mono ok (by omega), hwk⟩
end Go.Proofs.Ytfbahfibgmdlnaa
