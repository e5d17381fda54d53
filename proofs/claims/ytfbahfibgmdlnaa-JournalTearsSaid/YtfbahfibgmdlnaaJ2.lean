/- The two checksums, walked. Conditions: none. -/
import Derived.Test.YtfbahfibgmdlnaaJ1
namespace Go.Proofs.Ytfbahfibgmdlnaa
set_option linter.unusedVariables false

theorem flatten_take_succ {ls : List (List UInt8)} {i : Nat} (h : i < ls.length) : (ls.take (i + 1)).flatten = (ls.take i).flatten ++ ls.getD i [] := by
  rw [List.take_succ_eq_append_getElem h, List.flatten_append]; simp [h]
theorem take_succ_getD {l : List UInt8} {k : Nat} (h : k < l.length) : l.take (k + 1) = l.take k ++ [l.getD k 0] := by
  rw [List.take_succ_eq_append_getElem h]; simp [h]

theorem checksum_any (v : Value) (ls : List (List UInt8)) (w : World) (h : LB anyB w v ls) :
    Fn Try.prog 27 [v] w fun v w' => v = .agg (cells8 (chk ls.flatten)).toArray ∧ Ext w w' := by
  obtain ⟨vs, ⟨a, c, rfl, hl, hc, hm, hx⟩, hvl, hel⟩ := h
  refine fn_of_wc Try.func27 rfl Try.ntmps27 (Nat.le_of_ble_eq_true rfl) (by kernel_rfl) ?_
  repeat'
    first
      | refine Q_then ?_ | refine C_cond_t rfl ?_ | refine C_cond_f rfl ?_ | refine C_seq ?_ | refine C_block ?_ | refine C_skip ?_ | refine C_ret ?_ | refine C_exit ?_
      | refine Q_then_ret ?_ | refine Q_then_exit ?_ | refine Q_block ?_ | refine Q_block_ret ?_ | refine Q_block_here ?_ | refine Q_block_on rfl ?_ | refine C_scope ?_ | refine C_label ?_ | refine Q_asn ?_
  refine C_region ?_
  refine W_alloc (fun w1 n1 => ?_)
  obtain ⟨k1, s1, b1⟩ := n1
  refine W_nil ?_
  repeat'
    first
      | refine Q_then ?_ | refine C_cond_t rfl ?_ | refine C_cond_f rfl ?_ | refine C_seq ?_ | refine C_block ?_ | refine C_skip ?_ | refine C_ret ?_ | refine C_exit ?_
      | refine Q_then_ret ?_ | refine Q_then_exit ?_ | refine Q_block ?_ | refine Q_block_ret ?_ | refine Q_block_here ?_ | refine Q_block_on rfl ?_ | refine C_scope ?_ | refine C_label ?_ | refine Q_asn ?_
  (refine C_region ?_
   <;> refine W_buildArr (by rfl) (by rfl) ?_)
  -- at operation 1: <dst=(some 3) op=(alloc 59) type=0 guard=none>
  refine W_alloc (fun w2 n2 => ?_)
  obtain ⟨k2, s2, b2⟩ := n2
  replace b1 := b1.keep k2 (by simp)
  refine W_store_agg (cs := [.int .i64 1, .int .i64 0]) rfl rfl rfl (by intro u hu; simp at hu; rcases hu with rfl | rfl <;> rfl) b2 (by simp) (fun w3 p3 => ?_)
  obtain ⟨k3, s3, b3⟩ := p3
  replace b1 := b1.keep k3 (by simp; omega)
  have e3 : Ext w w3 := (k1.trans k2).keep k3 (by intro x hx; simp at hx; omega)
  refine W_nil ?_
  repeat'
    first
      | refine Q_then ?_ | refine C_cond_t rfl ?_ | refine C_cond_f rfl ?_ | refine C_seq ?_ | refine C_block ?_ | refine C_skip ?_ | refine C_ret ?_ | refine C_exit ?_
      | refine Q_then_ret ?_ | refine Q_then_exit ?_ | refine Q_block ?_ | refine Q_block_ret ?_ | refine Q_block_here ?_ | refine Q_block_on rfl ?_ | refine C_scope ?_ | refine C_label ?_ | refine Q_asn ?_
  (refine C_region ?_
   <;> (first | refine M_slice rfl ?_ | refine W_move ?_)
   <;> refine W_len rfl ?_
   <;> (first | refine M_int rfl ?_ | refine W_move ?_)
   <;> refine W_nil ?_)
  repeat'
    first
      | refine Q_then ?_ | refine C_cond_t rfl ?_ | refine C_cond_f rfl ?_ | refine C_seq ?_ | refine C_block ?_ | refine C_skip ?_ | refine C_ret ?_ | refine C_exit ?_
      | refine Q_then_ret ?_ | refine Q_then_exit ?_ | refine Q_block ?_ | refine Q_block_ret ?_ | refine Q_block_here ?_ | refine Q_block_on rfl ?_ | refine C_scope ?_ | refine C_label ?_ | refine Q_asn ?_
  refine C_loop (α := Nat) (fun k => [(2, .pointer (some ⟨w.heap.size, 0, none⟩)), (3, .pointer (some ⟨w1.heap.size, 0, none⟩)), (10, .slice a ls.length c), (11, .int .i64 ls.length), (12, .int .i64 k)])
    (fun k wk => k ≤ ls.length ∧ Ext w wk ∧ Blk wk w.heap.size 52 [.int .u8 0, .int .u8 0, .int .u8 0, .int .u8 0] ∧ Blk wk w1.heap.size 59 [.int .i64 (sums (1, 0) (ls.take k).flatten).1, .int .i64 (sums (1, 0) (ls.take k).flatten).2])
    (fun k => ls.length - k) 0 ⟨rfl, rfl, rfl, rfl, rfl, trivial⟩ ⟨by omega, e3, b1, b3⟩ ?_
  clear b1 b2 b3 e3
  rintro k wk f' ⟨hk, hw, b1, b2⟩
  repeat'
    first
      | refine Q_then ?_ | refine C_cond_t rfl ?_ | refine C_cond_f rfl ?_ | refine C_seq ?_ | refine C_block ?_ | refine C_skip ?_ | refine C_ret ?_ | refine C_exit ?_
      | refine Q_then_ret ?_ | refine Q_then_exit ?_ | refine Q_block ?_ | refine Q_block_ret ?_ | refine Q_block_here ?_ | refine Q_block_on rfl ?_ | refine C_scope ?_ | refine C_label ?_ | refine Q_asn ?_
  (refine C_region ?_
   <;> (refine W_lss rfl rfl (fun hc => ?_) (fun hc => ?_) <;> try (exfalso; omega))
   <;> refine W_nil ?_)
  · repeat'
      first
        | refine Q_then ?_ | refine C_cond_t rfl ?_ | refine C_cond_f rfl ?_ | refine C_seq ?_ | refine C_block ?_ | refine C_skip ?_ | refine C_ret ?_ | refine C_exit ?_
        | refine Q_then_ret ?_ | refine Q_then_exit ?_ | refine Q_block ?_ | refine Q_block_ret ?_ | refine Q_block_here ?_ | refine Q_block_on rfl ?_ | refine C_scope ?_ | refine C_label ?_ | refine Q_asn ?_
    obtain ⟨b, o, rfl, _, g⟩ := hx.resolve_left (by omega)
    have hkv : k < vs.length := by omega
    have hkl : k < ls.length := by omega
    have e := hw.cell (g k vs[k] (by simp [hkv])) (by simp)
    have hb := hel k vs[k] ls[k] (by simp [hkv]) (by simp [hkl])
    have hf := flatten_take_succ hkl
    have hgd : ls.getD k [] = ls[k] := by simp [hkl]
    rw [hgd] at hf
    generalize vs[k] = u at *
    generalize ls[k] = l at *
    obtain ⟨a', c', rfl, hl', hc', hm', hx'⟩ := hb
    (refine C_region ?_
     <;> (first | refine W_idx1 rfl rfl rfl (by omega) ?_ | refine W_idx rfl rfl rfl (by omega) ?_ | refine W_indexAddr rfl rfl (by omega) (by omega) ?_)
     <;> (first | refine W_load rfl (Blk.cell (by assumption) (by rfl)) ?_ | refine W_load rfl (by assumption) ?_)
     <;> (refine M_assign ?_; (first | refine M_slice rfl ?_ | refine W_move ?_))
     <;> refine W_nil ?_)
    repeat'
      first
        | refine Q_then ?_ | refine C_cond_t rfl ?_ | refine C_cond_f rfl ?_ | refine C_seq ?_ | refine C_block ?_ | refine C_skip ?_ | refine C_ret ?_ | refine C_exit ?_
        | refine Q_then_ret ?_ | refine Q_then_exit ?_ | refine Q_block ?_ | refine Q_block_ret ?_ | refine Q_block_here ?_ | refine Q_block_on rfl ?_ | refine C_scope ?_ | refine C_label ?_ | refine Q_asn ?_
    (refine C_region ?_
     <;> (first | refine M_slice rfl ?_ | refine W_move ?_)
     <;> refine W_len rfl ?_
     <;> (first | refine M_int rfl ?_ | refine W_move ?_)
     <;> refine W_nil ?_)
    repeat'
      first
        | refine Q_then ?_ | refine C_cond_t rfl ?_ | refine C_cond_f rfl ?_ | refine C_seq ?_ | refine C_block ?_ | refine C_skip ?_ | refine C_ret ?_ | refine C_exit ?_
        | refine Q_then_ret ?_ | refine Q_then_exit ?_ | refine Q_block ?_ | refine Q_block_ret ?_ | refine Q_block_here ?_ | refine Q_block_on rfl ?_ | refine C_scope ?_ | refine C_label ?_ | refine Q_asn ?_
    refine C_loop (α := Nat) (fun j => [(2, .pointer (some ⟨w.heap.size, 0, none⟩)), (3, .pointer (some ⟨w1.heap.size, 0, none⟩)), (10, .slice (some ⟨b, o, none⟩) ls.length c), (11, .int .i64 ls.length), (12, .int .i64 k), (16, .slice a' l.length c'), (17, .int .i64 l.length), (18, .int .i64 j)])
      (fun j wk => j ≤ l.length ∧ Ext w wk ∧ Blk wk w.heap.size 52 [.int .u8 0, .int .u8 0, .int .u8 0, .int .u8 0] ∧ Blk wk w1.heap.size 59 [.int .i64 (sums (1, 0) ((ls.take k).flatten ++ l.take j)).1, .int .i64 (sums (1, 0) ((ls.take k).flatten ++ l.take j)).2])
      (fun j => l.length - j) 0 ⟨rfl, rfl, rfl, rfl, rfl, rfl, rfl, rfl, trivial⟩ ⟨by omega, hw, b1, by simpa using b2⟩ ?_
    clear b1 b2 e
    clear hw wk
    rintro j wk f' ⟨hj, hw, b1, b2⟩
    repeat'
      first
        | refine Q_then ?_ | refine C_cond_t rfl ?_ | refine C_cond_f rfl ?_ | refine C_seq ?_ | refine C_block ?_ | refine C_skip ?_ | refine C_ret ?_ | refine C_exit ?_
        | refine Q_then_ret ?_ | refine Q_then_exit ?_ | refine Q_block ?_ | refine Q_block_ret ?_ | refine Q_block_here ?_ | refine Q_block_on rfl ?_ | refine C_scope ?_ | refine C_label ?_ | refine Q_asn ?_
    (refine C_region ?_
     <;> (refine W_lss rfl rfl (fun hc => ?_) (fun hc => ?_) <;> try (exfalso; omega))
     <;> refine W_nil ?_)
    · repeat'
        first
          | refine Q_then ?_ | refine C_cond_t rfl ?_ | refine C_cond_f rfl ?_ | refine C_seq ?_ | refine C_block ?_ | refine C_skip ?_ | refine C_ret ?_ | refine C_exit ?_
          | refine Q_then_ret ?_ | refine Q_then_exit ?_ | refine Q_block ?_ | refine Q_block_ret ?_ | refine Q_block_here ?_ | refine Q_block_on rfl ?_ | refine C_scope ?_ | refine C_label ?_ | refine Q_asn ?_
      obtain ⟨b', o', rfl, _, g'⟩ := hx'.resolve_left (by omega)
      have e := hw.cell (g' j _ (cells8_get (by omega))) (by simp)
      have hs := sums_snoc (1, 0) ((ls.take k).flatten ++ l.take j) (l.getD j 0)
      rw [List.append_assoc, ← take_succ_getD (by omega)] at hs
      obtain ⟨lt1, lt2⟩ := sums_lt ((ls.take k).flatten ++ l.take j) (1, 0) (by omega) (by omega)
      have hb := (l.getD j 0).toNat_lt
      generalize l.getD j 0 = x at *
      generalize sums (1, 0) ((ls.take k).flatten ++ l.take j) = s at *
      obtain ⟨p, q⟩ := s
      simp only at lt1 lt2 b2
      unfold enc8 at e
      (refine C_region ?_
       <;> (first | refine W_idx1 rfl rfl rfl (by omega) ?_ | refine W_idx rfl rfl rfl (by omega) ?_ | refine W_indexAddr rfl rfl (by omega) (by omega) ?_)
       <;> (first | refine W_load rfl (Blk.cell (by assumption) (by rfl)) ?_ | refine W_load rfl (by assumption) ?_)
       <;> (refine M_assign ?_; (first | refine M_int rfl ?_ | refine W_move ?_))
       <;> refine W_nil ?_)
      repeat'
        first
          | refine Q_then ?_ | refine C_cond_t rfl ?_ | refine C_cond_f rfl ?_ | refine C_seq ?_ | refine C_block ?_ | refine C_skip ?_ | refine C_ret ?_ | refine C_exit ?_
          | refine Q_then_ret ?_ | refine Q_then_exit ?_ | refine Q_block ?_ | refine Q_block_ret ?_ | refine Q_block_here ?_ | refine Q_block_on rfl ?_ | refine C_scope ?_ | refine C_label ?_ | refine Q_asn ?_
      (refine C_region ?_
       <;> refine W_indexArr rfl rfl (by omega) (by omega) ?_
       <;> (first | refine W_load rfl (Blk.cell (by assumption) (by rfl)) ?_ | refine W_load rfl (by assumption) ?_)
       <;> (first | refine M_int rfl ?_ | refine W_move ?_)
       <;> refine W_conv rfl (by first | exact inR_i64 (by omega) (by omega) | exact inR_u8 (by omega) (by omega) | exact inR_u16 (by omega) (by omega)) ?_
       <;> refine W_add rfl rfl (by first | exact inR_i64 (by omega) (by omega) | exact inR_u8 (by omega) (by omega) | exact inR_u16 (by omega) (by omega)) ?_
       <;> refine W_rem rfl rfl (by omega) (by omega) ?_
       <;> refine W_indexArr rfl rfl (by omega) (by omega) ?_)
      -- at operation 7: <dst=none op=(store 3 (tmp 28) (tmp 27)) type=0 guard=none>
      refine W_store rfl rfl rfl b2 (by simp) (fun w4 p4 => ?_)
      obtain ⟨k4, s4, b4⟩ := p4
      replace b1 := b1.keep k4 (by simp; omega)
      replace b4 : Blk w4 w1.heap.size 59 [.int .i64 (((p : Int) + (x.toNat : Int)) % 65521), .int .i64 q] := b4
      refine W_nil ?_
      repeat'
        first
          | refine Q_then ?_ | refine C_cond_t rfl ?_ | refine C_cond_f rfl ?_ | refine C_seq ?_ | refine C_block ?_ | refine C_skip ?_ | refine C_ret ?_ | refine C_exit ?_
          | refine Q_then_ret ?_ | refine Q_then_exit ?_ | refine Q_block ?_ | refine Q_block_ret ?_ | refine Q_block_here ?_ | refine Q_block_on rfl ?_ | refine C_scope ?_ | refine C_label ?_ | refine Q_asn ?_
      (refine C_region ?_
       <;> refine W_indexArr rfl rfl (by omega) (by omega) ?_
       <;> (first | refine W_load rfl (Blk.cell (by assumption) (by rfl)) ?_ | refine W_load rfl (by assumption) ?_)
       <;> refine W_indexArr rfl rfl (by omega) (by omega) ?_
       <;> (first | refine W_load rfl (Blk.cell (by assumption) (by rfl)) ?_ | refine W_load rfl (by assumption) ?_)
       <;> refine W_add rfl rfl (by first | exact inR_i64 (by omega) (by omega) | exact inR_u8 (by omega) (by omega) | exact inR_u16 (by omega) (by omega)) ?_
       <;> refine W_rem rfl rfl (by omega) (by omega) ?_
       <;> refine W_indexArr rfl rfl (by omega) (by omega) ?_)
      -- at operation 7: <dst=none op=(store 3 (tmp 35) (tmp 34)) type=0 guard=none>
      refine W_store rfl rfl rfl b4 (by simp) (fun w5 p5 => ?_)
      obtain ⟨k5, s5, b5⟩ := p5
      replace b1 := b1.keep k5 (by simp; omega)
      replace b5 : Blk w5 w1.heap.size 59 [.int .i64 (((p : Int) + (x.toNat : Int)) % 65521), .int .i64 (((q : Int) + ((p : Int) + (x.toNat : Int)) % 65521) % 65521)] := b5
      refine W_nil ?_
      repeat'
        first
          | refine Q_then ?_ | refine C_cond_t rfl ?_ | refine C_cond_f rfl ?_ | refine C_seq ?_ | refine C_block ?_ | refine C_skip ?_ | refine C_ret ?_ | refine C_exit ?_
          | refine Q_then_ret ?_ | refine Q_then_exit ?_ | refine Q_block ?_ | refine Q_block_ret ?_ | refine Q_block_here ?_ | refine Q_block_on rfl ?_ | refine C_scope ?_ | refine C_label ?_ | refine Q_asn ?_
      (refine C_region ?_
       <;> refine W_add rfl rfl (by first | exact inR_i64 (by omega) (by omega) | exact inR_u8 (by omega) (by omega) | exact inR_u16 (by omega) (by omega)) ?_
       <;> (first | refine M_int rfl ?_ | refine W_move ?_)
       <;> refine W_nil ?_)
      repeat'
        first
          | refine Q_then ?_ | refine C_cond_t rfl ?_ | refine C_cond_f rfl ?_ | refine C_seq ?_ | refine C_block ?_ | refine C_skip ?_ | refine C_ret ?_ | refine C_exit ?_
          | refine Q_then_ret ?_ | refine Q_then_exit ?_ | refine Q_block ?_ | refine Q_block_ret ?_ | refine Q_block_here ?_ | refine Q_block_on rfl ?_ | refine C_scope ?_ | refine C_label ?_ | refine Q_asn ?_
      refine ⟨j + 1, ⟨rfl, ⟨rfl, rfl, rfl, rfl, rfl, rfl, rfl, rfl, trivial⟩, ⟨by omega, (hw.keep k4 (by intro x hx; simp at hx; have := k1.size; omega)).keep k5 (by intro x hx; simp at hx; have := k1.size; omega), b1, ?_⟩⟩, by omega⟩
      rw [hs]
      simpa [stp] using b5
    · repeat'
        first
          | refine Q_then ?_ | refine C_cond_t rfl ?_ | refine C_cond_f rfl ?_ | refine C_seq ?_ | refine C_block ?_ | refine C_skip ?_ | refine C_ret ?_ | refine C_exit ?_
          | refine Q_then_ret ?_ | refine Q_then_exit ?_ | refine Q_block ?_ | refine Q_block_ret ?_ | refine Q_block_here ?_ | refine Q_block_on rfl ?_ | refine C_scope ?_ | refine C_label ?_ | refine Q_asn ?_
      (refine C_region ?_
       <;> refine W_add rfl rfl (by first | exact inR_i64 (by omega) (by omega) | exact inR_u8 (by omega) (by omega) | exact inR_u16 (by omega) (by omega)) ?_
       <;> (first | refine M_int rfl ?_ | refine W_move ?_)
       <;> refine W_nil ?_)
      repeat'
        first
          | refine Q_then ?_ | refine C_cond_t rfl ?_ | refine C_cond_f rfl ?_ | refine C_seq ?_ | refine C_block ?_ | refine C_skip ?_ | refine C_ret ?_ | refine C_exit ?_
          | refine Q_then_ret ?_ | refine Q_then_exit ?_ | refine Q_block ?_ | refine Q_block_ret ?_ | refine Q_block_here ?_ | refine Q_block_on rfl ?_ | refine C_scope ?_ | refine C_label ?_ | refine Q_asn ?_
      have hjl : j = l.length := by omega
      subst hjl
      rw [List.take_length, ← hf] at b2
      exact ⟨k + 1, ⟨rfl, ⟨rfl, rfl, rfl, rfl, rfl, trivial⟩, ⟨by omega, hw, b1, b2⟩⟩, by omega⟩
  · have hkl : k = ls.length := by omega
    subst hkl
    rw [List.take_length] at b2
    obtain ⟨lt1, lt2⟩ := sums_lt ls.flatten (1, 0) (by omega) (by omega)
    have hchk : chk ls.flatten = two (sums (1, 0) ls.flatten).2 ++ two (sums (1, 0) ls.flatten).1 := rfl
    rw [hchk]
    generalize sums (1, 0) ls.flatten = s at *
    obtain ⟨p, q⟩ := s
    simp only at lt1 lt2 b2
    have hlt1 := b1.lt
    have hlt2 := b2.lt
    repeat'
      first
        | refine Q_then ?_ | refine C_cond_t rfl ?_ | refine C_cond_f rfl ?_ | refine C_seq ?_ | refine C_block ?_ | refine C_skip ?_ | refine C_ret ?_ | refine C_exit ?_
        | refine Q_then_ret ?_ | refine Q_then_exit ?_ | refine Q_block ?_ | refine Q_block_ret ?_ | refine Q_block_here ?_ | refine Q_block_on rfl ?_ | refine C_scope ?_ | refine C_label ?_ | refine Q_asn ?_
    refine C_region ?_
    refine W_alloc (fun w4 n4 => ?_)
    obtain ⟨k4, s4, b4⟩ := n4
    replace b1 := b1.keep k4 (by simp)
    replace b2 := b2.keep k4 (by simp)
    have e4 : Ext w w4 := hw.trans k4
    have hsz := hw.size
    generalize hB : wk.heap.size = B at *
    clear hB
    refine W_nil ?_
    repeat'
      first
        | refine Q_then ?_ | refine C_cond_t rfl ?_ | refine C_cond_f rfl ?_ | refine C_seq ?_ | refine C_block ?_ | refine C_skip ?_ | refine C_ret ?_ | refine C_exit ?_
        | refine Q_then_ret ?_ | refine Q_then_exit ?_ | refine Q_block ?_ | refine Q_block_ret ?_ | refine Q_block_here ?_ | refine Q_block_on rfl ?_ | refine C_scope ?_ | refine C_label ?_ | refine Q_asn ?_
    (refine C_region ?_
     <;> refine W_indexArr rfl rfl (by omega) (by omega) ?_
     <;> (first | refine W_load rfl (Blk.cell (by assumption) (by rfl)) ?_ | refine W_load rfl (by assumption) ?_))
    -- at operation 2: <dst=(some 41) op=(call <callee=(value (func 26)) args=[(tmp 40)] argTypes=[3]>) type=50 guard=none>
    refine W_call (halves_any q _ (by omega)) rfl ?_
    rintro u1 w5 ⟨rfl, rfl⟩
    ((first | refine M_tuple rfl ?_ | refine W_move ?_)
     <;> refine W_extract rfl rfl ?_
     <;> refine W_extract rfl rfl ?_
     <;> refine W_indexArr rfl rfl (by omega) (by omega) ?_)
    -- at operation 7: <dst=none op=(store 5 (tmp 44) (tmp 42)) type=0 guard=none>
    refine W_store (v := enc8 (b8 (q / 256))) rfl rfl rfl b4 (by simp) (fun w6 p6 => ?_)
    obtain ⟨k6, s6, b6⟩ := p6
    replace b1 := b1.keep k6 (by simp; omega)
    replace b2 := b2.keep k6 (by simp; omega)
    replace e4 := e4.keep k6 (by intro x hx; simp at hx; omega)
    replace b6 : Blk w6 B 52 [enc8 (b8 (q / 256)), .int .u8 0, .int .u8 0, .int .u8 0] := b6
    (refine W_indexArr rfl rfl (by omega) (by omega) ?_)
    -- at operation 9: <dst=none op=(store 5 (tmp 45) (tmp 43)) type=0 guard=none>
    refine W_store (v := enc8 (b8 (q % 256))) rfl rfl rfl b6 (by simp) (fun w7 p7 => ?_)
    obtain ⟨k7, s7, b7⟩ := p7
    replace b1 := b1.keep k7 (by simp; omega)
    replace b2 := b2.keep k7 (by simp; omega)
    replace e4 := e4.keep k7 (by intro x hx; simp at hx; omega)
    replace b7 : Blk w7 B 52 [enc8 (b8 (q / 256)), enc8 (b8 (q % 256)), .int .u8 0, .int .u8 0] := b7
    refine W_nil ?_
    repeat'
      first
        | refine Q_then ?_ | refine C_cond_t rfl ?_ | refine C_cond_f rfl ?_ | refine C_seq ?_ | refine C_block ?_ | refine C_skip ?_ | refine C_ret ?_ | refine C_exit ?_
        | refine Q_then_ret ?_ | refine Q_then_exit ?_ | refine Q_block ?_ | refine Q_block_ret ?_ | refine Q_block_here ?_ | refine Q_block_on rfl ?_ | refine C_scope ?_ | refine C_label ?_ | refine Q_asn ?_
    (refine C_region ?_
     <;> refine W_indexArr rfl rfl (by omega) (by omega) ?_
     <;> (first | refine W_load rfl (Blk.cell (by assumption) (by rfl)) ?_ | refine W_load rfl (by assumption) ?_))
    -- at operation 2: <dst=(some 49) op=(call <callee=(value (func 26)) args=[(tmp 48)] argTypes=[3]>) type=50 guard=none>
    refine W_call (halves_any p _ (by omega)) rfl ?_
    rintro u2 w8 ⟨rfl, rfl⟩
    ((first | refine M_tuple rfl ?_ | refine W_move ?_)
     <;> refine W_extract rfl rfl ?_
     <;> refine W_extract rfl rfl ?_
     <;> refine W_indexArr rfl rfl (by omega) (by omega) ?_)
    -- at operation 7: <dst=none op=(store 5 (tmp 52) (tmp 50)) type=0 guard=none>
    refine W_store (v := enc8 (b8 (p / 256))) rfl rfl rfl b7 (by simp) (fun w9 p9 => ?_)
    obtain ⟨k9, s9, b9⟩ := p9
    replace b1 := b1.keep k9 (by simp; omega)
    replace e4 := e4.keep k9 (by intro x hx; simp at hx; omega)
    replace b9 : Blk w9 B 52 [enc8 (b8 (q / 256)), enc8 (b8 (q % 256)), enc8 (b8 (p / 256)), .int .u8 0] := b9
    (refine W_indexArr rfl rfl (by omega) (by omega) ?_)
    -- at operation 9: <dst=none op=(store 5 (tmp 53) (tmp 51)) type=0 guard=none>
    refine W_store (v := enc8 (b8 (p % 256))) rfl rfl rfl b9 (by simp) (fun w10 p10 => ?_)
    obtain ⟨k10, s10, b10⟩ := p10
    replace b1 := b1.keep k10 (by simp; omega)
    replace e4 := e4.keep k10 (by intro x hx; simp at hx; omega)
    replace b10 : Blk w10 B 52 (cells8 (two q ++ two p)) := b10
    refine W_nil ?_
    repeat'
      first
        | refine Q_then ?_ | refine C_cond_t rfl ?_ | refine C_cond_f rfl ?_ | refine C_seq ?_ | refine C_block ?_ | refine C_skip ?_ | refine C_ret ?_ | refine C_exit ?_
        | refine Q_then_ret ?_ | refine Q_then_exit ?_ | refine Q_block ?_ | refine Q_block_ret ?_ | refine Q_block_here ?_ | refine Q_block_on rfl ?_ | refine C_scope ?_ | refine C_label ?_ | refine Q_asn ?_
    refine C_region ?_
    refine W_load_agg (L := cells8 (two q ++ two p)) rfl rfl b10.cells ?_
    refine W_store_agg (cs := cells8 (two q ++ two p)) rfl rfl rfl (oneC_cells8 _) b1 (Nat.le_refl 4) (fun w11 p11 => ?_)
    obtain ⟨k11, s11, b11⟩ := p11
    replace e4 := e4.keep k11 (by intro x hx; simp at hx; omega)
    replace b11 : Blk w11 w.heap.size 52 (cells8 (two q ++ two p)) := b11
    refine W_nil ?_
    repeat'
      first
        | refine Q_then ?_ | refine C_cond_t rfl ?_ | refine C_cond_f rfl ?_ | refine C_seq ?_ | refine C_block ?_ | refine C_skip ?_ | refine C_ret ?_ | refine C_exit ?_
        | refine Q_then_ret ?_ | refine Q_then_exit ?_ | refine Q_block ?_ | refine Q_block_ret ?_ | refine Q_block_here ?_ | refine Q_block_on rfl ?_ | refine C_scope ?_ | refine C_label ?_ | refine Q_asn ?_
    exact fin_retA rfl rfl rfl b11.cells ⟨rfl, e4⟩

theorem Sum_any (v : Value) (l : List UInt8) (w : World) (h : BytesAt anyB w v l) :
    Fn Try.prog 32 [v] w fun v w' => w'.ownsRow w.heap.size 5 1 v 4 (cells8 (chk l)) ∧ Ext w w' := by
  obtain ⟨a, c, rfl, hl, hc, hm, hx⟩ := h
  refine fn_of_wc Try.func32 rfl Try.ntmps32 (Nat.le_of_ble_eq_true rfl) (by kernel_rfl) ?_
  repeat'
    first
      | refine Q_then ?_ | refine C_cond_t rfl ?_ | refine C_cond_f rfl ?_ | refine C_seq ?_ | refine C_block ?_ | refine C_skip ?_ | refine C_ret ?_ | refine C_exit ?_
      | refine Q_then_ret ?_ | refine Q_then_exit ?_ | refine Q_block ?_ | refine Q_block_ret ?_ | refine Q_block_here ?_ | refine Q_block_on rfl ?_ | refine C_scope ?_ | refine C_label ?_ | refine Q_asn ?_
  (refine C_region ?_
   <;> (refine M_assign ?_; (first | refine M_slice rfl ?_ | refine W_move ?_))
   <;> refine W_nil ?_)
  repeat'
    first
      | refine Q_then ?_ | refine C_cond_t rfl ?_ | refine C_cond_f rfl ?_ | refine C_seq ?_ | refine C_block ?_ | refine C_skip ?_ | refine C_ret ?_ | refine C_exit ?_
      | refine Q_then_ret ?_ | refine Q_then_exit ?_ | refine Q_block ?_ | refine Q_block_ret ?_ | refine Q_block_here ?_ | refine Q_block_on rfl ?_ | refine C_scope ?_ | refine C_label ?_ | refine Q_asn ?_
  (refine C_region ?_
   <;> (refine M_assign ?_; (first | refine M_int rfl ?_ | refine W_move ?_))
   <;> refine W_nil ?_)
  repeat'
    first
      | refine Q_then ?_ | refine C_cond_t rfl ?_ | refine C_cond_f rfl ?_ | refine C_seq ?_ | refine C_block ?_ | refine C_skip ?_ | refine C_ret ?_ | refine C_exit ?_
      | refine Q_then_ret ?_ | refine Q_then_exit ?_ | refine Q_block ?_ | refine Q_block_ret ?_ | refine Q_block_here ?_ | refine Q_block_on rfl ?_ | refine C_scope ?_ | refine C_label ?_ | refine Q_asn ?_
  (refine C_region ?_
   <;> (refine M_assign ?_; (first | refine M_int rfl ?_ | refine W_move ?_))
   <;> refine W_nil ?_)
  repeat'
    first
      | refine Q_then ?_ | refine C_cond_t rfl ?_ | refine C_cond_f rfl ?_ | refine C_seq ?_ | refine C_block ?_ | refine C_skip ?_ | refine C_ret ?_ | refine C_exit ?_
      | refine Q_then_ret ?_ | refine Q_then_exit ?_ | refine Q_block ?_ | refine Q_block_ret ?_ | refine Q_block_here ?_ | refine Q_block_on rfl ?_ | refine C_scope ?_ | refine C_label ?_ | refine Q_asn ?_
  (refine C_region ?_
   <;> (refine M_assign ?_; (first | refine M_int rfl ?_ | refine W_move ?_))
   <;> refine W_nil ?_)
  repeat'
    first
      | refine Q_then ?_ | refine C_cond_t rfl ?_ | refine C_cond_f rfl ?_ | refine C_seq ?_ | refine C_block ?_ | refine C_skip ?_ | refine C_ret ?_ | refine C_exit ?_
      | refine Q_then_ret ?_ | refine Q_then_exit ?_ | refine Q_block ?_ | refine Q_block_ret ?_ | refine Q_block_here ?_ | refine Q_block_on rfl ?_ | refine C_scope ?_ | refine C_label ?_ | refine Q_asn ?_
  refine C_loop (α := Nat) (fun k => [(0, .slice a l.length c), (5, .int .i64 k), (3, .int .i64 (sums (1, 0) (l.take k)).1), (4, .int .i64 (sums (1, 0) (l.take k)).2)]) (fun k w1 => k ≤ l.length ∧ Ext w w1) (fun k => l.length - k) 0 ⟨rfl, rfl, rfl, rfl, trivial⟩ ⟨by omega, Ext.refl _⟩ ?_
  rintro k w1 f' ⟨hk, hw⟩
  obtain ⟨lt1, lt2⟩ := sums_lt (l.take k) (1, 0) (by omega) (by omega)
  repeat'
    first
      | refine Q_then ?_ | refine C_cond_t rfl ?_ | refine C_cond_f rfl ?_ | refine C_seq ?_ | refine C_block ?_ | refine C_skip ?_ | refine C_ret ?_ | refine C_exit ?_
      | refine Q_then_ret ?_ | refine Q_then_exit ?_ | refine Q_block ?_ | refine Q_block_ret ?_ | refine Q_block_here ?_ | refine Q_block_on rfl ?_ | refine C_scope ?_ | refine C_label ?_ | refine Q_asn ?_
  (refine C_region ?_
   <;> (first | refine M_int rfl ?_ | refine W_move ?_)
   <;> (first | refine M_slice rfl ?_ | refine W_move ?_)
   <;> refine W_len rfl ?_
   <;> (refine W_lss rfl rfl (fun hc => ?_) (fun hc => ?_) <;> try (exfalso; omega))
   <;> refine W_nil ?_)
  · repeat'
      first
        | refine Q_then ?_ | refine C_cond_t rfl ?_ | refine C_cond_f rfl ?_ | refine C_seq ?_ | refine C_block ?_ | refine C_skip ?_ | refine C_ret ?_ | refine C_exit ?_
        | refine Q_then_ret ?_ | refine Q_then_exit ?_ | refine Q_block ?_ | refine Q_block_ret ?_ | refine Q_block_here ?_ | refine Q_block_on rfl ?_ | refine C_scope ?_ | refine C_label ?_ | refine Q_asn ?_
    obtain ⟨b, o, rfl, _, g⟩ := hx.resolve_left (by omega)
    have e := hw.cell (g k _ (cells8_get (by omega))) (by simp)
    have hs := sums_snoc (1, 0) (l.take k) (l.getD k 0)
    rw [← take_succ_getD (by omega)] at hs
    have hb := (l.getD k 0).toNat_lt
    generalize l.getD k 0 = x at *
    generalize sums (1, 0) (l.take k) = s at *
    obtain ⟨p, q⟩ := s
    simp only at lt1 lt2
    unfold enc8 at e
    (refine C_region ?_
     <;> (first | refine M_int rfl ?_ | refine W_move ?_)
     <;> (first | refine M_slice rfl ?_ | refine W_move ?_)
     <;> (first | refine M_int rfl ?_ | refine W_move ?_)
     <;> (first | refine W_idx1 rfl rfl rfl (by omega) ?_ | refine W_idx rfl rfl rfl (by omega) ?_ | refine W_indexAddr rfl rfl (by omega) (by omega) ?_)
     <;> (first | refine W_load rfl (Blk.cell (by assumption) (by rfl)) ?_ | refine W_load rfl (by assumption) ?_)
     <;> refine W_conv rfl (by first | exact inR_i64 (by omega) (by omega) | exact inR_u8 (by omega) (by omega) | exact inR_u16 (by omega) (by omega)) ?_
     <;> refine W_add rfl rfl (by first | exact inR_i64 (by omega) (by omega) | exact inR_u8 (by omega) (by omega) | exact inR_u16 (by omega) (by omega)) ?_
     <;> refine W_rem rfl rfl (by omega) (by omega) ?_
     <;> (refine M_assign ?_; (first | refine M_int rfl ?_ | refine W_move ?_))
     <;> refine W_nil ?_)
    repeat'
      first
        | refine Q_then ?_ | refine C_cond_t rfl ?_ | refine C_cond_f rfl ?_ | refine C_seq ?_ | refine C_block ?_ | refine C_skip ?_ | refine C_ret ?_ | refine C_exit ?_
        | refine Q_then_ret ?_ | refine Q_then_exit ?_ | refine Q_block ?_ | refine Q_block_ret ?_ | refine Q_block_here ?_ | refine Q_block_on rfl ?_ | refine C_scope ?_ | refine C_label ?_ | refine Q_asn ?_
    (refine C_region ?_
     <;> (first | refine M_int rfl ?_ | refine W_move ?_)
     <;> (first | refine M_int rfl ?_ | refine W_move ?_)
     <;> refine W_add rfl rfl (by first | exact inR_i64 (by omega) (by omega) | exact inR_u8 (by omega) (by omega) | exact inR_u16 (by omega) (by omega)) ?_
     <;> refine W_rem rfl rfl (by omega) (by omega) ?_
     <;> (refine M_assign ?_; (first | refine M_int rfl ?_ | refine W_move ?_))
     <;> refine W_nil ?_)
    repeat'
      first
        | refine Q_then ?_ | refine C_cond_t rfl ?_ | refine C_cond_f rfl ?_ | refine C_seq ?_ | refine C_block ?_ | refine C_skip ?_ | refine C_ret ?_ | refine C_exit ?_
        | refine Q_then_ret ?_ | refine Q_then_exit ?_ | refine Q_block ?_ | refine Q_block_ret ?_ | refine Q_block_here ?_ | refine Q_block_on rfl ?_ | refine C_scope ?_ | refine C_label ?_ | refine Q_asn ?_
    (refine C_region ?_
     <;> (first | refine M_int rfl ?_ | refine W_move ?_)
     <;> refine W_add rfl rfl (by first | exact inR_i64 (by omega) (by omega) | exact inR_u8 (by omega) (by omega) | exact inR_u16 (by omega) (by omega)) ?_
     <;> (refine M_assign ?_; (first | refine M_int rfl ?_ | refine W_move ?_))
     <;> refine W_nil ?_)
    repeat'
      first
        | refine Q_then ?_ | refine C_cond_t rfl ?_ | refine C_cond_f rfl ?_ | refine C_seq ?_ | refine C_block ?_ | refine C_skip ?_ | refine C_ret ?_ | refine C_exit ?_
        | refine Q_then_ret ?_ | refine Q_then_exit ?_ | refine Q_block ?_ | refine Q_block_ret ?_ | refine Q_block_here ?_ | refine Q_block_on rfl ?_ | refine C_scope ?_ | refine C_label ?_ | refine Q_asn ?_
    refine ⟨k + 1, ⟨rfl, ⟨rfl, rfl, ?_, ?_, trivial⟩, ⟨by omega, hw⟩⟩, by omega⟩
    · rw [hs]; simp [stp]; rfl
    · rw [hs]; simp [stp]; rfl
  · have hkl : k = l.length := by omega
    subst hkl
    rw [List.take_length] at *
    repeat'
      first
        | refine Q_then ?_ | refine C_cond_t rfl ?_ | refine C_cond_f rfl ?_ | refine C_seq ?_ | refine C_block ?_ | refine C_skip ?_ | refine C_ret ?_ | refine C_exit ?_
        | refine Q_then_ret ?_ | refine Q_then_exit ?_ | refine Q_block ?_ | refine Q_block_ret ?_ | refine Q_block_here ?_ | refine Q_block_on rfl ?_ | refine C_scope ?_ | refine C_label ?_ | refine Q_asn ?_
    generalize hs : sums (1, 0) l = s at *
    obtain ⟨p, q⟩ := s
    simp only at lt1 lt2
    (refine C_region ?_
     <;> (first | refine M_int rfl ?_ | refine W_move ?_))
    -- at operation 1: <dst=(some 25) op=(call <callee=(value (func 30)) args=[(tmp 24)] argTypes=[3]>) type=24 guard=none>
    refine W_call (two_any q _ (by omega)) rfl ?_
    rintro u1 w2 ⟨o1, k2⟩
    ((first | refine M_int rfl ?_ | refine W_move ?_))
    refine W_call (two_any p _ (by omega)) rfl ?_
    rintro u2 w3 ⟨o2, k3⟩
    refine W_append (B := w.heap.size) (v := u1) (sv := u2) rfl rfl (ownsRow_mono (ownsRow_ext o1 k3) hw.size) (Sl_of_own (ok := anyB) o2 (fun _ _ => trivial)) (by omega) rfl rfl (oneC_cells8 _) (by omega) (by omega) (by have := hw.size; have := k2.size; have := k3.size; omega) ?_
    intro u3 w4 h4
    ((refine M_assign ?_; (first | refine M_slice rfl ?_ | refine W_move ?_))
     <;> refine W_nil ?_)
    repeat'
      first
        | refine Q_then ?_ | refine C_cond_t rfl ?_ | refine C_cond_f rfl ?_ | refine C_seq ?_ | refine C_block ?_ | refine C_skip ?_ | refine C_ret ?_ | refine C_exit ?_
        | refine Q_then_ret ?_ | refine Q_then_exit ?_ | refine Q_block ?_ | refine Q_block_ret ?_ | refine Q_block_here ?_ | refine Q_block_on rfl ?_ | refine C_scope ?_ | refine C_label ?_ | refine Q_asn ?_
    refine fin_ret1 rfl ⟨?_, ?_⟩
    · simp only [chk, hs, cells8_append]
      exact h4.own
    · exact ((hw.trans k2).trans k3).keep h4.keep (by intro x hx; have := (o1.lt x (by simpa using hx)).1; have := hw.size; omega)
end Go.Proofs.Ytfbahfibgmdlnaa
