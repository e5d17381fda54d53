/- JournalDamage: a journal with one byte of a frame changed ends before that frame. Conditions: none. -/
import Derived.Test.YtfbahfibgmdlnaaL4
namespace Go.Proofs.Ytfbahfibgmdlnaa
open Go.RowKit
set_option linter.unusedVariables false

theorem own_blk {w : World} {B e n : Nat} {a : Option Addr} {cap : Nat} {xs : List Value} (h : w.ownsRow B e 1 (.slice a n cap) n xs) (hn : 0 < n) :
    ∃ g L, a = some ⟨g, 0, none⟩ ∧ B ≤ g ∧ Blk w g e L ∧ n ≤ L.length ∧ ∀ w' i u, Put w w' g e (L.set i u) → w'.ownsRow B e 1 (.slice a n cap) n (xs.set i u) := by
  obtain ⟨hl, hv⟩ := h
  rcases hv with ⟨_, rfl⟩ | ⟨g, cap', cur, hv, hB, hg, h1, h2, h3, h4⟩
  · omega
  · cases hv
    refine ⟨g, cur.toList, rfl, hB, by simpa [Blk] using hg, by simp; omega, fun w' i u hp => ⟨by simpa using hl, .inr ⟨g, cap, (cur.toList.set i u).toArray, rfl, hB, hp.blk, h1, h2, by simp; omega, ?_⟩⟩⟩
    show ((cur.toList.set i u).toArray.toList.take (n * 1)) = _
    rw [← h4, List.take_set]
theorem cells8_set (l : List UInt8) (i : Nat) (c : UInt8) : (cells8 l).set i (enc8 c) = cells8 (l.set i c) := by simp [cells8, List.map_set]

theorem cat_split {rs : List (List UInt8)} {k : Nat} (hk : k < rs.length) : cat rs = cat (rs.take k) ++ (frm rs[k] ++ cat (rs.drop (k + 1))) := by
  rw [← cat_cons, ← cat_append, List.getElem_cons_drop, List.take_append_drop]
theorem cat_damaged {rs : List (List UInt8)} (h : ∀ r ∈ rs, okR r) (h500 : rs.length ≤ 500) {k p : Nat} (hk : k < rs.length) (hp : p < 4 + rs[k].length) {c : UInt8} (hc : (cat rs).getD ((cat (rs.take k)).length + 2 + p) 0 ≠ c) :
    recs 500 ((cat rs).set ((cat (rs.take k)).length + 2 + p) c) = (rs.take k, (cat (rs.take k)).length) := by
  have hfl := frm_length rs[k]
  have e : (cat rs).set ((cat (rs.take k)).length + 2 + p) c = cat (rs.take k) ++ ((frm rs[k]).set (2 + p) c ++ cat (rs.drop (k + 1))) := by
    rw [cat_split hk, Nat.add_assoc, List.set_append_right _ _ (by omega), Nat.add_sub_cancel_left, List.set_append_left _ _ (by omega)]
  have hc' : (frm rs[k])[2 + p]? ≠ some c := by
    intro h'
    apply hc
    rw [cat_split hk, List.getD_eq_getElem?_getD, Nat.add_assoc, List.getElem?_append_right (by omega), Nat.add_sub_cancel_left, List.getElem?_append_left (by omega), h']
    rfl
  rw [e, recs_of_cat _ 500 _ (fun r hr => h r (List.mem_of_mem_take hr)) (by simp; omega), recs_none (first_damaged (h _ (List.getElem_mem hk)) hp hc')]
  simp

theorem emod_nat {a b : Int} (hb : 0 < b) : ∃ k : Nat, a % b = k ∧ (k : Int) < b := by
  have b1 := Int.emod_nonneg a (show b ≠ 0 by omega)
  have b2 := Int.emod_lt_of_pos a hb
  exact ⟨(a % b).toNat, by omega, by omega⟩

theorem Damage_law (v : Value) (ls : List (List UInt8)) (wh at' : Int) (c : UInt8) (w : World) (h : LB anyB w v ls) (hw0 : 0 ≤ wh) (hw1 : wh ≤ 255) (ha0 : 0 ≤ at') (ha1 : at' ≤ 65535) :
    Fn Try.prog 8 [v, .int .u8 wh, .int .u16 at', enc8 c] w fun v w' => v = .bool true ∧ Ext w w' := by
  obtain ⟨a, cp, rfl, _⟩ := h.form
  refine fn_of_wc Try.func8 rfl Try.ntmps8 (Nat.le_of_ble_eq_true rfl) (by kernel_rfl) ?_
  repeat'
    first
      | refine Q_then ?_ | refine C_cond_t rfl ?_ | refine C_cond_f rfl ?_ | refine C_seq ?_ | refine C_block ?_ | refine C_skip ?_ | refine C_ret ?_ | refine C_exit ?_
      | refine Q_then_ret ?_ | refine Q_then_exit ?_ | refine Q_block ?_ | refine Q_block_ret ?_ | refine Q_block_here ?_ | refine Q_block_on rfl ?_ | refine C_scope ?_ | refine C_label ?_ | refine Q_asn ?_
  (refine C_region ?_
   <;> (refine M_assign ?_; (first | refine M_bool rfl ?_ | refine W_move ?_))
   <;> refine W_nil ?_)
  repeat'
    first
      | refine Q_then ?_ | refine C_cond_t rfl ?_ | refine C_cond_f rfl ?_ | refine C_seq ?_ | refine C_block ?_ | refine C_skip ?_ | refine C_ret ?_ | refine C_exit ?_
      | refine Q_then_ret ?_ | refine Q_then_exit ?_ | refine Q_block ?_ | refine Q_block_ret ?_ | refine Q_block_here ?_ | refine Q_block_on rfl ?_ | refine C_scope ?_ | refine C_label ?_ | refine Q_asn ?_
  (refine C_region ?_)
  -- at operation 0: <dst=(some 20) op=(call <callee=(value (func 10)) args=[] argTypes=[]>) type=4 guard=none>
  refine W_call (head_any _) rfl ?_
  rintro _ w1 ⟨rfl, k1⟩
  replace h := h.keep k1 (by simp)
  ((refine M_assign ?_; (first | refine M_bool rfl ?_ | refine W_move ?_))
   <;> refine W_nil ?_)
  repeat'
    first
      | refine Q_then ?_ | refine C_cond_t rfl ?_ | refine C_cond_f rfl ?_ | refine C_seq ?_ | refine C_block ?_ | refine C_skip ?_ | refine C_ret ?_ | refine C_exit ?_
      | refine Q_then_ret ?_ | refine Q_then_exit ?_ | refine Q_block ?_ | refine Q_block_ret ?_ | refine Q_block_here ?_ | refine Q_block_on rfl ?_ | refine C_scope ?_ | refine C_label ?_ | refine Q_asn ?_
  (refine C_region ?_
   <;> (first | refine M_slice rfl ?_ | refine W_move ?_))
  -- at operation 1: <dst=(some 22) op=(call <callee=(value (func 22)) args=[(tmp 21)] argTypes=[31]>) type=4 guard=none>
  refine W_call (short_any _ ls _ h) rfl ?_
  rintro _ w2 ⟨rfl, k2⟩
  replace h := h.keep k2 (by simp)
  replace k1 := k1.trans k2
  clear k2
  cases hsh : short ls with
  | false =>
    (refine W_not rfl ?_
     <;> refine W_nil ?_)
    repeat'
      first
        | refine Q_then ?_ | refine C_cond_t rfl ?_ | refine C_cond_f rfl ?_ | refine C_seq ?_ | refine C_block ?_ | refine C_skip ?_ | refine C_ret ?_ | refine C_exit ?_
        | refine Q_then_ret ?_ | refine Q_then_exit ?_ | refine Q_block ?_ | refine Q_block_ret ?_ | refine Q_block_here ?_ | refine Q_block_on rfl ?_ | refine C_scope ?_ | refine C_label ?_ | refine Q_asn ?_
    (refine C_region ?_
     <;> (first | refine M_bool rfl ?_ | refine W_move ?_)
     <;> (refine M_assign ?_; (first | refine M_bool rfl ?_ | refine W_move ?_))
     <;> refine W_nil ?_)
    repeat'
      first
        | refine Q_then ?_ | refine C_cond_t rfl ?_ | refine C_cond_f rfl ?_ | refine C_seq ?_ | refine C_block ?_ | refine C_skip ?_ | refine C_ret ?_ | refine C_exit ?_
        | refine Q_then_ret ?_ | refine Q_then_exit ?_ | refine Q_block ?_ | refine Q_block_ret ?_ | refine Q_block_here ?_ | refine Q_block_on rfl ?_ | refine C_scope ?_ | refine C_label ?_ | refine Q_asn ?_
    exact fin_ret1 rfl ⟨rfl, k1⟩
  | true =>
  obtain ⟨rs, hw, hr15, hrs, hlen, hrec⟩ := short_cat hsh
  (refine W_not rfl ?_
   <;> refine W_nil ?_)
  repeat'
    first
      | refine Q_then ?_ | refine C_cond_t rfl ?_ | refine C_cond_f rfl ?_ | refine C_seq ?_ | refine C_block ?_ | refine C_skip ?_ | refine C_ret ?_ | refine C_exit ?_
      | refine Q_then_ret ?_ | refine Q_then_exit ?_ | refine Q_block ?_ | refine Q_block_ret ?_ | refine Q_block_here ?_ | refine Q_block_on rfl ?_ | refine C_scope ?_ | refine C_label ?_ | refine Q_asn ?_
  (refine C_region ?_
   <;> (first | refine M_slice rfl ?_ | refine W_move ?_))
  -- at operation 1: <dst=(some 26) op=(call <callee=(value (func 23)) args=[(tmp 25)] argTypes=[31]>) type=24 guard=none>
  refine W_call (whole_any _ ls _ h (short_iff hsh).1) rfl ?_
  rintro jv w3 ⟨oj, k3⟩
  rw [hw] at oj
  obtain ⟨ja, jc, rfl⟩ := own_form oj
  replace k1 := k1.trans k3
  clear k3 h
  ((refine M_assign ?_; (first | refine M_slice rfl ?_ | refine W_move ?_))
   <;> refine W_nil ?_)
  repeat'
    first
      | refine Q_then ?_ | refine C_cond_t rfl ?_ | refine C_cond_f rfl ?_ | refine C_seq ?_ | refine C_block ?_ | refine C_skip ?_ | refine C_ret ?_ | refine C_exit ?_
      | refine Q_then_ret ?_ | refine Q_then_exit ?_ | refine Q_block ?_ | refine Q_block_ret ?_ | refine Q_block_here ?_ | refine Q_block_on rfl ?_ | refine C_scope ?_ | refine C_label ?_ | refine Q_asn ?_
  (refine C_region ?_
   <;> (first | refine M_slice rfl ?_ | refine W_move ?_))
  -- at operation 1: <dst=(some 29) op=(call <callee=(value (func 15)) args=[(tmp 28)] argTypes=[24]>) type=32 guard=none>
  refine W_call (Records_any _ (cat rs) _ (own_bytes oj rfl)) rfl ?_
  rintro _ w4 ⟨lv, rfl, hl, k4⟩
  rw [hrec] at hl
  dsimp only at hl
  simp only [hrec]
  replace hl := hl.LB
  obtain ⟨la, lc, rfl, hlc, hlc2⟩ := hl.form
  replace oj := ownsRow_ext oj k4
  replace k1 := k1.trans k4
  clear k4
  ((first | refine M_tuple rfl ?_ | refine W_move ?_)
   <;> refine W_extract rfl rfl ?_
   <;> refine W_extract rfl rfl ?_
   <;> (refine M_assign ?_; (first | refine M_slice rfl ?_ | refine W_move ?_))
   <;> (refine M_assign ?_; (first | refine M_int rfl ?_ | refine W_move ?_))
   <;> refine W_nil ?_)
  repeat'
    first
      | refine Q_then ?_ | refine C_cond_t rfl ?_ | refine C_cond_f rfl ?_ | refine C_seq ?_ | refine C_block ?_ | refine C_skip ?_ | refine C_ret ?_ | refine C_exit ?_
      | refine Q_then_ret ?_ | refine Q_then_exit ?_ | refine Q_block ?_ | refine Q_block_ret ?_ | refine Q_block_here ?_ | refine Q_block_on rfl ?_ | refine C_scope ?_ | refine C_label ?_ | refine Q_asn ?_
  (refine C_region ?_
   <;> (first | refine M_int rfl ?_ | refine W_move ?_)
   <;> (first | refine M_slice rfl ?_ | refine W_move ?_)
   <;> refine W_len rfl ?_
   <;> (refine W_neq rfl rfl (fun hc => ?_) (fun hc => ?_) <;> try (exfalso; omega))
   <;> refine W_nil ?_)
  repeat'
    first
      | refine Q_then ?_ | refine C_cond_t rfl ?_ | refine C_cond_f rfl ?_ | refine C_seq ?_ | refine C_block ?_ | refine C_skip ?_ | refine C_ret ?_ | refine C_exit ?_
      | refine Q_then_ret ?_ | refine Q_then_exit ?_ | refine Q_block ?_ | refine Q_block_ret ?_ | refine Q_block_here ?_ | refine Q_block_on rfl ?_ | refine C_scope ?_ | refine C_label ?_ | refine Q_asn ?_
  (refine C_region ?_
   <;> (first | refine M_slice rfl ?_ | refine W_move ?_)
   <;> refine W_len rfl ?_
   <;> (refine W_eql rfl rfl (fun hc => ?_) (fun hc => ?_) <;> try (exfalso; omega))
   <;> refine W_nil ?_)
  · repeat'
      first
        | refine Q_then ?_ | refine C_cond_t rfl ?_ | refine C_cond_f rfl ?_ | refine C_seq ?_ | refine C_block ?_ | refine C_skip ?_ | refine C_ret ?_ | refine C_exit ?_
        | refine Q_then_ret ?_ | refine Q_then_exit ?_ | refine Q_block ?_ | refine Q_block_ret ?_ | refine Q_block_here ?_ | refine Q_block_on rfl ?_ | refine C_scope ?_ | refine C_label ?_ | refine Q_asn ?_
    (refine C_region ?_
     <;> (first | refine M_bool rfl ?_ | refine W_move ?_)
     <;> (refine M_assign ?_; (first | refine M_bool rfl ?_ | refine W_move ?_))
     <;> refine W_nil ?_)
    repeat'
      first
        | refine Q_then ?_ | refine C_cond_t rfl ?_ | refine C_cond_f rfl ?_ | refine C_seq ?_ | refine C_block ?_ | refine C_skip ?_ | refine C_ret ?_ | refine C_exit ?_
        | refine Q_then_ret ?_ | refine Q_then_exit ?_ | refine Q_block ?_ | refine Q_block_ret ?_ | refine Q_block_here ?_ | refine Q_block_on rfl ?_ | refine C_scope ?_ | refine C_label ?_ | refine Q_asn ?_
    exact fin_ret1 rfl ⟨rfl, k1⟩
  repeat'
    first
      | refine Q_then ?_ | refine C_cond_t rfl ?_ | refine C_cond_f rfl ?_ | refine C_seq ?_ | refine C_block ?_ | refine C_skip ?_ | refine C_ret ?_ | refine C_exit ?_
      | refine Q_then_ret ?_ | refine Q_then_exit ?_ | refine Q_block ?_ | refine Q_block_ret ?_ | refine Q_block_here ?_ | refine Q_block_on rfl ?_ | refine C_scope ?_ | refine C_label ?_ | refine Q_asn ?_
  (refine C_region ?_
   <;> (first | refine M_int rfl ?_ | refine W_move ?_)
   <;> refine W_conv rfl (by first | exact inR_i64 (by omega) (by omega) | exact inR_u8 (by omega) (by omega) | exact inR_u16 (by omega) (by omega)) ?_
   <;> (first | refine M_slice rfl ?_ | refine W_move ?_)
   <;> refine W_len rfl ?_
   <;> refine W_rem rfl rfl (by omega) (by omega) ?_
   <;> (refine M_assign ?_; (first | refine M_int rfl ?_ | refine W_move ?_))
   <;> refine W_nil ?_)
  repeat'
    first
      | refine Q_then ?_ | refine C_cond_t rfl ?_ | refine C_cond_f rfl ?_ | refine C_seq ?_ | refine C_block ?_ | refine C_skip ?_ | refine C_ret ?_ | refine C_exit ?_
      | refine Q_then_ret ?_ | refine Q_then_exit ?_ | refine Q_block ?_ | refine Q_block_ret ?_ | refine Q_block_here ?_ | refine Q_block_on rfl ?_ | refine C_scope ?_ | refine C_label ?_ | refine Q_asn ?_
  obtain ⟨k, hk, hkl⟩ := emod_nat (a := wh) (b := rs.length) (by omega)
  rw [hk]
  replace hkl : k < rs.length := by omega
  (refine C_region ?_
   <;> (refine M_assign ?_; (first | refine M_int rfl ?_ | refine W_move ?_))
   <;> refine W_nil ?_)
  repeat'
    first
      | refine Q_then ?_ | refine C_cond_t rfl ?_ | refine C_cond_f rfl ?_ | refine C_seq ?_ | refine C_block ?_ | refine C_skip ?_ | refine C_ret ?_ | refine C_exit ?_
      | refine Q_then_ret ?_ | refine Q_then_exit ?_ | refine Q_block ?_ | refine Q_block_ret ?_ | refine Q_block_here ?_ | refine Q_block_on rfl ?_ | refine C_scope ?_ | refine C_label ?_ | refine Q_asn ?_
  (refine C_region ?_
   <;> (refine M_assign ?_; (first | refine M_int rfl ?_ | refine W_move ?_))
   <;> refine W_nil ?_)
  repeat'
    first
      | refine Q_then ?_ | refine C_cond_t rfl ?_ | refine C_cond_f rfl ?_ | refine C_seq ?_ | refine C_block ?_ | refine C_skip ?_ | refine C_ret ?_ | refine C_exit ?_
      | refine Q_then_ret ?_ | refine Q_then_exit ?_ | refine Q_block ?_ | refine Q_block_ret ?_ | refine Q_block_here ?_ | refine Q_block_on rfl ?_ | refine C_scope ?_ | refine C_label ?_ | refine Q_asn ?_
  have hpre : ∀ x, (cat (rs.take x)).length ≤ 3090 := by
    intro x
    have := congrArg (fun l => (cat l).length) (List.take_append_drop x rs)
    simp only [cat_append, List.length_append] at this
    omega
  have hnext : ∀ x (hx : x < rs.length), (cat (rs.take (x + 1))).length = (cat (rs.take x)).length + 6 + rs[x].length := by
    intro x hx
    rw [List.take_succ_eq_append_getElem hx, cat_append, cat_one, List.length_append, frm_length]; omega
  refine C_loop (α := Nat) (fun x => [(2, .int .u16 at'), (3, enc8 c), (9, .bool true), (10, .slice ja (cat rs).length jc), (11, .slice la rs.length lc), (12, .int .i64 (cat rs).length), (13, .int .i64 k), (14, .int .i64 (cat (rs.take x)).length), (15, .int .i64 x)]) (fun x w' => x ≤ k ∧ w' = w4) (fun x => k - x) 0 ⟨rfl, rfl, rfl, rfl, rfl, rfl, rfl, rfl, rfl, trivial⟩ ⟨by omega, rfl⟩ ?_
  rintro x w' f' ⟨hx, rfl⟩
  repeat'
    first
      | refine Q_then ?_ | refine C_cond_t rfl ?_ | refine C_cond_f rfl ?_ | refine C_seq ?_ | refine C_block ?_ | refine C_skip ?_ | refine C_ret ?_ | refine C_exit ?_
      | refine Q_then_ret ?_ | refine Q_then_exit ?_ | refine Q_block ?_ | refine Q_block_ret ?_ | refine Q_block_here ?_ | refine Q_block_on rfl ?_ | refine C_scope ?_ | refine C_label ?_ | refine Q_asn ?_
  (refine C_region ?_
   <;> (first | refine M_int rfl ?_ | refine W_move ?_)
   <;> (first | refine M_int rfl ?_ | refine W_move ?_)
   <;> (refine W_lss rfl rfl (fun hc => ?_) (fun hc => ?_) <;> try (exfalso; omega))
   <;> refine W_nil ?_)
  · repeat'
      first
        | refine Q_then ?_ | refine C_cond_t rfl ?_ | refine C_cond_f rfl ?_ | refine C_seq ?_ | refine C_block ?_ | refine C_skip ?_ | refine C_ret ?_ | refine C_exit ?_
        | refine Q_then_ret ?_ | refine Q_then_exit ?_ | refine Q_block ?_ | refine Q_block_ret ?_ | refine Q_block_here ?_ | refine Q_block_on rfl ?_ | refine C_scope ?_ | refine C_label ?_ | refine Q_asn ?_
    have hxr : x < rs.length := by omega
    obtain ⟨b, o, ua, uc, rfl, e1, e2⟩ := hl.get (i := x) hxr
    have := (hrs rs[x] (List.getElem_mem hxr)).2
    have := hpre x
    (refine C_region ?_
     <;> (first | refine M_int rfl ?_ | refine W_move ?_)
     <;> refine W_add rfl rfl (by first | exact inR_i64 (by omega) (by omega) | exact inR_u8 (by omega) (by omega) | exact inR_u16 (by omega) (by omega)) ?_
     <;> (first | refine M_slice rfl ?_ | refine W_move ?_)
     <;> (first | refine M_int rfl ?_ | refine W_move ?_)
     <;> (first | refine W_idx1 rfl rfl rfl (by omega) ?_ | refine W_idx rfl rfl rfl (by omega) ?_ | refine W_indexAddr rfl rfl (by omega) (by omega) ?_)
     <;> (first | refine W_load rfl (Blk.cell (by assumption) (by rfl)) ?_ | refine W_load rfl (by assumption) ?_)
     <;> refine W_len rfl ?_
     <;> refine W_add rfl rfl (by first | exact inR_i64 (by omega) (by omega) | exact inR_u8 (by omega) (by omega) | exact inR_u16 (by omega) (by omega)) ?_
     <;> (refine M_assign ?_; (first | refine M_int rfl ?_ | refine W_move ?_))
     <;> refine W_nil ?_)
    repeat'
      first
        | refine Q_then ?_ | refine C_cond_t rfl ?_ | refine C_cond_f rfl ?_ | refine C_seq ?_ | refine C_block ?_ | refine C_skip ?_ | refine C_ret ?_ | refine C_exit ?_
        | refine Q_then_ret ?_ | refine Q_then_exit ?_ | refine Q_block ?_ | refine Q_block_ret ?_ | refine Q_block_here ?_ | refine Q_block_on rfl ?_ | refine C_scope ?_ | refine C_label ?_ | refine Q_asn ?_
    (refine C_region ?_
     <;> (first | refine M_int rfl ?_ | refine W_move ?_)
     <;> refine W_add rfl rfl (by first | exact inR_i64 (by omega) (by omega) | exact inR_u8 (by omega) (by omega) | exact inR_u16 (by omega) (by omega)) ?_
     <;> (refine M_assign ?_; (first | refine M_int rfl ?_ | refine W_move ?_))
     <;> refine W_nil ?_)
    repeat'
      first
        | refine Q_then ?_ | refine C_cond_t rfl ?_ | refine C_cond_f rfl ?_ | refine C_seq ?_ | refine C_block ?_ | refine C_skip ?_ | refine C_ret ?_ | refine C_exit ?_
        | refine Q_then_ret ?_ | refine Q_then_exit ?_ | refine Q_block ?_ | refine Q_block_ret ?_ | refine Q_block_here ?_ | refine Q_block_on rfl ?_ | refine C_scope ?_ | refine C_label ?_ | refine Q_asn ?_
    refine ⟨x + 1, ⟨rfl, ⟨rfl, rfl, rfl, rfl, rfl, rfl, rfl, ?_, rfl, trivial⟩, ⟨by omega, rfl⟩⟩, by omega⟩
    exact congrArg (Value.int .i64) (by rw [hnext x hxr]; omega)
  repeat'
    first
      | refine Q_then ?_ | refine C_cond_t rfl ?_ | refine C_cond_f rfl ?_ | refine C_seq ?_ | refine C_block ?_ | refine C_skip ?_ | refine C_ret ?_ | refine C_exit ?_
      | refine Q_then_ret ?_ | refine Q_then_exit ?_ | refine Q_block ?_ | refine Q_block_ret ?_ | refine Q_block_here ?_ | refine Q_block_on rfl ?_ | refine C_scope ?_ | refine C_label ?_ | refine Q_asn ?_
  obtain rfl : x = k := by omega
  obtain ⟨b, o, ua, uc, rfl, e1, e2⟩ := hl.get (i := x) hkl
  have hrx := (hrs rs[x] (List.getElem_mem hkl)).2
  have hbx := hpre x
  obtain ⟨p, hp, hpl⟩ := emod_nat (a := at') (b := 4 + (rs[x].length : Int)) (by omega)
  (refine C_region ?_
   <;> (first | refine M_int rfl ?_ | refine W_move ?_)
   <;> refine W_add rfl rfl (by first | exact inR_i64 (by omega) (by omega) | exact inR_u8 (by omega) (by omega) | exact inR_u16 (by omega) (by omega)) ?_
   <;> (first | refine M_int rfl ?_ | refine W_move ?_)
   <;> refine W_conv rfl (by first | exact inR_i64 (by omega) (by omega) | exact inR_u8 (by omega) (by omega) | exact inR_u16 (by omega) (by omega)) ?_
   <;> (first | refine M_slice rfl ?_ | refine W_move ?_)
   <;> (first | refine M_int rfl ?_ | refine W_move ?_)
   <;> (first | refine W_idx1 rfl rfl rfl (by omega) ?_ | refine W_idx rfl rfl rfl (by omega) ?_ | refine W_indexAddr rfl rfl (by omega) (by omega) ?_)
   <;> (first | refine W_load rfl (Blk.cell (by assumption) (by rfl)) ?_ | refine W_load rfl (by assumption) ?_)
   <;> refine W_len rfl ?_
   <;> refine W_add rfl rfl (by first | exact inR_i64 (by omega) (by omega) | exact inR_u8 (by omega) (by omega) | exact inR_u16 (by omega) (by omega)) ?_
   <;> refine W_rem rfl rfl (by omega) (by omega) ?_
   <;> refine W_add rfl rfl (by first | exact inR_i64 (by omega) (by omega) | exact inR_u8 (by omega) (by omega) | exact inR_u16 (by omega) (by omega)) ?_
   <;> (refine M_assign ?_; (first | refine M_int rfl ?_ | refine W_move ?_))
   <;> refine W_nil ?_)
  repeat'
    first
      | refine Q_then ?_ | refine C_cond_t rfl ?_ | refine C_cond_f rfl ?_ | refine C_seq ?_ | refine C_block ?_ | refine C_skip ?_ | refine C_ret ?_ | refine C_exit ?_
      | refine Q_then_ret ?_ | refine Q_then_exit ?_ | refine Q_block ?_ | refine Q_block_ret ?_ | refine Q_block_here ?_ | refine Q_block_on rfl ?_ | refine C_scope ?_ | refine C_label ?_ | refine Q_asn ?_
  rw [hp]
  replace hpl : p < 4 + rs[x].length := by omega
  obtain ⟨pl, hplq⟩ : ∃ pl, pl = (cat (rs.take x)).length + 2 + p := ⟨_, rfl⟩
  have hpz : ((cat (rs.take x)).length : Int) + 2 + (p : Int) = (pl : Int) := by omega
  rw [hpz]
  have hpj : pl < (cat rs).length := by
    have h1 := hnext x hkl
    have := congrArg (fun l => (cat l).length) (List.take_append_drop (x + 1) rs)
    simp only [cat_append, List.length_append] at this
    omega
  (refine C_region ?_
   <;> (first | refine M_int rfl ?_ | refine W_move ?_)
   <;> (first | refine M_slice rfl ?_ | refine W_move ?_)
   <;> refine W_len rfl ?_
   <;> (refine W_geq rfl rfl (fun hc => ?_) (fun hc => ?_) <;> try (exfalso; omega))
   <;> refine W_nil ?_)
  repeat'
    first
      | refine Q_then ?_ | refine C_cond_t rfl ?_ | refine C_cond_f rfl ?_ | refine C_seq ?_ | refine C_block ?_ | refine C_skip ?_ | refine C_ret ?_ | refine C_exit ?_
      | refine Q_then_ret ?_ | refine Q_then_exit ?_ | refine Q_block ?_ | refine Q_block_ret ?_ | refine Q_block_here ?_ | refine Q_block_on rfl ?_ | refine C_scope ?_ | refine C_label ?_ | refine Q_asn ?_
  refine C_region ?_
  refine W_buildSlice1 (out := []) rfl (by omega) rfl rfl (fun w5 n5 => ?_)
  have o5 := own_nil n5
  have z5 := n5.size
  ((first | refine M_slice rfl ?_ | refine W_move ?_))
  -- at operation 2: <dst=(some 76) op=(call <callee=(builtin append) args=[(tmp 74), (tmp 75)] argTypes=[24, 24]>) type=24 guard=none>
  refine W_apd8 rfl rfl rfl o5 (own_bytes (ownsRow_ext oj n5.keep) rfl) (by omega) (by omega) (fun v6 w6 a6 => ?_)
  have k6 : Ext w' w6 := n5.keep.apd o5 (Nat.le_refl _) a6
  obtain ⟨xa, xc, rfl⟩ := own_form a6.own
  have o6 : w6.ownsRow w'.heap.size 5 1 (.slice xa (0 + (cat rs).length) xc) (0 + (cat rs).length) (cells8 (cat rs)) := a6.own
  rw [Nat.zero_add] at o6 ⊢
  ((refine M_assign ?_; (first | refine M_slice rfl ?_ | refine W_move ?_))
   <;> refine W_nil ?_)
  repeat'
    first
      | refine Q_then ?_ | refine C_cond_t rfl ?_ | refine C_cond_f rfl ?_ | refine C_seq ?_ | refine C_block ?_ | refine C_skip ?_ | refine C_ret ?_ | refine C_exit ?_
      | refine Q_then_ret ?_ | refine Q_then_exit ?_ | refine Q_block ?_ | refine Q_block_ret ?_ | refine Q_block_here ?_ | refine Q_block_on rfl ?_ | refine C_scope ?_ | refine C_label ?_ | refine Q_asn ?_
  obtain ⟨g, L, rfl, hBg, bg, hLn, hput⟩ := own_blk o6 (by omega)
  (refine C_region ?_
   <;> (first | refine M_slice rfl ?_ | refine W_move ?_)
   <;> (first | refine M_int rfl ?_ | refine W_move ?_)
   <;> (first | refine M_int rfl ?_ | refine W_move ?_)
   <;> (first | refine W_idx1 rfl rfl rfl (by omega) ?_ | refine W_idx rfl rfl rfl (by omega) ?_ | refine W_indexAddr rfl rfl (by omega) (by omega) ?_))
  -- at operation 4: <dst=none op=(store 5 (tmp 80) (tmp 79)) type=0 guard=none>
  refine W_store (v := enc8 c) rfl rfl rfl bg (by omega) (fun w7 p7 => ?_)
  have hbad := hput w7 pl (enc8 c) (by simpa using p7)
  rw [cells8_set] at hbad
  have k7 : Ext w' w7 := k6.keep p7.keep (by simp; omega)
  replace oj := ownsRow_ext oj k7
  replace hl := hl.keep k7 (by simp)
  replace k1 := k1.trans k7
  clear k7 k6 p7 bg hput o6 a6 o5 n5
  refine W_nil ?_
  repeat'
    first
      | refine Q_then ?_ | refine C_cond_t rfl ?_ | refine C_cond_f rfl ?_ | refine C_seq ?_ | refine C_block ?_ | refine C_skip ?_ | refine C_ret ?_ | refine C_exit ?_
      | refine Q_then_ret ?_ | refine Q_then_exit ?_ | refine Q_block ?_ | refine Q_block_ret ?_ | refine Q_block_here ?_ | refine Q_block_on rfl ?_ | refine C_scope ?_ | refine C_label ?_ | refine Q_asn ?_
  (refine C_region ?_
   <;> (first | refine M_slice rfl ?_ | refine W_move ?_))
  -- at operation 1: <dst=(some 83) op=(call <callee=(value (func 15)) args=[(tmp 82)] argTypes=[24]>) type=32 guard=none>
  refine W_call (Records_any _ ((cat rs).set pl c) _ (own_bytes hbad (by simp))) rfl ?_
  rintro _ w8 ⟨mv, rfl, hm, k8⟩
  replace hm := hm.LB
  obtain ⟨ma, mc, rfl, hmc, hmc2⟩ := hm.form
  replace oj := ownsRow_ext oj k8
  replace hl := hl.keep k8 (by simp)
  replace k1 := k1.trans k8
  clear k8 hbad
  ((first | refine M_tuple rfl ?_ | refine W_move ?_)
   <;> refine W_extract rfl rfl ?_
   <;> refine W_extract rfl rfl ?_
   <;> (refine M_assign ?_; (first | refine M_slice rfl ?_ | refine W_move ?_))
   <;> (refine M_assign ?_; (first | refine M_int rfl ?_ | refine W_move ?_))
   <;> refine W_nil ?_)
  repeat'
    first
      | refine Q_then ?_ | refine C_cond_t rfl ?_ | refine C_cond_f rfl ?_ | refine C_seq ?_ | refine C_block ?_ | refine C_skip ?_ | refine C_ret ?_ | refine C_exit ?_
      | refine Q_then_ret ?_ | refine Q_then_exit ?_ | refine Q_block ?_ | refine Q_block_ret ?_ | refine Q_block_here ?_ | refine Q_block_on rfl ?_ | refine C_scope ?_ | refine C_label ?_ | refine Q_asn ?_
  obtain ⟨jb, jo, rfl, _, hcell⟩ := (own_bytes oj rfl).cells (by omega)
  have hc8 := hcell pl hpj
  by_cases hsame : (cat rs).getD pl 0 = c
  · have hset : (cat rs).set pl c = cat rs := by
      rw [← hsame]
      exact List.ext_getElem (by simp) fun i h1 h2 => by
        rw [List.getElem_set]
        split
        · rename_i e; subst e; simp [h2]
        · rfl
    rw [hset, hrec] at hm
    rw [hsame] at hc8
    simp only [hset, hrec]
    dsimp only at hm
    (refine C_region ?_
     <;> (first | refine M_slice rfl ?_ | refine W_move ?_)
     <;> (first | refine M_int rfl ?_ | refine W_move ?_)
     <;> (first | refine W_idx1 rfl rfl rfl (by omega) ?_ | refine W_idx rfl rfl rfl (by omega) ?_ | refine W_indexAddr rfl rfl (by omega) (by omega) ?_)
     <;> (first | refine W_load rfl (Blk.cell (by assumption) (by rfl)) ?_ | refine W_load rfl (by assumption) ?_)
     <;> (first | refine M_int rfl ?_ | refine W_move ?_)
     <;> (refine W_eql rfl rfl (fun hc => ?_) (fun hc => ?_) <;> try (exfalso; omega))
     <;> refine W_nil ?_)
    repeat'
      first
        | refine Q_then ?_ | refine C_cond_t rfl ?_ | refine C_cond_f rfl ?_ | refine C_seq ?_ | refine C_block ?_ | refine C_skip ?_ | refine C_ret ?_ | refine C_exit ?_
        | refine Q_then_ret ?_ | refine Q_then_exit ?_ | refine Q_block ?_ | refine Q_block_ret ?_ | refine Q_block_here ?_ | refine Q_block_on rfl ?_ | refine C_scope ?_ | refine C_label ?_ | refine Q_asn ?_
    (refine C_region ?_
     <;> (first | refine M_bool rfl ?_ | refine W_move ?_)
     <;> (first | refine M_bool rfl ?_ | refine W_move ?_)
     <;> (first | refine W_no rfl ?_ | (refine W_yes rfl ?_; (first | refine M_slice rfl ?_ | refine W_move ?_)))
     <;> (first | refine W_no rfl ?_ | (refine W_yes rfl ?_; (first | refine M_slice rfl ?_ | refine W_move ?_))))
    -- at operation 4: <dst=(some 96) op=(call <callee=(value (func 20)) args=[(tmp 94), (tmp 95)] argTypes=[31, 31]>) type=4 guard=(some [1, true])>
    refine W_yes rfl ?_
    refine W_call (SameRecords_any _ _ rs rs _ hm hl) rfl ?_
    rintro _ w9 ⟨rfl, k9⟩
    rw [beq_self_eq_true]
    replace k1 := k1.trans k9
    (((first | refine M_pick_t rfl ?_ | refine M_pick_f rfl ?_); (first | refine M_bool rfl ?_ | refine W_move ?_))
     <;> (first | refine M_bool rfl ?_ | refine W_move ?_)
     <;> (first | refine W_no rfl ?_ | (refine W_yes rfl ?_; (first | refine M_int rfl ?_ | refine W_move ?_)))
     <;> (first | refine W_no rfl ?_ | (refine W_yes rfl ?_; (first | refine M_int rfl ?_ | refine W_move ?_)))
     <;> (first | refine W_no rfl ?_ | (refine W_yes rfl ?_; (refine W_eql rfl rfl (fun hc => ?_) (fun hc => ?_) <;> try (exfalso; omega))))
     <;> ((first | refine M_pick_t rfl ?_ | refine M_pick_f rfl ?_); (first | refine M_bool rfl ?_ | refine W_move ?_))
     <;> (refine M_assign ?_; (first | refine M_bool rfl ?_ | refine W_move ?_))
     <;> refine W_nil ?_)
    repeat'
      first
        | refine Q_then ?_ | refine C_cond_t rfl ?_ | refine C_cond_f rfl ?_ | refine C_seq ?_ | refine C_block ?_ | refine C_skip ?_ | refine C_ret ?_ | refine C_exit ?_
        | refine Q_then_ret ?_ | refine Q_then_exit ?_ | refine Q_block ?_ | refine Q_block_ret ?_ | refine Q_block_here ?_ | refine Q_block_on rfl ?_ | refine C_scope ?_ | refine C_label ?_ | refine Q_asn ?_
    exact fin_ret1 rfl ⟨rfl, k1⟩
  · have hd := cat_damaged (fun r hr => (hrs r hr).1) (by omega) hkl hpl (by rw [← hplq]; exact hsame)
    rw [← hplq] at hd
    have hxl : (rs.take x).length = x := by simp; omega
    rw [hd] at hm
    dsimp only at hm
    simp only [hd, hxl]
    rw [hxl] at hm
    have hne : (enc8 ((cat rs).getD pl 0)) ≠ enc8 c := by
      intro e
      simp only [enc8, Value.int.injEq, true_and] at e
      exact hsame (UInt8.toNat_inj.1 (by omega))
    (refine C_region ?_
     <;> (first | refine M_slice rfl ?_ | refine W_move ?_)
     <;> (first | refine M_int rfl ?_ | refine W_move ?_)
     <;> (first | refine W_idx1 rfl rfl rfl (by omega) ?_ | refine W_idx rfl rfl rfl (by omega) ?_ | refine W_indexAddr rfl rfl (by omega) (by omega) ?_)
     <;> (first | refine W_load rfl (Blk.cell (by assumption) (by rfl)) ?_ | refine W_load rfl (by assumption) ?_)
     <;> (first | refine M_int rfl ?_ | refine W_move ?_)
     <;> (refine W_eql rfl rfl (fun hc => ?_) (fun hc => ?_) <;> try (exfalso; omega))
     <;> refine W_nil ?_)
    · exact absurd (congrArg (Value.int .u8) hc) hne
    repeat'
      first
        | refine Q_then ?_ | refine C_cond_t rfl ?_ | refine C_cond_f rfl ?_ | refine C_seq ?_ | refine C_block ?_ | refine C_skip ?_ | refine C_ret ?_ | refine C_exit ?_
        | refine Q_then_ret ?_ | refine Q_then_exit ?_ | refine Q_block ?_ | refine Q_block_ret ?_ | refine Q_block_here ?_ | refine Q_block_on rfl ?_ | refine C_scope ?_ | refine C_label ?_ | refine Q_asn ?_
    (refine C_region ?_
     <;> (first | refine M_bool rfl ?_ | refine W_move ?_)
     <;> (first | refine M_bool rfl ?_ | refine W_move ?_)
     <;> (first | refine W_no rfl ?_ | (refine W_yes rfl ?_; (first | refine M_slice rfl ?_ | refine W_move ?_)))
     <;> (first | refine W_no rfl ?_ | (refine W_yes rfl ?_; (first | refine M_slice rfl ?_ | refine W_move ?_)))
     <;> (first | refine W_no rfl ?_ | (refine W_yes rfl ?_; (first | refine M_int rfl ?_ | refine W_move ?_)))
     <;> (first | refine W_no rfl ?_ | (refine W_yes rfl ?_; refine W_slice_h rfl rfl (by omega) (by omega) ?_)))
    -- at operation 6: <dst=(some 109) op=(call <callee=(value (func 20)) args=[(tmp 105), (tmp 108)] argTypes=[31, 31]>) type=4 guard=(some [1, true])>
    refine W_yes rfl ?_
    refine W_call (SameRecords_any _ _ (rs.take x) (rs.take x) _ hm (hl.cut (by omega))) rfl ?_
    rintro _ w9 ⟨rfl, k9⟩
    rw [beq_self_eq_true]
    replace k1 := k1.trans k9
    (((first | refine M_pick_t rfl ?_ | refine M_pick_f rfl ?_); (first | refine M_bool rfl ?_ | refine W_move ?_))
     <;> (first | refine M_bool rfl ?_ | refine W_move ?_)
     <;> (first | refine W_no rfl ?_ | (refine W_yes rfl ?_; (first | refine M_int rfl ?_ | refine W_move ?_)))
     <;> (first | refine W_no rfl ?_ | (refine W_yes rfl ?_; (first | refine M_int rfl ?_ | refine W_move ?_)))
     <;> (first | refine W_no rfl ?_ | (refine W_yes rfl ?_; (refine W_eql rfl rfl (fun hc => ?_) (fun hc => ?_) <;> try (exfalso; omega))))
     <;> ((first | refine M_pick_t rfl ?_ | refine M_pick_f rfl ?_); (first | refine M_bool rfl ?_ | refine W_move ?_))
     <;> (refine M_assign ?_; (first | refine M_bool rfl ?_ | refine W_move ?_))
     <;> refine W_nil ?_)
    repeat'
      first
        | refine Q_then ?_ | refine C_cond_t rfl ?_ | refine C_cond_f rfl ?_ | refine C_seq ?_ | refine C_block ?_ | refine C_skip ?_ | refine C_ret ?_ | refine C_exit ?_
        | refine Q_then_ret ?_ | refine Q_then_exit ?_ | refine Q_block ?_ | refine Q_block_ret ?_ | refine Q_block_here ?_ | refine Q_block_on rfl ?_ | refine C_scope ?_ | refine C_label ?_ | refine Q_asn ?_
    exact fin_ret1 rfl ⟨rfl, k1⟩
end Go.Proofs.Ytfbahfibgmdlnaa
