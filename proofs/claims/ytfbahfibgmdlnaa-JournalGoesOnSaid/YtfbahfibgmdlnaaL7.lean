/- JournalGoesOn: appending what was lost yields the journal. Conditions: none. -/
import Derived.Test.YtfbahfibgmdlnaaL6
namespace Go.Proofs.Ytfbahfibgmdlnaa
open Go.RowKit
set_option linter.unusedVariables false

theorem app_torn {rs : List (List UInt8)} (h : ∀ r ∈ rs, okR r) (h500 : rs.length < 500) {x : Nat} (hx : x < rs.length) {X : List UInt8} (hX : recs 500 X = (rs.take x, (cat (rs.take x)).length)) :
    app X rs[x] = (cat (rs.take (x + 1)), 0) := by
  obtain ⟨h1, h2⟩ := h rs[x] (List.getElem_mem hx)
  have e := (recs_cat 500 X).1
  rw [hX] at e
  dsimp only at e
  unfold app
  rw [hX, if_neg (by omega), if_neg (by simp; omega)]
  dsimp only
  rw [e, List.take_succ_eq_append_getElem hx, cat_append, cat_one]

theorem GoesOn_law (v : Value) (ls : List (List UInt8)) (c : Int) (w : World) (h : LB anyB w v ls) (h0 : 0 ≤ c) (h1 : c ≤ 65535) :
    Fn Try.prog 9 [v, .int .u16 c] w fun v w' => v = .bool true ∧ Ext w w' := by
  obtain ⟨a, cp, rfl, _⟩ := h.form
  refine fn_of_wc Try.func9 rfl Try.ntmps9 (Nat.le_of_ble_eq_true rfl) (by kernel_rfl) ?_
  repeat'
    first
      | refine Q_then ?_ | refine C_cond_t rfl ?_ | refine C_cond_f rfl ?_ | refine C_seq ?_ | refine C_block ?_ | refine C_skip ?_ | refine C_ret ?_ | refine C_exit ?_
      | refine Q_then_ret ?_ | refine Q_then_exit ?_ | refine Q_block ?_ | refine Q_block_ret ?_ | refine Q_block_here ?_ | refine Q_block_on rfl ?_ | refine C_scope ?_ | refine C_label ?_ | refine Q_asn ?_
  (refine C_region ?_
   <;> (refine M_assign ?_; (first | refine M_bool rfl ?_ | refine W_move ?_))
   <;> refine W_nil ?_)
  repeat'
    first
      | refine Q_then ?_ | refine C_cond_t rfl ?_ | refine C_cond_f rfl ?_ | refine C_seq ?_ | refine C_block ?_ | refine C_skip ?_ | refine C_ret ?_ | refine C_exit ?_
      | refine Q_then_ret ?_ | refine Q_then_exit ?_ | refine Q_block ?_ | refine Q_block_ret ?_ | refine Q_block_here ?_ | refine Q_block_on rfl ?_ | refine C_scope ?_ | refine C_label ?_ | refine Q_asn ?_
  (refine C_region ?_)
  -- at operation 0: <dst=(some 17) op=(call <callee=(value (func 10)) args=[] argTypes=[]>) type=4 guard=none>
  refine W_call (head_any _) rfl ?_
  rintro _ w1 ⟨rfl, k1⟩
  replace h := h.keep k1 (by simp)
  ((refine M_assign ?_; (first | refine M_bool rfl ?_ | refine W_move ?_))
   <;> refine W_nil ?_)
  repeat'
    first
      | refine Q_then ?_ | refine C_cond_t rfl ?_ | refine C_cond_f rfl ?_ | refine C_seq ?_ | refine C_block ?_ | refine C_skip ?_ | refine C_ret ?_ | refine C_exit ?_
      | refine Q_then_ret ?_ | refine Q_then_exit ?_ | refine Q_block ?_ | refine Q_block_ret ?_ | refine Q_block_here ?_ | refine Q_block_on rfl ?_ | refine C_scope ?_ | refine C_label ?_ | refine Q_asn ?_
  (refine C_region ?_
   <;> (first | refine M_slice rfl ?_ | refine W_move ?_))
  -- at operation 1: <dst=(some 19) op=(call <callee=(value (func 22)) args=[(tmp 18)] argTypes=[31]>) type=4 guard=none>
  refine W_call (short_any _ ls _ h) rfl ?_
  rintro _ w2 ⟨rfl, k2⟩
  replace h := h.keep k2 (by simp)
  replace k1 := k1.trans k2
  clear k2
  cases hsh : short ls with
  | false =>
    (refine W_not rfl ?_
     <;> refine W_nil ?_)
    repeat'
      first
        | refine Q_then ?_ | refine C_cond_t rfl ?_ | refine C_cond_f rfl ?_ | refine C_seq ?_ | refine C_block ?_ | refine C_skip ?_ | refine C_ret ?_ | refine C_exit ?_
        | refine Q_then_ret ?_ | refine Q_then_exit ?_ | refine Q_block ?_ | refine Q_block_ret ?_ | refine Q_block_here ?_ | refine Q_block_on rfl ?_ | refine C_scope ?_ | refine C_label ?_ | refine Q_asn ?_
    (refine C_region ?_
     <;> (first | refine M_bool rfl ?_ | refine W_move ?_)
     <;> (refine M_assign ?_; (first | refine M_bool rfl ?_ | refine W_move ?_))
     <;> refine W_nil ?_)
    repeat'
      first
        | refine Q_then ?_ | refine C_cond_t rfl ?_ | refine C_cond_f rfl ?_ | refine C_seq ?_ | refine C_block ?_ | refine C_skip ?_ | refine C_ret ?_ | refine C_exit ?_
        | refine Q_then_ret ?_ | refine Q_then_exit ?_ | refine Q_block ?_ | refine Q_block_ret ?_ | refine Q_block_here ?_ | refine Q_block_on rfl ?_ | refine C_scope ?_ | refine C_label ?_ | refine Q_asn ?_
    exact fin_ret1 rfl ⟨rfl, k1⟩
  | true =>
  obtain ⟨rs, hw, hr15, hrs, hlen, hrec⟩ := short_cat hsh
  have hok : ∀ r ∈ rs, okR r := fun r hr => (hrs r hr).1
  (refine W_not rfl ?_
   <;> refine W_nil ?_)
  repeat'
    first
      | refine Q_then ?_ | refine C_cond_t rfl ?_ | refine C_cond_f rfl ?_ | refine C_seq ?_ | refine C_block ?_ | refine C_skip ?_ | refine C_ret ?_ | refine C_exit ?_
      | refine Q_then_ret ?_ | refine Q_then_exit ?_ | refine Q_block ?_ | refine Q_block_ret ?_ | refine Q_block_here ?_ | refine Q_block_on rfl ?_ | refine C_scope ?_ | refine C_label ?_ | refine Q_asn ?_
  (refine C_region ?_
   <;> (first | refine M_slice rfl ?_ | refine W_move ?_))
  -- at operation 1: <dst=(some 23) op=(call <callee=(value (func 23)) args=[(tmp 22)] argTypes=[31]>) type=24 guard=none>
  refine W_call (whole_any _ ls _ h (short_iff hsh).1) rfl ?_
  rintro jv w3 ⟨oj, k3⟩
  rw [hw] at oj
  obtain ⟨ja, jc, rfl⟩ := own_form oj
  replace k1 := k1.trans k3
  clear k3 h
  ((refine M_assign ?_; (first | refine M_slice rfl ?_ | refine W_move ?_))
   <;> refine W_nil ?_)
  repeat'
    first
      | refine Q_then ?_ | refine C_cond_t rfl ?_ | refine C_cond_f rfl ?_ | refine C_seq ?_ | refine C_block ?_ | refine C_skip ?_ | refine C_ret ?_ | refine C_exit ?_
      | refine Q_then_ret ?_ | refine Q_then_exit ?_ | refine Q_block ?_ | refine Q_block_ret ?_ | refine Q_block_here ?_ | refine Q_block_on rfl ?_ | refine C_scope ?_ | refine C_label ?_ | refine Q_asn ?_
  (refine C_region ?_
   <;> (first | refine M_slice rfl ?_ | refine W_move ?_))
  -- at operation 1: <dst=(some 26) op=(call <callee=(value (func 15)) args=[(tmp 25)] argTypes=[24]>) type=32 guard=none>
  refine W_call (Records_any _ (cat rs) _ (own_bytes oj rfl)) rfl ?_
  rintro _ w4 ⟨lv, rfl, hl, k4⟩
  rw [hrec] at hl
  dsimp only at hl
  simp only [hrec]
  replace hl := hl.LB
  obtain ⟨la, lc, rfl, hlc, hlc2⟩ := hl.form
  replace oj := ownsRow_ext oj k4
  replace k1 := k1.trans k4
  clear k4
  ((first | refine M_tuple rfl ?_ | refine W_move ?_)
   <;> refine W_extract rfl rfl ?_
   <;> refine W_extract rfl rfl ?_
   <;> (refine M_assign ?_; (first | refine M_slice rfl ?_ | refine W_move ?_))
   <;> (refine M_assign ?_; (first | refine M_int rfl ?_ | refine W_move ?_))
   <;> refine W_nil ?_)
  repeat'
    first
      | refine Q_then ?_ | refine C_cond_t rfl ?_ | refine C_cond_f rfl ?_ | refine C_seq ?_ | refine C_block ?_ | refine C_skip ?_ | refine C_ret ?_ | refine C_exit ?_
      | refine Q_then_ret ?_ | refine Q_then_exit ?_ | refine Q_block ?_ | refine Q_block_ret ?_ | refine Q_block_here ?_ | refine Q_block_on rfl ?_ | refine C_scope ?_ | refine C_label ?_ | refine Q_asn ?_
  refine C_region ?_
  refine W_buildSlice1 (out := []) rfl (by omega) rfl rfl (fun w5 n5 => ?_)
  have o5 := own_nil n5
  have z5 := n5.size
  obtain ⟨k, hk, hkl⟩ := emod_nat (a := c) (b := ((cat rs).length : Int) + 1) (by omega)
  have hjc := (own_bytes oj rfl).len
  ((first | refine M_slice rfl ?_ | refine W_move ?_)
   <;> (first | refine M_int rfl ?_ | refine W_move ?_)
   <;> refine W_conv rfl (by first | exact inR_i64 (by omega) (by omega) | exact inR_u8 (by omega) (by omega) | exact inR_u16 (by omega) (by omega)) ?_
   <;> (first | refine M_slice rfl ?_ | refine W_move ?_)
   <;> refine W_len rfl ?_
   <;> refine W_add rfl rfl (by first | exact inR_i64 (by omega) (by omega) | exact inR_u8 (by omega) (by omega) | exact inR_u16 (by omega) (by omega)) ?_
   <;> refine W_rem rfl rfl (by omega) (by omega) ?_)
  rw [hk]
  replace hkl : k ≤ (cat rs).length := by omega
  (refine W_slice_h rfl rfl (by omega) (by omega) ?_)
  -- at operation 9: <dst=(some 38) op=(call <callee=(builtin append) args=[(tmp 29), (tmp 37)] argTypes=[24, 24]>) type=24 guard=none>
  have hbk : BytesAt anyB w5 (.slice ja k jc) ((cat rs).take k) := (own_bytes (ownsRow_ext oj n5.keep) rfl).take k hkl
  have hkt : ((cat rs).take k).length = k := by simp; omega
  refine W_apd8 (m := (cat rs).take k) rfl rfl rfl o5 hbk (by omega) (by omega) (fun v6 w6 a6 => ?_)
  have k6 : Ext w4 w6 := n5.keep.apd o5 (Nat.le_refl _) a6
  obtain ⟨xa, xc, rfl⟩ := own_form a6.own
  have o6 : w6.ownsRow w4.heap.size 5 1 (.slice xa (0 + ((cat rs).take k).length) xc) (0 + ((cat rs).take k).length) (cells8 ((cat rs).take k)) := a6.own
  rw [Nat.zero_add] at o6 ⊢
  replace oj := ownsRow_mono (ownsRow_ext oj k6) (Nat.zero_le _)
  replace o6 := ownsRow_mono o6 (Nat.zero_le _)
  replace hl := hl.keep k6 (by simp)
  replace k1 := k1.trans k6
  clear k6 a6 o5 n5
  ((refine M_assign ?_; (first | refine M_slice rfl ?_ | refine W_move ?_))
   <;> refine W_nil ?_)
  repeat'
    first
      | refine Q_then ?_ | refine C_cond_t rfl ?_ | refine C_cond_f rfl ?_ | refine C_seq ?_ | refine C_block ?_ | refine C_skip ?_ | refine C_ret ?_ | refine C_exit ?_
      | refine Q_then_ret ?_ | refine Q_then_exit ?_ | refine Q_block ?_ | refine Q_block_ret ?_ | refine Q_block_here ?_ | refine Q_block_on rfl ?_ | refine C_scope ?_ | refine C_label ?_ | refine Q_asn ?_
  (refine C_region ?_
   <;> (first | refine M_slice rfl ?_ | refine W_move ?_))
  -- at operation 1: <dst=(some 41) op=(call <callee=(value (func 15)) args=[(tmp 40)] argTypes=[24]>) type=32 guard=none>
  refine W_call (Records_any _ ((cat rs).take k) _ (own_bytes o6 rfl)) rfl ?_
  rintro _ w7 ⟨mv, rfl, hm, k7⟩
  obtain ⟨q, hq, hrq, hqk, hmax⟩ := recs_torn rs 500 k hok (by omega) hkl
  have hql : (rs.take q).length = q := by simp; omega
  rw [hrq] at hm
  dsimp only at hm
  simp only [hrq]
  replace hm := hm.LB
  obtain ⟨ma, mc, rfl, hmc, hmc2⟩ := hm.form
  rw [hql] at hm hmc ⊢
  replace oj := ownsRow_ext oj k7
  replace o6 := ownsRow_ext o6 k7
  replace hl := hl.keep k7 (by simp)
  replace k1 := k1.trans k7
  clear k7
  ((first | refine M_tuple rfl ?_ | refine W_move ?_)
   <;> refine W_extract rfl rfl ?_
   <;> refine W_extract rfl rfl ?_
   <;> (refine M_assign ?_; (first | refine M_slice rfl ?_ | refine W_move ?_))
   <;> (refine M_assign ?_; (first | refine M_int rfl ?_ | refine W_move ?_))
   <;> refine W_nil ?_)
  repeat'
    first
      | refine Q_then ?_ | refine C_cond_t rfl ?_ | refine C_cond_f rfl ?_ | refine C_seq ?_ | refine C_block ?_ | refine C_skip ?_ | refine C_ret ?_ | refine C_exit ?_
      | refine Q_then_ret ?_ | refine Q_then_exit ?_ | refine Q_block ?_ | refine Q_block_ret ?_ | refine Q_block_here ?_ | refine Q_block_on rfl ?_ | refine C_scope ?_ | refine C_label ?_ | refine Q_asn ?_
  (refine C_region ?_
   <;> (first | refine M_slice rfl ?_ | refine W_move ?_)
   <;> refine W_len rfl ?_
   <;> (first | refine M_slice rfl ?_ | refine W_move ?_)
   <;> refine W_len rfl ?_
   <;> (refine W_gtr rfl rfl (fun hc => ?_) (fun hc => ?_) <;> try (exfalso; omega))
   <;> refine W_nil ?_)
  repeat'
    first
      | refine Q_then ?_ | refine C_cond_t rfl ?_ | refine C_cond_f rfl ?_ | refine C_seq ?_ | refine C_block ?_ | refine C_skip ?_ | refine C_ret ?_ | refine C_exit ?_
      | refine Q_then_ret ?_ | refine Q_then_exit ?_ | refine Q_block ?_ | refine Q_block_ret ?_ | refine Q_block_here ?_ | refine Q_block_on rfl ?_ | refine C_scope ?_ | refine C_label ?_ | refine Q_asn ?_
  (refine C_region ?_
   <;> (first | refine M_slice rfl ?_ | refine W_move ?_)
   <;> refine W_len rfl ?_
   <;> (refine M_assign ?_; (first | refine M_int rfl ?_ | refine W_move ?_))
   <;> refine W_nil ?_)
  repeat'
    first
      | refine Q_then ?_ | refine C_cond_t rfl ?_ | refine C_cond_f rfl ?_ | refine C_seq ?_ | refine C_block ?_ | refine C_skip ?_ | refine C_ret ?_ | refine C_exit ?_
      | refine Q_then_ret ?_ | refine Q_then_exit ?_ | refine Q_block ?_ | refine Q_block_ret ?_ | refine Q_block_here ?_ | refine Q_block_on rfl ?_ | refine C_scope ?_ | refine C_label ?_ | refine Q_asn ?_
  refine C_loop (α := Nat × Value × List UInt8) (fun x => [(5, .bool true), (6, .slice ja (cat rs).length jc), (7, .slice la rs.length lc), (9, x.2.1), (12, .int .i64 x.1)])
    (fun x w' => x.1 ≤ rs.length ∧ Ext w w' ∧ Ext w7 w' ∧ w'.ownsRow 0 5 1 x.2.1 x.2.2.length (cells8 x.2.2) ∧ x.2.2.length ≤ 3090 ∧ recs 500 x.2.2 = (rs.take x.1, (cat (rs.take x.1)).length)) (fun x => rs.length - x.1) (q, .slice xa ((cat rs).take k).length xc, (cat rs).take k)
    ⟨rfl, rfl, rfl, rfl, rfl, trivial⟩ ⟨hq, k1, Ext.refl _, o6, by dsimp only; omega, hrq⟩ ?_
  rintro ⟨x, xv, X⟩ w8 f' ⟨hx, kx, kj, ox, hX, hrX⟩
  dsimp only at hx ox hX hrX ⊢
  obtain ⟨xa', xc', rfl⟩ := own_form ox
  replace hl := hl.keep kj (by simp)
  replace oj := ownsRow_ext oj kj
  repeat'
    first
      | refine Q_then ?_ | refine C_cond_t rfl ?_ | refine C_cond_f rfl ?_ | refine C_seq ?_ | refine C_block ?_ | refine C_skip ?_ | refine C_ret ?_ | refine C_exit ?_
      | refine Q_then_ret ?_ | refine Q_then_exit ?_ | refine Q_block ?_ | refine Q_block_ret ?_ | refine Q_block_here ?_ | refine Q_block_on rfl ?_ | refine C_scope ?_ | refine C_label ?_ | refine Q_asn ?_
  (refine C_region ?_
   <;> (first | refine M_int rfl ?_ | refine W_move ?_)
   <;> (first | refine M_slice rfl ?_ | refine W_move ?_)
   <;> refine W_len rfl ?_
   <;> (refine W_lss rfl rfl (fun hc => ?_) (fun hc => ?_) <;> try (exfalso; omega))
   <;> refine W_nil ?_)
  · repeat'
      first
        | refine Q_then ?_ | refine C_cond_t rfl ?_ | refine C_cond_f rfl ?_ | refine C_seq ?_ | refine C_block ?_ | refine C_skip ?_ | refine C_ret ?_ | refine C_exit ?_
        | refine Q_then_ret ?_ | refine Q_then_exit ?_ | refine Q_block ?_ | refine Q_block_ret ?_ | refine Q_block_here ?_ | refine Q_block_on rfl ?_ | refine C_scope ?_ | refine C_label ?_ | refine Q_asn ?_
    have hxr : x < rs.length := by omega
    obtain ⟨b, o, ua, uc, rfl, e1, e2⟩ := hl.get (i := x) hxr
    have happ := app_torn hok (by omega) hxr hrX
    (refine C_region ?_
     <;> (first | refine M_slice rfl ?_ | refine W_move ?_)
     <;> (first | refine M_slice rfl ?_ | refine W_move ?_)
     <;> (first | refine M_int rfl ?_ | refine W_move ?_)
     <;> (first | refine W_idx1 rfl rfl rfl (by omega) ?_ | refine W_idx rfl rfl rfl (by omega) ?_ | refine W_indexAddr rfl rfl (by omega) (by omega) ?_)
     <;> (first | refine W_load rfl (Blk.cell (by assumption) (by rfl)) ?_ | refine W_load rfl (by assumption) ?_))
    -- at operation 5: <dst=(some 63) op=(call <callee=(value (func 13)) args=[(tmp 58), (tmp 62)] argTypes=[24, 24]>) type=29 guard=none>
    refine W_call (Append_app _ _ X rs[x] _ (own_bytes ox rfl) e2 (by omega)) rfl ?_
    rintro _ w9 ⟨rv, rfl, o9, k9⟩
    rw [happ] at o9
    dsimp only at o9
    simp only [happ]
    obtain ⟨ya, yc, rfl⟩ := own_form o9
    ((first | refine M_tuple rfl ?_ | refine W_move ?_)
     <;> refine W_extract rfl rfl ?_
     <;> refine W_extract rfl rfl ?_
     <;> (refine M_assign ?_; (first | refine M_slice rfl ?_ | refine W_move ?_))
     <;> (refine M_assign ?_; (first | refine M_int rfl ?_ | refine W_move ?_))
     <;> refine W_nil ?_)
    repeat'
      first
        | refine Q_then ?_ | refine C_cond_t rfl ?_ | refine C_cond_f rfl ?_ | refine C_seq ?_ | refine C_block ?_ | refine C_skip ?_ | refine C_ret ?_ | refine C_exit ?_
        | refine Q_then_ret ?_ | refine Q_then_exit ?_ | refine Q_block ?_ | refine Q_block_ret ?_ | refine Q_block_here ?_ | refine Q_block_on rfl ?_ | refine C_scope ?_ | refine C_label ?_ | refine Q_asn ?_
    (refine C_region ?_
     <;> (first | refine M_int rfl ?_ | refine W_move ?_)
     <;> (refine W_neq rfl rfl (fun hc => ?_) (fun hc => ?_) <;> try (exfalso; omega))
     <;> refine W_nil ?_)
    repeat'
      first
        | refine Q_then ?_ | refine C_cond_t rfl ?_ | refine C_cond_f rfl ?_ | refine C_seq ?_ | refine C_block ?_ | refine C_skip ?_ | refine C_ret ?_ | refine C_exit ?_
        | refine Q_then_ret ?_ | refine Q_then_exit ?_ | refine Q_block ?_ | refine Q_block_ret ?_ | refine Q_block_here ?_ | refine Q_block_on rfl ?_ | refine C_scope ?_ | refine C_label ?_ | refine Q_asn ?_
    (refine C_region ?_
     <;> (first | refine M_slice rfl ?_ | refine W_move ?_)
     <;> (refine M_assign ?_; (first | refine M_slice rfl ?_ | refine W_move ?_))
     <;> refine W_nil ?_)
    repeat'
      first
        | refine Q_then ?_ | refine C_cond_t rfl ?_ | refine C_cond_f rfl ?_ | refine C_seq ?_ | refine C_block ?_ | refine C_skip ?_ | refine C_ret ?_ | refine C_exit ?_
        | refine Q_then_ret ?_ | refine Q_then_exit ?_ | refine Q_block ?_ | refine Q_block_ret ?_ | refine Q_block_here ?_ | refine Q_block_on rfl ?_ | refine C_scope ?_ | refine C_label ?_ | refine Q_asn ?_
    (refine C_region ?_
     <;> (first | refine M_int rfl ?_ | refine W_move ?_)
     <;> refine W_add rfl rfl (by first | exact inR_i64 (by omega) (by omega) | exact inR_u8 (by omega) (by omega) | exact inR_u16 (by omega) (by omega)) ?_
     <;> (refine M_assign ?_; (first | refine M_int rfl ?_ | refine W_move ?_))
     <;> refine W_nil ?_)
    repeat'
      first
        | refine Q_then ?_ | refine C_cond_t rfl ?_ | refine C_cond_f rfl ?_ | refine C_seq ?_ | refine C_block ?_ | refine C_skip ?_ | refine C_ret ?_ | refine C_exit ?_
        | refine Q_then_ret ?_ | refine Q_then_exit ?_ | refine Q_block ?_ | refine Q_block_ret ?_ | refine Q_block_here ?_ | refine Q_block_on rfl ?_ | refine C_scope ?_ | refine C_label ?_ | refine Q_asn ?_
    have hpre : (cat (rs.take (x + 1))).length ≤ 3090 := by
      have := congrArg (fun l => (cat l).length) (List.take_append_drop (x + 1) rs)
      simp only [cat_append, List.length_append] at this
      omega
    exact ⟨(x + 1, .slice ya (cat (rs.take (x + 1))).length yc, cat (rs.take (x + 1))), ⟨rfl, ⟨rfl, rfl, rfl, rfl, rfl, trivial⟩, ⟨hxr, kx.trans k9, kj.trans k9, ownsRow_mono o9 (Nat.zero_le _), hpre,
      recs_cat_self (fun r hr => hok r (List.mem_of_mem_take hr)) (by simp; omega)⟩⟩, by omega⟩
  repeat'
    first
      | refine Q_then ?_ | refine C_cond_t rfl ?_ | refine C_cond_f rfl ?_ | refine C_seq ?_ | refine C_block ?_ | refine C_skip ?_ | refine C_ret ?_ | refine C_exit ?_
      | refine Q_then_ret ?_ | refine Q_then_exit ?_ | refine Q_block ?_ | refine Q_block_ret ?_ | refine Q_block_here ?_ | refine Q_block_on rfl ?_ | refine C_scope ?_ | refine C_label ?_ | refine Q_asn ?_
  obtain rfl : x = rs.length := by omega
  rw [List.take_length] at hrX
  have hXj := (recs_cat 500 X).1
  rw [hrX] at hXj
  dsimp only at hXj
  have hXl := recs_le 500 X
  rw [hrX] at hXl
  dsimp only at hXl
  (refine C_region ?_
   <;> (first | refine M_slice rfl ?_ | refine W_move ?_))
  -- at operation 1: <dst=(some 71) op=(call <callee=(value (func 15)) args=[(tmp 70)] argTypes=[24]>) type=32 guard=none>
  refine W_call (Records_any _ X _ (own_bytes ox rfl)) rfl ?_
  rintro _ w9 ⟨nv, rfl, hn, k9⟩
  rw [hrX] at hn
  dsimp only at hn
  simp only [hrX]
  obtain ⟨na, nc, rfl, _⟩ := hn.LB.form
  replace ox := ownsRow_ext ox k9
  replace oj := ownsRow_ext oj k9
  have hxc := (own_bytes ox rfl).len
  ((first | refine M_tuple rfl ?_ | refine W_move ?_)
   <;> refine W_extract rfl rfl ?_
   <;> refine W_extract rfl rfl ?_
   <;> (refine M_assign ?_; (first | refine M_slice rfl ?_ | refine W_move ?_))
   <;> (refine M_assign ?_; (first | refine M_int rfl ?_ | refine W_move ?_))
   <;> refine W_nil ?_)
  repeat'
    first
      | refine Q_then ?_ | refine C_cond_t rfl ?_ | refine C_cond_f rfl ?_ | refine C_seq ?_ | refine C_block ?_ | refine C_skip ?_ | refine C_ret ?_ | refine C_exit ?_
      | refine Q_then_ret ?_ | refine Q_then_exit ?_ | refine Q_block ?_ | refine Q_block_ret ?_ | refine Q_block_here ?_ | refine Q_block_on rfl ?_ | refine C_scope ?_ | refine C_label ?_ | refine Q_asn ?_
  (refine C_region ?_
   <;> (first | refine M_bool rfl ?_ | refine W_move ?_)
   <;> (first | refine M_bool rfl ?_ | refine W_move ?_)
   <;> (first | refine W_no rfl ?_ | (refine W_yes rfl ?_; (first | refine M_int rfl ?_ | refine W_move ?_)))
   <;> (first | refine W_no rfl ?_ | (refine W_yes rfl ?_; (first | refine M_slice rfl ?_ | refine W_move ?_)))
   <;> (first | refine W_no rfl ?_ | (refine W_yes rfl ?_; refine W_len rfl ?_))
   <;> (first | refine W_no rfl ?_ | (refine W_yes rfl ?_; (refine W_leq rfl rfl (fun hc => ?_) (fun hc => ?_) <;> try (exfalso; omega))))
   <;> ((first | refine M_pick_t rfl ?_ | refine M_pick_f rfl ?_); (first | refine M_bool rfl ?_ | refine W_move ?_))
   <;> (first | refine M_bool rfl ?_ | refine W_move ?_)
   <;> (first | refine W_no rfl ?_ | (refine W_yes rfl ?_; (first | refine M_slice rfl ?_ | refine W_move ?_)))
   <;> (first | refine W_no rfl ?_ | (refine W_yes rfl ?_; (first | refine M_int rfl ?_ | refine W_move ?_)))
   <;> (first | refine W_no rfl ?_ | (refine W_yes rfl ?_; refine W_slice_h rfl rfl (by omega) (by omega) ?_))
   <;> (first | refine W_no rfl ?_ | (refine W_yes rfl ?_; (first | refine M_slice rfl ?_ | refine W_move ?_))))
  -- at operation 12: <dst=(some 86) op=(call <callee=(value (func 17)) args=[(tmp 84), (tmp 85)] argTypes=[24, 24]>) type=4 guard=(some [7, true])>
  refine W_yes rfl ?_
  have hb := (own_bytes ox rfl).take (cat rs).length hXl
  rw [hXj] at hb
  refine W_call (Bytes_any _ _ (cat rs) (cat rs) _ hb (own_bytes oj rfl)) rfl ?_
  rintro _ w10 ⟨rfl, k10⟩
  rw [beq_self_eq_true]
  (((first | refine M_pick_t rfl ?_ | refine M_pick_f rfl ?_); (first | refine M_bool rfl ?_ | refine W_move ?_))
   <;> (refine M_assign ?_; (first | refine M_bool rfl ?_ | refine W_move ?_))
   <;> refine W_nil ?_)
  repeat'
    first
      | refine Q_then ?_ | refine C_cond_t rfl ?_ | refine C_cond_f rfl ?_ | refine C_seq ?_ | refine C_block ?_ | refine C_skip ?_ | refine C_ret ?_ | refine C_exit ?_
      | refine Q_then_ret ?_ | refine Q_then_exit ?_ | refine Q_block ?_ | refine Q_block_ret ?_ | refine Q_block_here ?_ | refine Q_block_on rfl ?_ | refine C_scope ?_ | refine C_label ?_ | refine Q_asn ?_
  exact fin_ret1 rfl ⟨rfl, (kx.trans k9).trans k10⟩
end Go.Proofs.Ytfbahfibgmdlnaa
