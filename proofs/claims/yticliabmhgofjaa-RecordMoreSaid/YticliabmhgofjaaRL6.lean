/- Records: a further name. Conditions: none. -/
import Derived.Test.YticliabmhgofjaaRQ
namespace Go.Proofs.Yticliabmhgofjaa
open Go.RowKit
set_option linter.unusedVariables false


theorem count_take {r : List Int} {k : Nat} (hk : k < r.length) (p : Int → Bool) : ((r.take (k + 1)).filter p).length = ((r.take k).filter p).length + if p r[k] then 1 else 0 := by
  rw [List.take_succ_eq_append_getElem hk, List.filter_append, List.length_append]
  congr 1
  cases h : p r[k] <;> simp [h]
theorem filter_both (r : List Int) (p : Int → Bool) : (r.filter fun x => !p x).length + (r.filter p).length = r.length := by
  induction r with
  | nil => rfl
  | cons x r ih =>
    rw [List.filter_cons, List.filter_cons]
    cases p x <;> simp <;> omega
theorem Ints.take {w : World} {a : Option Addr} {n c : Nat} {l : List Int} (h : Ints w (.slice a n c) l) {j : Nat} (hj : j ≤ l.length) : Ints w (.slice a j c) (l.take j) := by
  obtain ⟨a', c', e, h1, h2, h3, h4⟩ := h
  cases e
  have hlt : (l.take j).length = j := by simp; omega
  refine ⟨a, c, by rw [hlt], by omega, h2, h3, ?_⟩
  rcases h4 with h4 | ⟨b, off, rfl, hb, hc⟩
  · left; omega
  · right
    refine ⟨b, off, rfl, hb, fun i u hu => hc i u ?_⟩
    simp only [intC, List.map_take, List.getElem?_take] at hu
    split at hu
    · exact hu
    · cases hu
theorem Ints.drop {w : World} {a : Option Addr} {n c : Nat} {l : List Int} (h : Ints w (.slice a n c) l) {j : Nat} (hj : j ≤ l.length) (hp : 0 < l.length) : Ints w (.slice (adv c j 1 a) (l.length - j) (c - j)) (l.drop j) := by
  obtain ⟨a', c', e, h1, h2, h3, h4⟩ := h
  cases e
  refine ⟨_, _, by rw [List.length_drop], by rw [List.length_drop]; omega, by omega, fun hn => ?_, ?_⟩
  · unfold adv at hn
    split at hn
    · omega
    · cases a with
      | none => have := h3 rfl; omega
      | some a => simp at hn
  · rcases h4 with h4 | ⟨b, off, rfl, hb, hc⟩
    · omega
    · by_cases hcj : c = j
      · left; rw [List.length_drop]; omega
      · right
        refine ⟨b, off + j, by unfold adv; rw [if_neg hcj]; simp [Addr.add_lit], hb, fun i u hu => ?_⟩
        rw [Nat.add_assoc]
        refine hc (j + i) u ?_
        simpa [intC, List.map_drop] using hu


theorem RecordMore_law (v g b : Value) (r : List Int) (e : Evt) (w : World) (h : Ints w v r) (he : EvAt w g b e) :
    Fn Try.prog 7 [v, .agg #[g, b]] w fun v w' => v = .bool true ∧ Ext w w' := by
  obtain ⟨a, c, rfl, hlc, hc0, hx⟩ := h.form
  obtain ⟨ga, gc, rfl, _⟩ := he.1.form
  obtain ⟨ba, bc, rfl, _⟩ := he.2.form
  refine fn_of_wc Try.func7 rfl Try.ntmps7 (Nat.le_of_ble_eq_true rfl) (by kernel_rfl) ?_
  repeat'
    first
      | refine Q_then ?_ | refine C_cond_t rfl ?_ | refine C_cond_f rfl ?_ | refine C_seq ?_ | refine C_block ?_ | refine C_skip ?_ | refine C_ret ?_ | refine C_exit ?_
      | refine Q_then_ret ?_ | refine Q_then_exit ?_ | refine Q_block ?_ | refine Q_block_ret ?_ | refine Q_block_here ?_ | refine Q_block_on rfl ?_ | refine C_scope ?_ | refine C_label ?_ | refine Q_asn ?_
  refine C_region ?_
  refine W_box (L := [.slice ga e.good.length gc, .slice ba e.bad.length bc]) rfl (fun w1 n1 => ?_)
  have b1 := n1.blk
  have k1 := n1.keep
  clear n1
  generalize w.heap.size = pe at *
  ((refine M_assign ?_; (first | refine M_bool rfl ?_ | refine W_move ?_))
   <;> refine W_nil ?_)
  repeat'
    first
      | refine Q_then ?_ | refine C_cond_t rfl ?_ | refine C_cond_f rfl ?_ | refine C_seq ?_ | refine C_block ?_ | refine C_skip ?_ | refine C_ret ?_ | refine C_exit ?_
      | refine Q_then_ret ?_ | refine Q_then_exit ?_ | refine Q_block ?_ | refine Q_block_ret ?_ | refine Q_block_here ?_ | refine Q_block_on rfl ?_ | refine C_scope ?_ | refine C_label ?_ | refine Q_asn ?_
  (refine C_region ?_)
  -- at operation 0: <dst=(some 14) op=(call <callee=(value (func 9)) args=[] argTypes=[]>) type=4 guard=none>
  refine W_call (head_any _) rfl ?_
  rintro _ w2 ⟨rfl, k2⟩
  replace b1 := b1.keep k2 (by simp)
  replace k1 := k1.trans k2
  clear k2
  ((refine M_assign ?_; (first | refine M_bool rfl ?_ | refine W_move ?_))
   <;> refine W_nil ?_)
  repeat'
    first
      | refine Q_then ?_ | refine C_cond_t rfl ?_ | refine C_cond_f rfl ?_ | refine C_seq ?_ | refine C_block ?_ | refine C_skip ?_ | refine C_ret ?_ | refine C_exit ?_
      | refine Q_then_ret ?_ | refine Q_then_exit ?_ | refine Q_block ?_ | refine Q_block_ret ?_ | refine Q_block_here ?_ | refine Q_block_on rfl ?_ | refine C_scope ?_ | refine C_label ?_ | refine Q_asn ?_
  (refine C_region ?_
   <;> (first | refine M_slice rfl ?_ | refine W_move ?_)
   <;> refine W_len rfl ?_
   <;> (refine M_assign ?_; (first | refine M_int rfl ?_ | refine W_move ?_))
   <;> refine W_nil ?_)
  repeat'
    first
      | refine Q_then ?_ | refine C_cond_t rfl ?_ | refine C_cond_f rfl ?_ | refine C_seq ?_ | refine C_block ?_ | refine C_skip ?_ | refine C_ret ?_ | refine C_exit ?_
      | refine Q_then_ret ?_ | refine Q_then_exit ?_ | refine Q_block ?_ | refine Q_block_ret ?_ | refine Q_block_here ?_ | refine Q_block_on rfl ?_ | refine C_scope ?_ | refine C_label ?_ | refine Q_asn ?_
  (refine C_region ?_
   <;> (first | refine M_int rfl ?_ | refine W_move ?_)
   <;> (refine W_gtr rfl rfl (fun hc => ?_) (fun hc => ?_) <;> try (exfalso; omega))
   <;> (first | refine M_bool rfl ?_ | refine W_move ?_)
   <;> (first | refine W_no rfl ?_ | (refine W_yes rfl ?_; (first | refine W_load_aggB rfl (by assumption) (by rfl) ?_ | refine W_load_agg rfl (by rfl) (Blk.cells (by assumption)) ?_))))
  -- at operation 4: <dst=(some 21) op=(call <callee=(value (func 10)) args=[(tmp 20)] argTypes=[24]>) type=4 guard=(some [2, false])>
  · refine W_no rfl ?_
    ((first | refine W_no rfl ?_ | (refine W_yes rfl ?_; refine W_not rfl ?_))
     <;> ((first | refine M_pick_t rfl ?_ | refine M_pick_f rfl ?_); (first | refine M_bool rfl ?_ | refine W_move ?_))
     <;> (first | refine M_bool rfl ?_ | refine W_move ?_)
     <;> (first | refine W_no rfl ?_ | (refine W_yes rfl ?_; (first | refine M_slice rfl ?_ | refine W_move ?_)))
     <;> (first | refine W_no rfl ?_ | (refine W_yes rfl ?_; (first | refine M_int rfl ?_ | refine W_move ?_)))
     <;> refine W_no rfl ?_
     <;> (first | refine W_no rfl ?_ | (refine W_yes rfl ?_; refine W_not rfl ?_))
     <;> ((first | refine M_pick_t rfl ?_ | refine M_pick_f rfl ?_); (first | refine M_bool rfl ?_ | refine W_move ?_))
     <;> (first | refine M_bool rfl ?_ | refine W_move ?_)
     <;> (first | refine W_no rfl ?_ | (refine W_yes rfl ?_; refine W_fieldAddr rfl ?_))
     <;> (first | refine W_no rfl ?_ | (refine W_yes rfl ?_; (first | refine W_load rfl (Blk.cell (by assumption) (by rfl)) ?_ | refine W_load rfl (by assumption) ?_)))
     <;> (first | refine W_no rfl ?_ | (refine W_yes rfl ?_; (first | refine M_int rfl ?_ | refine W_move ?_)))
     <;> (first | refine W_no rfl ?_ | (refine W_yes rfl ?_; refine W_add rfl rfl (by first | exact inR_i64 (by omega) (by omega) | exact inR_u8 (by omega) (by omega) | exact inR_u16 (by omega) (by omega)) ?_))
     <;> refine W_no rfl ?_
     <;> ((first | refine M_pick_t rfl ?_ | refine M_pick_f rfl ?_); (first | refine M_bool rfl ?_ | refine W_move ?_))
     <;> (first | refine M_bool rfl ?_ | refine W_move ?_)
     <;> (first | refine W_no rfl ?_ | (refine W_yes rfl ?_; refine W_fieldAddr rfl ?_))
     <;> (first | refine W_no rfl ?_ | (refine W_yes rfl ?_; (first | refine W_load rfl (Blk.cell (by assumption) (by rfl)) ?_ | refine W_load rfl (by assumption) ?_)))
     <;> (first | refine W_no rfl ?_ | (refine W_yes rfl ?_; (first | refine M_int rfl ?_ | refine W_move ?_)))
     <;> (first | refine W_no rfl ?_ | (refine W_yes rfl ?_; refine W_add rfl rfl (by first | exact inR_i64 (by omega) (by omega) | exact inR_u8 (by omega) (by omega) | exact inR_u16 (by omega) (by omega)) ?_))
     <;> refine W_no rfl ?_
     <;> ((first | refine M_pick_t rfl ?_ | refine M_pick_f rfl ?_); (first | refine M_bool rfl ?_ | refine W_move ?_))
     <;> refine W_nil ?_)
    repeat'
      first
        | refine Q_then ?_ | refine C_cond_t rfl ?_ | refine C_cond_f rfl ?_ | refine C_seq ?_ | refine C_block ?_ | refine C_skip ?_ | refine C_ret ?_ | refine C_exit ?_
        | refine Q_then_ret ?_ | refine Q_then_exit ?_ | refine Q_block ?_ | refine Q_block_ret ?_ | refine Q_block_here ?_ | refine Q_block_on rfl ?_ | refine C_scope ?_ | refine C_label ?_ | refine Q_asn ?_
    (refine C_region ?_
     <;> (first | refine M_bool rfl ?_ | refine W_move ?_)
     <;> (refine M_assign ?_; (first | refine M_bool rfl ?_ | refine W_move ?_))
     <;> refine W_nil ?_)
    repeat'
      first
        | refine Q_then ?_ | refine C_cond_t rfl ?_ | refine C_cond_f rfl ?_ | refine C_seq ?_ | refine C_block ?_ | refine C_skip ?_ | refine C_ret ?_ | refine C_exit ?_
        | refine Q_then_ret ?_ | refine Q_then_exit ?_ | refine Q_block ?_ | refine Q_block_ret ?_ | refine Q_block_here ?_ | refine Q_block_on rfl ?_ | refine C_scope ?_ | refine C_label ?_ | refine Q_asn ?_
    exact fin_ret1 rfl ⟨rfl, k1⟩
  refine W_yes rfl ?_
  refine W_call (Short_any _ _ e _ (he.keep k1)) rfl ?_
  rintro _ w3 ⟨rfl, k3⟩
  replace b1 := b1.keep k3 (by simp)
  replace k1 := k1.trans k3
  clear k3
  cases hs : shortE e with
  | false =>
    ((first | refine W_no rfl ?_ | (refine W_yes rfl ?_; refine W_not rfl ?_))
     <;> ((first | refine M_pick_t rfl ?_ | refine M_pick_f rfl ?_); (first | refine M_bool rfl ?_ | refine W_move ?_))
     <;> (first | refine M_bool rfl ?_ | refine W_move ?_)
     <;> (first | refine W_no rfl ?_ | (refine W_yes rfl ?_; (first | refine M_slice rfl ?_ | refine W_move ?_)))
     <;> (first | refine W_no rfl ?_ | (refine W_yes rfl ?_; (first | refine M_int rfl ?_ | refine W_move ?_)))
     <;> refine W_no rfl ?_
     <;> (first | refine W_no rfl ?_ | (refine W_yes rfl ?_; refine W_not rfl ?_))
     <;> ((first | refine M_pick_t rfl ?_ | refine M_pick_f rfl ?_); (first | refine M_bool rfl ?_ | refine W_move ?_))
     <;> (first | refine M_bool rfl ?_ | refine W_move ?_)
     <;> (first | refine W_no rfl ?_ | (refine W_yes rfl ?_; refine W_fieldAddr rfl ?_))
     <;> (first | refine W_no rfl ?_ | (refine W_yes rfl ?_; (first | refine W_load rfl (Blk.cell (by assumption) (by rfl)) ?_ | refine W_load rfl (by assumption) ?_)))
     <;> (first | refine W_no rfl ?_ | (refine W_yes rfl ?_; (first | refine M_int rfl ?_ | refine W_move ?_)))
     <;> (first | refine W_no rfl ?_ | (refine W_yes rfl ?_; refine W_add rfl rfl (by first | exact inR_i64 (by omega) (by omega) | exact inR_u8 (by omega) (by omega) | exact inR_u16 (by omega) (by omega)) ?_))
     <;> refine W_no rfl ?_
     <;> ((first | refine M_pick_t rfl ?_ | refine M_pick_f rfl ?_); (first | refine M_bool rfl ?_ | refine W_move ?_))
     <;> (first | refine M_bool rfl ?_ | refine W_move ?_)
     <;> (first | refine W_no rfl ?_ | (refine W_yes rfl ?_; refine W_fieldAddr rfl ?_))
     <;> (first | refine W_no rfl ?_ | (refine W_yes rfl ?_; (first | refine W_load rfl (Blk.cell (by assumption) (by rfl)) ?_ | refine W_load rfl (by assumption) ?_)))
     <;> (first | refine W_no rfl ?_ | (refine W_yes rfl ?_; (first | refine M_int rfl ?_ | refine W_move ?_)))
     <;> (first | refine W_no rfl ?_ | (refine W_yes rfl ?_; refine W_add rfl rfl (by first | exact inR_i64 (by omega) (by omega) | exact inR_u8 (by omega) (by omega) | exact inR_u16 (by omega) (by omega)) ?_))
     <;> refine W_no rfl ?_
     <;> ((first | refine M_pick_t rfl ?_ | refine M_pick_f rfl ?_); (first | refine M_bool rfl ?_ | refine W_move ?_))
     <;> refine W_nil ?_)
    repeat'
      first
        | refine Q_then ?_ | refine C_cond_t rfl ?_ | refine C_cond_f rfl ?_ | refine C_seq ?_ | refine C_block ?_ | refine C_skip ?_ | refine C_ret ?_ | refine C_exit ?_
        | refine Q_then_ret ?_ | refine Q_then_exit ?_ | refine Q_block ?_ | refine Q_block_ret ?_ | refine Q_block_here ?_ | refine Q_block_on rfl ?_ | refine C_scope ?_ | refine C_label ?_ | refine Q_asn ?_
    (refine C_region ?_
     <;> (first | refine M_bool rfl ?_ | refine W_move ?_)
     <;> (refine M_assign ?_; (first | refine M_bool rfl ?_ | refine W_move ?_))
     <;> refine W_nil ?_)
    repeat'
      first
        | refine Q_then ?_ | refine C_cond_t rfl ?_ | refine C_cond_f rfl ?_ | refine C_seq ?_ | refine C_block ?_ | refine C_skip ?_ | refine C_ret ?_ | refine C_exit ?_
        | refine Q_then_ret ?_ | refine Q_then_exit ?_ | refine Q_block ?_ | refine Q_block_ret ?_ | refine Q_block_here ?_ | refine Q_block_on rfl ?_ | refine C_scope ?_ | refine C_label ?_ | refine Q_asn ?_
    exact fin_ret1 rfl ⟨rfl, k1⟩
  | true =>
  ((first | refine W_no rfl ?_ | (refine W_yes rfl ?_; refine W_not rfl ?_))
   <;> ((first | refine M_pick_t rfl ?_ | refine M_pick_f rfl ?_); (first | refine M_bool rfl ?_ | refine W_move ?_))
   <;> (first | refine M_bool rfl ?_ | refine W_move ?_)
   <;> (first | refine W_no rfl ?_ | (refine W_yes rfl ?_; (first | refine M_slice rfl ?_ | refine W_move ?_)))
   <;> (first | refine W_no rfl ?_ | (refine W_yes rfl ?_; (first | refine M_int rfl ?_ | refine W_move ?_))))
  -- at operation 10: <dst=(some 27) op=(call <callee=(value (func 18)) args=[(tmp 25), (tmp 26)] argTypes=[22, 3]>) type=4 guard=(some [7, false])>
  refine W_yes rfl ?_
  refine W_call (refValid_any _ r _ _ (h.keep k1)) rfl ?_
  rintro _ w4 ⟨rfl, k4⟩
  replace b1 := b1.keep k4 (by simp)
  replace k1 := k1.trans k4
  clear k4
  cases hv : validL r r.length with
  | false =>
    ((first | refine W_no rfl ?_ | (refine W_yes rfl ?_; refine W_not rfl ?_))
     <;> ((first | refine M_pick_t rfl ?_ | refine M_pick_f rfl ?_); (first | refine M_bool rfl ?_ | refine W_move ?_))
     <;> (first | refine M_bool rfl ?_ | refine W_move ?_)
     <;> (first | refine W_no rfl ?_ | (refine W_yes rfl ?_; refine W_fieldAddr rfl ?_))
     <;> (first | refine W_no rfl ?_ | (refine W_yes rfl ?_; (first | refine W_load rfl (Blk.cell (by assumption) (by rfl)) ?_ | refine W_load rfl (by assumption) ?_)))
     <;> (first | refine W_no rfl ?_ | (refine W_yes rfl ?_; (first | refine M_int rfl ?_ | refine W_move ?_)))
     <;> (first | refine W_no rfl ?_ | (refine W_yes rfl ?_; refine W_add rfl rfl (by first | exact inR_i64 (by omega) (by omega) | exact inR_u8 (by omega) (by omega) | exact inR_u16 (by omega) (by omega)) ?_))
     <;> refine W_no rfl ?_
     <;> ((first | refine M_pick_t rfl ?_ | refine M_pick_f rfl ?_); (first | refine M_bool rfl ?_ | refine W_move ?_))
     <;> (first | refine M_bool rfl ?_ | refine W_move ?_)
     <;> (first | refine W_no rfl ?_ | (refine W_yes rfl ?_; refine W_fieldAddr rfl ?_))
     <;> (first | refine W_no rfl ?_ | (refine W_yes rfl ?_; (first | refine W_load rfl (Blk.cell (by assumption) (by rfl)) ?_ | refine W_load rfl (by assumption) ?_)))
     <;> (first | refine W_no rfl ?_ | (refine W_yes rfl ?_; (first | refine M_int rfl ?_ | refine W_move ?_)))
     <;> (first | refine W_no rfl ?_ | (refine W_yes rfl ?_; refine W_add rfl rfl (by first | exact inR_i64 (by omega) (by omega) | exact inR_u8 (by omega) (by omega) | exact inR_u16 (by omega) (by omega)) ?_))
     <;> refine W_no rfl ?_
     <;> ((first | refine M_pick_t rfl ?_ | refine M_pick_f rfl ?_); (first | refine M_bool rfl ?_ | refine W_move ?_))
     <;> refine W_nil ?_)
    repeat'
      first
        | refine Q_then ?_ | refine C_cond_t rfl ?_ | refine C_cond_f rfl ?_ | refine C_seq ?_ | refine C_block ?_ | refine C_skip ?_ | refine C_ret ?_ | refine C_exit ?_
        | refine Q_then_ret ?_ | refine Q_then_exit ?_ | refine Q_block ?_ | refine Q_block_ret ?_ | refine Q_block_here ?_ | refine Q_block_on rfl ?_ | refine C_scope ?_ | refine C_label ?_ | refine Q_asn ?_
    (refine C_region ?_
     <;> (first | refine M_bool rfl ?_ | refine W_move ?_)
     <;> (refine M_assign ?_; (first | refine M_bool rfl ?_ | refine W_move ?_))
     <;> refine W_nil ?_)
    repeat'
      first
        | refine Q_then ?_ | refine C_cond_t rfl ?_ | refine C_cond_f rfl ?_ | refine C_seq ?_ | refine C_block ?_ | refine C_skip ?_ | refine C_ret ?_ | refine C_exit ?_
        | refine Q_then_ret ?_ | refine Q_then_exit ?_ | refine Q_block ?_ | refine Q_block_ret ?_ | refine Q_block_here ?_ | refine Q_block_on rfl ?_ | refine C_scope ?_ | refine C_label ?_ | refine Q_asn ?_
    exact fin_ret1 rfl ⟨rfl, k1⟩
  | true =>
  ((first | refine W_no rfl ?_ | (refine W_yes rfl ?_; refine W_not rfl ?_))
   <;> ((first | refine M_pick_t rfl ?_ | refine M_pick_f rfl ?_); (first | refine M_bool rfl ?_ | refine W_move ?_))
   <;> (first | refine M_bool rfl ?_ | refine W_move ?_)
   <;> (first | refine W_no rfl ?_ | (refine W_yes rfl ?_; refine W_fieldAddr rfl ?_))
   <;> (first | refine W_no rfl ?_ | (refine W_yes rfl ?_; (first | refine W_load rfl (Blk.cell (by assumption) (by rfl)) ?_ | refine W_load rfl (by assumption) ?_)))
   <;> (first | refine W_no rfl ?_ | (refine W_yes rfl ?_; (first | refine M_int rfl ?_ | refine W_move ?_)))
   <;> (first | refine W_no rfl ?_ | (refine W_yes rfl ?_; refine W_add rfl rfl (by first | exact inR_i64 (by omega) (by omega) | exact inR_u8 (by omega) (by omega) | exact inR_u16 (by omega) (by omega)) ?_)))
  -- at operation 18: <dst=(some 35) op=(call <callee=(value (func 22)) args=[(tmp 32), (tmp 34)] argTypes=[22, 3]>) type=4 guard=(some [13, false])>
  refine W_yes rfl ?_
  refine W_call (In_any _ e.good _ _ (he.1.keep k1)) rfl ?_
  rintro _ w5 ⟨rfl, rfl⟩
  cases hzg : e.good.contains ((r.length : Int) + 1) with
  | true =>
    (((first | refine M_pick_t rfl ?_ | refine M_pick_f rfl ?_); (first | refine M_bool rfl ?_ | refine W_move ?_))
     <;> (first | refine M_bool rfl ?_ | refine W_move ?_)
     <;> (first | refine W_no rfl ?_ | (refine W_yes rfl ?_; refine W_fieldAddr rfl ?_))
     <;> (first | refine W_no rfl ?_ | (refine W_yes rfl ?_; (first | refine W_load rfl (Blk.cell (by assumption) (by rfl)) ?_ | refine W_load rfl (by assumption) ?_)))
     <;> (first | refine W_no rfl ?_ | (refine W_yes rfl ?_; (first | refine M_int rfl ?_ | refine W_move ?_)))
     <;> (first | refine W_no rfl ?_ | (refine W_yes rfl ?_; refine W_add rfl rfl (by first | exact inR_i64 (by omega) (by omega) | exact inR_u8 (by omega) (by omega) | exact inR_u16 (by omega) (by omega)) ?_))
     <;> refine W_no rfl ?_
     <;> ((first | refine M_pick_t rfl ?_ | refine M_pick_f rfl ?_); (first | refine M_bool rfl ?_ | refine W_move ?_))
     <;> refine W_nil ?_)
    repeat'
      first
        | refine Q_then ?_ | refine C_cond_t rfl ?_ | refine C_cond_f rfl ?_ | refine C_seq ?_ | refine C_block ?_ | refine C_skip ?_ | refine C_ret ?_ | refine C_exit ?_
        | refine Q_then_ret ?_ | refine Q_then_exit ?_ | refine Q_block ?_ | refine Q_block_ret ?_ | refine Q_block_here ?_ | refine Q_block_on rfl ?_ | refine C_scope ?_ | refine C_label ?_ | refine Q_asn ?_
    (refine C_region ?_
     <;> (first | refine M_bool rfl ?_ | refine W_move ?_)
     <;> (refine M_assign ?_; (first | refine M_bool rfl ?_ | refine W_move ?_))
     <;> refine W_nil ?_)
    repeat'
      first
        | refine Q_then ?_ | refine C_cond_t rfl ?_ | refine C_cond_f rfl ?_ | refine C_seq ?_ | refine C_block ?_ | refine C_skip ?_ | refine C_ret ?_ | refine C_exit ?_
        | refine Q_then_ret ?_ | refine Q_then_exit ?_ | refine Q_block ?_ | refine Q_block_ret ?_ | refine Q_block_here ?_ | refine Q_block_on rfl ?_ | refine C_scope ?_ | refine C_label ?_ | refine Q_asn ?_
    exact fin_ret1 rfl ⟨rfl, k1⟩
  | false =>
  (((first | refine M_pick_t rfl ?_ | refine M_pick_f rfl ?_); (first | refine M_bool rfl ?_ | refine W_move ?_))
   <;> (first | refine M_bool rfl ?_ | refine W_move ?_)
   <;> (first | refine W_no rfl ?_ | (refine W_yes rfl ?_; refine W_fieldAddr rfl ?_))
   <;> (first | refine W_no rfl ?_ | (refine W_yes rfl ?_; (first | refine W_load rfl (Blk.cell (by assumption) (by rfl)) ?_ | refine W_load rfl (by assumption) ?_)))
   <;> (first | refine W_no rfl ?_ | (refine W_yes rfl ?_; (first | refine M_int rfl ?_ | refine W_move ?_)))
   <;> (first | refine W_no rfl ?_ | (refine W_yes rfl ?_; refine W_add rfl rfl (by first | exact inR_i64 (by omega) (by omega) | exact inR_u8 (by omega) (by omega) | exact inR_u16 (by omega) (by omega)) ?_)))
  -- at operation 25: <dst=(some 42) op=(call <callee=(value (func 22)) args=[(tmp 39), (tmp 41)] argTypes=[22, 3]>) type=4 guard=(some [20, false])>
  refine W_yes rfl ?_
  refine W_call (In_any _ e.bad _ _ (he.2.keep k1)) rfl ?_
  rintro _ w6 ⟨rfl, rfl⟩
  cases hzb : e.bad.contains ((r.length : Int) + 1) with
  | true =>
    (((first | refine M_pick_t rfl ?_ | refine M_pick_f rfl ?_); (first | refine M_bool rfl ?_ | refine W_move ?_))
     <;> refine W_nil ?_)
    repeat'
      first
        | refine Q_then ?_ | refine C_cond_t rfl ?_ | refine C_cond_f rfl ?_ | refine C_seq ?_ | refine C_block ?_ | refine C_skip ?_ | refine C_ret ?_ | refine C_exit ?_
        | refine Q_then_ret ?_ | refine Q_then_exit ?_ | refine Q_block ?_ | refine Q_block_ret ?_ | refine Q_block_here ?_ | refine Q_block_on rfl ?_ | refine C_scope ?_ | refine C_label ?_ | refine Q_asn ?_
    (refine C_region ?_
     <;> (first | refine M_bool rfl ?_ | refine W_move ?_)
     <;> (refine M_assign ?_; (first | refine M_bool rfl ?_ | refine W_move ?_))
     <;> refine W_nil ?_)
    repeat'
      first
        | refine Q_then ?_ | refine C_cond_t rfl ?_ | refine C_cond_f rfl ?_ | refine C_seq ?_ | refine C_block ?_ | refine C_skip ?_ | refine C_ret ?_ | refine C_exit ?_
        | refine Q_then_ret ?_ | refine Q_then_exit ?_ | refine Q_block ?_ | refine Q_block_ret ?_ | refine Q_block_here ?_ | refine Q_block_on rfl ?_ | refine C_scope ?_ | refine C_label ?_ | refine Q_asn ?_
    exact fin_ret1 rfl ⟨rfl, k1⟩
  | false =>
  replace hzb : badB e ((r.length : Int) + 1) = false := hzb
  (((first | refine M_pick_t rfl ?_ | refine M_pick_f rfl ?_); (first | refine M_bool rfl ?_ | refine W_move ?_))
   <;> refine W_nil ?_)
  repeat'
    first
      | refine Q_then ?_ | refine C_cond_t rfl ?_ | refine C_cond_f rfl ?_ | refine C_seq ?_ | refine C_block ?_ | refine C_skip ?_ | refine C_ret ?_ | refine C_exit ?_
      | refine Q_then_ret ?_ | refine Q_then_exit ?_ | refine Q_block ?_ | refine Q_block_ret ?_ | refine Q_block_here ?_ | refine Q_block_on rfl ?_ | refine C_scope ?_ | refine C_label ?_ | refine Q_asn ?_
  (refine C_region ?_
   <;> (first | refine M_slice rfl ?_ | refine W_move ?_)
   <;> (first | refine W_load_aggB rfl (by assumption) (by rfl) ?_ | refine W_load_agg rfl (by rfl) (Blk.cells (by assumption)) ?_))
  -- at operation 2: <dst=(some 48) op=(call <callee=(value (func 12)) args=[(tmp 46), (tmp 47)] argTypes=[22, 24]>) type=29 guard=none>
  refine W_call (Step_any _ _ _ r e _ (h.keep k1) (he.keep k1)) rfl ?_
  rintro _ w7 ⟨xv, rfl, o7, k7⟩
  rw [stepR_valid hv] at o7
  dsimp only at o7
  simp only [stepR_valid hv]
  obtain ⟨xa, xc, rfl⟩ := own_form o7
  replace o7 := Ints.own o7
  replace b1 := b1.keep k7 (by simp)
  replace k1 := k1.trans k7
  clear k7
  have hv1 := more_valid hv (by omega)
  have hv1 : validL (r ++ [(r.length : Int) + 1]) (r ++ [(r.length : Int) + 1]).length = true := by
    rw [show (((r ++ [(r.length : Int) + 1]).length : Nat) : Int) = (r.length : Int) + 1 by simp]; exact hv1
  have hp := more_prio (r := r) hzb hzg
  have hzr : (r.length : Int) + 1 ∉ r := fun hh => by have := ((validL_iff _ _).1 hv).2.2.2.1 _ hh; omega
  have hpp : prioT e (r ++ [(r.length : Int) + 1]) (r ++ [(r.length : Int) + 1]).length = prioT e (r ++ [(r.length : Int) + 1]) (r.length + 1) := by simp
  have hfb := filter_both r (badB e)
  have hsl := stepL_length r e
  have hst : stepL r e = r.filter (fun x => !badB e x) ++ r.filter (badB e) := rfl
  ((first | refine M_tuple rfl ?_ | refine W_move ?_)
   <;> refine W_extract rfl rfl ?_
   <;> refine W_extract rfl rfl ?_
   <;> (refine M_assign ?_; (first | refine M_slice rfl ?_ | refine W_move ?_))
   <;> (refine M_assign ?_; (first | refine M_int rfl ?_ | refine W_move ?_))
   <;> refine W_nil ?_)
  repeat'
    first
      | refine Q_then ?_ | refine C_cond_t rfl ?_ | refine C_cond_f rfl ?_ | refine C_seq ?_ | refine C_block ?_ | refine C_skip ?_ | refine C_ret ?_ | refine C_exit ?_
      | refine Q_then_ret ?_ | refine Q_then_exit ?_ | refine Q_block ?_ | refine Q_block_ret ?_ | refine Q_block_here ?_ | refine Q_block_on rfl ?_ | refine C_scope ?_ | refine C_label ?_ | refine Q_asn ?_
  have q0 := fun W' (hW' : Ext w7 W') => (b1.keep hW' (by simp)).cells
  refine C_drawN (.read 1 (.read 3 (.read 4 (.read 7 (.alt 0 (.alt 2 (.alt 5 (.alt 6 (.alt 8 (.read 9 (.read 10 (.read 11 (.read 12 (.read 13 .done))))) .stop) .stop) .stop) (.alt 5 (.alt 2 (.alt 6 (.alt 8 (.read 9 (.read 10 (.read 11 (.read 12 (.read 13 .done))))) .stop) .stop) .stop) .stop)) (.alt 5 (.alt 0 (.alt 2 (.alt 6 (.alt 8 (.read 9 (.read 10 (.read 11 (.read 12 (.read 13 .done))))) .stop) .stop) .stop) .stop) .stop)))))) mixed (by kernel_rfl) (fun wd kd ed => ⟨Ext w7, ?_, ?_⟩)
  · exact kd
  ((apply D_R rfl rfl; (intro W hW; (first | refine M_slice rfl ?_ | refine W_move ?_); exact W_nil ⟨rfl, rfl, rfl⟩))
   <;> (apply D_R rfl rfl; (intro W hW; (first | refine M_int rfl ?_ | refine W_move ?_); exact W_nil ⟨rfl, rfl, rfl⟩))
   <;> (apply D_R rfl rfl; (intro W hW; refine W_add rfl rfl (by first | exact inR_i64 (by omega) (by omega) | exact inR_u8 (by omega) (by omega) | exact inR_u16 (by omega) (by omega)) ?_; exact W_nil ⟨rfl, rfl, rfl⟩))
   <;> (apply D_R rfl rfl; (intro W hW; (first | refine W_load rfl (q0 W hW) ?_ | refine W_load_agg rfl (by rfl) (q0 W hW) ?_); exact W_nil ⟨rfl, rfl, rfl⟩)))
  -- at place 4, operation 0 of [0, 5]: <dst=(some 52) op=(buildSlice 22 0 []) type=22 guard=none>
  have zd := kd.size
  refine D_A rfl ?_ ?_
  · refine W_buildSlice1 (out := []) rfl (by omega) rfl rfl (fun V1 n1 => ?_)
    have z1 := n1.size
    have o1 := n1.own (n := 0) (size := 1) rfl (by unfold maxLen; omega) (Nat.le_refl _)
    have j1 := kd.trans n1.keep
    refine W_nil ⟨Ext w7, fun _ h => h, j1, ?_⟩
    refine D_A rfl ?_ ?_
    · refine W_append rfl rfl o1 (h.keep (k1.trans j1)) (by omega) rfl (by rw [intC_length]; omega) (oneC_int _) (by omega) (by omega) (by omega) (fun v2 V2 a2 => ?_)
      have j2 : Ext w7 V2 := j1.keep a2.keep fun x hx => by have := (o1.lt x (Option.mem_toList.1 hx)).1; omega
      obtain ⟨v2a, v2c, rfl⟩ := own_form a2.own
      refine W_nil ⟨Ext w7, fun _ h => h, j2, ?_⟩
      refine D_E rfl ?_
      refine W_buildSlice1 (out := [.int .i64 ((r.length : Int) + 1)]) rfl (by omega) rfl rfl (fun V3 n3 => ?_)
      have o3 := n3.own (n := 1) (size := 1) rfl (by unfold maxLen; omega) (Nat.le_refl _)
      have z3 := n3.size
      have z2 := j2.size
      have zz := a2.keep.size
      refine W_nil ⟨Ext w7, fun _ h => h, j2.trans n3.keep, ?_⟩
      refine D_E rfl ?_
      refine W_append rfl rfl (ownsRow_ext a2.own n3.keep) (Sl_of_own (ok := anyB) o3 fun _ _ => trivial) (by omega) rfl rfl (by intro u hu; simp at hu; subst hu; rfl) (by omega) (by omega) (by omega) (fun v6 W6 a6 => ?_)
      have k6 : Ext w7 W6 := (j2.trans n3.keep).keep a6.keep fun x hx => by have := (a2.own.lt x (Option.mem_toList.1 hx)).1; omega
      have o6 := a6.own
      generalize wd.heap.size = BB at o6
      have i6 : Ints W6 v6 (r ++ [(r.length : Int) + 1]) := Ints.own (B := BB) (by
        have e1 : 0 + r.length + 1 = (r ++ [(r.length : Int) + 1]).length := by simp
        have e2 : [] ++ intC r ++ [Value.int .i64 ((r.length : Int) + 1)] = intC (r ++ [(r.length : Int) + 1]) := by simp [intC]
        rw [← e2, ← e1]; exact o6)
      obtain ⟨va6, vc6, rfl, _⟩ := i6.form
      refine W_nil ⟨Ext w7, fun _ h => h, k6, ?_⟩
      refine D_E rfl ?_
      refine W_call (Step_any _ _ _ (r ++ [(r.length : Int) + 1]) e _ i6 (he.keep (k1.trans k6))) rfl ?_
      rintro _ w8 ⟨yv, rfl, o8, k8⟩
      rw [stepR_valid hv1, more_step hzb] at o8
      dsimp only at o8
      simp only [stepR_valid hv1, more_step hzb, hpp]
      obtain ⟨ya, yc, rfl⟩ := own_form o8
      replace o8 := Ints.own o8
      replace k8 := k6.trans k8
      refine W_nil ⟨Ext w7, fun _ h => h, k8, ?_⟩
      ((apply D_R rfl rfl; (intro W hW; (first | refine M_tuple rfl ?_ | refine W_move ?_); exact W_nil ⟨rfl, rfl, rfl⟩))
       <;> (apply D_R rfl rfl; (intro W hW; refine W_extract rfl rfl ?_; exact W_nil ⟨rfl, rfl, rfl⟩))
       <;> (apply D_R rfl rfl; (intro W hW; refine W_extract rfl rfl ?_; exact W_nil ⟨rfl, rfl, rfl⟩))
       <;> (apply D_R rfl rfl; (intro W hW; (refine M_assign ?_; (first | refine M_slice rfl ?_ | refine W_move ?_)); exact W_nil ⟨rfl, rfl, rfl⟩))
       <;> (apply D_R rfl rfl; (intro W hW; (refine M_assign ?_; (first | refine M_int rfl ?_ | refine W_move ?_)); exact W_nil ⟨rfl, rfl, rfl⟩))
       <;> refine D_nil ?_)
      clear i6 o6 k6 kd
      have k18 := k1.trans k8
      replace b1 := b1.keep k8 (by simp)
      replace o7 := o7.keep k8
      have hyl : (r.filter (fun x => !badB e x) ++ ((r.length : Int) + 1) :: r.filter (badB e)).length = r.length + 1 := by simp; omega
      rw [hyl] at o8 ⊢
      rw [hsl] at o7 ⊢
      repeat'
        first
          | refine Q_then ?_ | refine C_cond_t rfl ?_ | refine C_cond_f rfl ?_ | refine C_seq ?_ | refine C_block ?_ | refine C_skip ?_ | refine C_ret ?_ | refine C_exit ?_
          | refine Q_then_ret ?_ | refine Q_then_exit ?_ | refine Q_block ?_ | refine Q_block_ret ?_ | refine Q_block_here ?_ | refine Q_block_on rfl ?_ | refine C_scope ?_ | refine C_label ?_ | refine Q_asn ?_
      (refine C_region ?_
       <;> (first | refine M_slice rfl ?_ | refine W_move ?_)
       <;> refine W_len rfl ?_
       <;> (first | refine M_int rfl ?_ | refine W_move ?_)
       <;> (refine W_neq rfl rfl (fun hc => ?_) (fun hc => ?_) <;> try (exfalso; omega))
       <;> (first | refine M_bool rfl ?_ | refine W_move ?_)
       <;> (first | refine W_no rfl ?_ | (refine W_yes rfl ?_; (first | refine M_slice rfl ?_ | refine W_move ?_)))
       <;> (first | refine W_no rfl ?_ | (refine W_yes rfl ?_; refine W_len rfl ?_))
       <;> (first | refine W_no rfl ?_ | (refine W_yes rfl ?_; (first | refine M_int rfl ?_ | refine W_move ?_)))
       <;> (first | refine W_no rfl ?_ | (refine W_yes rfl ?_; refine W_add rfl rfl (by first | exact inR_i64 (by omega) (by omega) | exact inR_u8 (by omega) (by omega) | exact inR_u16 (by omega) (by omega)) ?_))
       <;> (first | refine W_no rfl ?_ | (refine W_yes rfl ?_; (refine W_neq rfl rfl (fun hc => ?_) (fun hc => ?_) <;> try (exfalso; omega))))
       <;> ((first | refine M_pick_t rfl ?_ | refine M_pick_f rfl ?_); (first | refine M_bool rfl ?_ | refine W_move ?_))
       <;> refine W_nil ?_)
      repeat'
        first
          | refine Q_then ?_ | refine C_cond_t rfl ?_ | refine C_cond_f rfl ?_ | refine C_seq ?_ | refine C_block ?_ | refine C_skip ?_ | refine C_ret ?_ | refine C_exit ?_
          | refine Q_then_ret ?_ | refine Q_then_exit ?_ | refine Q_block ?_ | refine Q_block_ret ?_ | refine Q_block_here ?_ | refine Q_block_on rfl ?_ | refine C_scope ?_ | refine C_label ?_ | refine Q_asn ?_
      (refine C_region ?_
       <;> (first | refine M_slice rfl ?_ | refine W_move ?_)
       <;> (first | refine M_int rfl ?_ | refine W_move ?_)
       <;> refine W_add rfl rfl (by first | exact inR_i64 (by omega) (by omega) | exact inR_u8 (by omega) (by omega) | exact inR_u16 (by omega) (by omega)) ?_)
      -- at operation 3: <dst=(some 77) op=(call <callee=(value (func 21)) args=[(tmp 74), (tmp 76)] argTypes=[22, 3]>) type=3 guard=none>
      refine W_call (position_any _ _ ((r.length : Int) + 1) _ o8) rfl ?_
      rintro _ w9 ⟨rfl, rfl⟩
      have hpz : posI (r.filter (fun x => !badB e x) ++ ((r.length : Int) + 1) :: r.filter (badB e)) ((r.length : Int) + 1) = ((r.filter (fun x => !badB e x)).length : Int) := by
        rw [posI_eq, if_pos (by simp), pos_append, if_neg (fun hh => hzr (List.mem_filter.1 hh).1), pos_cons, if_pos rfl]; simp
      rw [hpz]
      ((refine M_assign ?_; (first | refine M_int rfl ?_ | refine W_move ?_))
       <;> refine W_nil ?_)
      repeat'
        first
          | refine Q_then ?_ | refine C_cond_t rfl ?_ | refine C_cond_f rfl ?_ | refine C_seq ?_ | refine C_block ?_ | refine C_skip ?_ | refine C_ret ?_ | refine C_exit ?_
          | refine Q_then_ret ?_ | refine Q_then_exit ?_ | refine Q_block ?_ | refine Q_block_ret ?_ | refine Q_block_here ?_ | refine Q_block_on rfl ?_ | refine C_scope ?_ | refine C_label ?_ | refine Q_asn ?_
      (refine C_region ?_
       <;> (refine M_assign ?_; (first | refine M_int rfl ?_ | refine W_move ?_))
       <;> refine W_nil ?_)
      repeat'
        first
          | refine Q_then ?_ | refine C_cond_t rfl ?_ | refine C_cond_f rfl ?_ | refine C_seq ?_ | refine C_block ?_ | refine C_skip ?_ | refine C_ret ?_ | refine C_exit ?_
          | refine Q_then_ret ?_ | refine Q_then_exit ?_ | refine Q_block ?_ | refine Q_block_ret ?_ | refine Q_block_here ?_ | refine Q_block_on rfl ?_ | refine C_scope ?_ | refine C_label ?_ | refine Q_asn ?_
      (refine C_region ?_
       <;> (refine M_assign ?_; (first | refine M_int rfl ?_ | refine W_move ?_))
       <;> refine W_nil ?_)
      repeat'
        first
          | refine Q_then ?_ | refine C_cond_t rfl ?_ | refine C_cond_f rfl ?_ | refine C_seq ?_ | refine C_block ?_ | refine C_skip ?_ | refine C_ret ?_ | refine C_exit ?_
          | refine Q_then_ret ?_ | refine Q_then_exit ?_ | refine Q_block ?_ | refine Q_block_ret ?_ | refine Q_block_here ?_ | refine Q_block_on rfl ?_ | refine C_scope ?_ | refine C_label ?_ | refine Q_asn ?_
      generalize hF : r.filter (fun x => !badB e x) = F at *
      generalize hG : r.filter (badB e) = G at *
      refine C_loop (α := Nat) (fun k => [(0, .slice a r.length c), (3, .pointer (some ⟨pe, 0, none⟩)), (5, .bool true), (6, .int .i64 r.length), (7, .slice xa r.length xc), (8, .int .i64 (prioT e r r.length)), (9, .slice ya (r.length + 1) yc), (10, .int .i64 (prioT e (r ++ [(r.length : Int) + 1]) (r.length + 1))), (11, .int .i64 F.length), (12, .int .i64 ((r.take k).filter (badB e)).length), (13, .int .i64 k)])
        (fun k W => k ≤ r.length ∧ Ext w9 W) (fun k => r.length - k) 0 ⟨rfl, rfl, rfl, rfl, rfl, rfl, rfl, rfl, rfl, rfl, rfl, trivial⟩ ⟨by omega, Ext.refl _⟩ ?_
      rintro k W f' ⟨hk, hW⟩
      repeat'
        first
          | refine Q_then ?_ | refine C_cond_t rfl ?_ | refine C_cond_f rfl ?_ | refine C_seq ?_ | refine C_block ?_ | refine C_skip ?_ | refine C_ret ?_ | refine C_exit ?_
          | refine Q_then_ret ?_ | refine Q_then_exit ?_ | refine Q_block ?_ | refine Q_block_ret ?_ | refine Q_block_here ?_ | refine Q_block_on rfl ?_ | refine C_scope ?_ | refine C_label ?_ | refine Q_asn ?_
      (refine C_region ?_
       <;> (first | refine M_int rfl ?_ | refine W_move ?_)
       <;> (first | refine M_int rfl ?_ | refine W_move ?_)
       <;> (refine W_lss rfl rfl (fun hc => ?_) (fun hc => ?_) <;> try (exfalso; omega))
       <;> refine W_nil ?_)
      · repeat'
          first
            | refine Q_then ?_ | refine C_cond_t rfl ?_ | refine C_cond_f rfl ?_ | refine C_seq ?_ | refine C_block ?_ | refine C_skip ?_ | refine C_ret ?_ | refine C_exit ?_
            | refine Q_then_ret ?_ | refine Q_then_exit ?_ | refine Q_block ?_ | refine Q_block_ret ?_ | refine Q_block_here ?_ | refine Q_block_on rfl ?_ | refine C_scope ?_ | refine C_label ?_ | refine Q_asn ?_
        have hk2 : k < r.length := by omega
        obtain ⟨bb, o, rfl, g0⟩ := hx (by omega)
        have e1 := (k18.trans hW).cell (g0 k hk2) (by simp)
        have heW := he.keep (k18.trans hW)
        have hct := count_take hk2 (badB e)
        have hcl := List.length_filter_le (badB e) (r.take k)
        have hcl2 := List.length_take_le k r
        have q1 := fun W' (hW' : Ext W W') => hW'.cell e1 (by simp)
        have q2 := fun W' (hW' : Ext W W') => ((b1.keep hW (by simp)).keep hW' (by simp)).cell (o := 0 + 1) rfl
        refine C_drawN (.read 0 (.read 1 (.read 2 (.read 3 (.read 4 (.read 5 (.alt 6 .done .stop))))))) mixed (by kernel_rfl) (fun wd kd ed => ⟨Ext W, ?_, ?_⟩)
        · exact kd
        ((apply D_R rfl rfl; (intro W hW; refine W_fieldAddr rfl ?_; exact W_nil ⟨rfl, rfl, rfl⟩))
         <;> (apply D_R rfl rfl; (intro W hW; (first | refine W_load rfl (q1 W hW) ?_ | refine W_load rfl (q2 W hW) ?_ | refine W_load_agg rfl (by rfl) (q1 W hW) ?_ | refine W_load_agg rfl (by rfl) (q2 W hW) ?_); exact W_nil ⟨rfl, rfl, rfl⟩))
         <;> (apply D_R rfl rfl; (intro W hW; (first | refine M_slice rfl ?_ | refine W_move ?_); exact W_nil ⟨rfl, rfl, rfl⟩))
         <;> (apply D_R rfl rfl; (intro W hW; (first | refine M_int rfl ?_ | refine W_move ?_); exact W_nil ⟨rfl, rfl, rfl⟩))
         <;> (apply D_R rfl rfl; (intro W hW; (first | refine W_idx1 rfl rfl rfl (by omega) ?_ | refine W_idx rfl rfl rfl (by omega) ?_ | refine W_indexAddr rfl rfl (by omega) (by omega) ?_); exact W_nil ⟨rfl, rfl, rfl⟩))
         <;> (apply D_R rfl rfl; (intro W hW; (first | refine W_load rfl (q1 W hW) ?_ | refine W_load rfl (q2 W hW) ?_ | refine W_load_agg rfl (by rfl) (q1 W hW) ?_ | refine W_load_agg rfl (by rfl) (q2 W hW) ?_); exact W_nil ⟨rfl, rfl, rfl⟩)))
        -- at place 6, operation 6: <dst=(some 89) op=(call <callee=(value (func 22)) args=[(tmp 84), (tmp 88)] argTypes=[22, 3]>) type=4 guard=none>
        refine D_E rfl ?_
        refine W_call (In_any _ e.bad r[k] _ (heW.2.keep kd)) rfl ?_
        rintro _ W2 ⟨rfl, rfl⟩
        refine W_nil ⟨Ext W, fun _ h => h, kd, ?_⟩
        refine D_nil ?_
        replace hW := hW.trans kd
        have hbe : e.bad.contains r[k] = badB e r[k] := rfl
        rw [hbe]
        cases hb : badB e r[k] with
        | true =>
          rw [hb, if_pos rfl] at hct
          repeat'
            first
              | refine Q_then ?_ | refine C_cond_t rfl ?_ | refine C_cond_f rfl ?_ | refine C_seq ?_ | refine C_block ?_ | refine C_skip ?_ | refine C_ret ?_ | refine C_exit ?_
              | refine Q_then_ret ?_ | refine Q_then_exit ?_ | refine Q_block ?_ | refine Q_block_ret ?_ | refine Q_block_here ?_ | refine Q_block_on rfl ?_ | refine C_scope ?_ | refine C_label ?_ | refine Q_asn ?_
          (refine C_region ?_
           <;> (first | refine M_int rfl ?_ | refine W_move ?_)
           <;> refine W_add rfl rfl (by first | exact inR_i64 (by omega) (by omega) | exact inR_u8 (by omega) (by omega) | exact inR_u16 (by omega) (by omega)) ?_
           <;> (refine M_assign ?_; (first | refine M_int rfl ?_ | refine W_move ?_))
           <;> refine W_nil ?_)
          repeat'
            first
              | refine Q_then ?_ | refine C_cond_t rfl ?_ | refine C_cond_f rfl ?_ | refine C_seq ?_ | refine C_block ?_ | refine C_skip ?_ | refine C_ret ?_ | refine C_exit ?_
              | refine Q_then_ret ?_ | refine Q_then_exit ?_ | refine Q_block ?_ | refine Q_block_ret ?_ | refine Q_block_here ?_ | refine Q_block_on rfl ?_ | refine C_scope ?_ | refine C_label ?_ | refine Q_asn ?_
          (refine C_region ?_
           <;> (first | refine M_int rfl ?_ | refine W_move ?_)
           <;> refine W_add rfl rfl (by first | exact inR_i64 (by omega) (by omega) | exact inR_u8 (by omega) (by omega) | exact inR_u16 (by omega) (by omega)) ?_
           <;> (refine M_assign ?_; (first | refine M_int rfl ?_ | refine W_move ?_))
           <;> refine W_nil ?_)
          repeat'
            first
              | refine Q_then ?_ | refine C_cond_t rfl ?_ | refine C_cond_f rfl ?_ | refine C_seq ?_ | refine C_block ?_ | refine C_skip ?_ | refine C_ret ?_ | refine C_exit ?_
              | refine Q_then_ret ?_ | refine Q_then_exit ?_ | refine Q_block ?_ | refine Q_block_ret ?_ | refine Q_block_here ?_ | refine Q_block_on rfl ?_ | refine C_scope ?_ | refine C_label ?_ | refine Q_asn ?_
          exact ⟨k + 1, ⟨rfl, ⟨rfl, rfl, rfl, rfl, rfl, rfl, rfl, rfl, rfl, congrArg (Value.int .i64) (by omega), rfl, trivial⟩, ⟨hk2, hW⟩⟩, by omega⟩
        | false =>
          rw [hb, if_neg (by simp)] at hct
          repeat'
            first
              | refine Q_then ?_ | refine C_cond_t rfl ?_ | refine C_cond_f rfl ?_ | refine C_seq ?_ | refine C_block ?_ | refine C_skip ?_ | refine C_ret ?_ | refine C_exit ?_
              | refine Q_then_ret ?_ | refine Q_then_exit ?_ | refine Q_block ?_ | refine Q_block_ret ?_ | refine Q_block_here ?_ | refine Q_block_on rfl ?_ | refine C_scope ?_ | refine C_label ?_ | refine Q_asn ?_
          (refine C_region ?_
           <;> (first | refine M_int rfl ?_ | refine W_move ?_)
           <;> refine W_add rfl rfl (by first | exact inR_i64 (by omega) (by omega) | exact inR_u8 (by omega) (by omega) | exact inR_u16 (by omega) (by omega)) ?_
           <;> (refine M_assign ?_; (first | refine M_int rfl ?_ | refine W_move ?_))
           <;> refine W_nil ?_)
          repeat'
            first
              | refine Q_then ?_ | refine C_cond_t rfl ?_ | refine C_cond_f rfl ?_ | refine C_seq ?_ | refine C_block ?_ | refine C_skip ?_ | refine C_ret ?_ | refine C_exit ?_
              | refine Q_then_ret ?_ | refine Q_then_exit ?_ | refine Q_block ?_ | refine Q_block_ret ?_ | refine Q_block_here ?_ | refine Q_block_on rfl ?_ | refine C_scope ?_ | refine C_label ?_ | refine Q_asn ?_
          exact ⟨k + 1, ⟨rfl, ⟨rfl, rfl, rfl, rfl, rfl, rfl, rfl, rfl, rfl, congrArg (Value.int .i64) (by omega), rfl, trivial⟩, ⟨hk2, hW⟩⟩, by omega⟩
      · repeat'
          first
            | refine Q_then ?_ | refine C_cond_t rfl ?_ | refine C_cond_f rfl ?_ | refine C_seq ?_ | refine C_block ?_ | refine C_skip ?_ | refine C_ret ?_ | refine C_exit ?_
            | refine Q_then_ret ?_ | refine Q_then_exit ?_ | refine Q_block ?_ | refine Q_block_ret ?_ | refine Q_block_here ?_ | refine Q_block_on rfl ?_ | refine C_scope ?_ | refine C_label ?_ | refine Q_asn ?_
        rw [List.take_of_length_le (by omega), hG]
        have o8W := o8.keep hW
        have hya := o8W.form
        obtain ⟨_, _, e8, hy1, hy2, _⟩ := hya
        rw [hyl] at e8 hy1
        cases e8
        refine C_drawN (.read 0 (.read 1 (.read 2 (.read 3 (.read 4 (.read 5 (.read 7 (.read 8 (.read 9 (.read 11 (.read 12 (.read 13 (.read 14 (.read 16 (.alt 6 (.alt 10 (.alt 15 (.alt 17 (.read 18 (.read 19 .done)) .stop) .stop) .stop) .stop))))))))))))))) mixed (by kernel_rfl) (fun wd kd ed => ⟨Ext w9, ?_, ?_⟩)
        · exact hW.trans kd
        ((apply D_R rfl rfl; (intro W hW; (first | refine M_int rfl ?_ | refine W_move ?_); exact W_nil ⟨rfl, rfl, rfl⟩))
         <;> (apply D_R rfl rfl; (intro W hW; (first | refine M_int rfl ?_ | refine W_move ?_); exact W_nil ⟨rfl, rfl, rfl⟩))
         <;> (apply D_R rfl rfl; (intro W hW; (first | refine M_int rfl ?_ | refine W_move ?_); exact W_nil ⟨rfl, rfl, rfl⟩))
         <;> (apply D_R rfl rfl; (intro W hW; refine W_sub rfl rfl (by first | exact inR_i64 (by omega) (by omega) | exact inR_u8 (by omega) (by omega) | exact inR_u16 (by omega) (by omega)) ?_; exact W_nil ⟨rfl, rfl, rfl⟩))
         <;> (refine D_neq rfl rfl rfl rfl (fun hc => ?_) (fun hc => ?_) <;> try (exfalso; omega))
         <;> (apply D_R rfl rfl; (intro W hW; (first | refine M_bool rfl ?_ | refine W_move ?_); exact W_nil ⟨rfl, rfl, rfl⟩))
         <;> (first | refine D_skip rfl rfl rfl rfl ?_ | (apply D_R rfl rfl; (intro W hW; (refine W_yes rfl ?_; (first | refine M_slice rfl ?_ | refine W_move ?_)); exact W_nil ⟨rfl, rfl, rfl⟩)))
         <;> (first | refine D_skip rfl rfl rfl rfl ?_ | (apply D_R rfl rfl; (intro W hW; (refine W_yes rfl ?_; (first | refine M_int rfl ?_ | refine W_move ?_)); exact W_nil ⟨rfl, rfl, rfl⟩)))
         <;> (first | refine D_skip rfl rfl rfl rfl ?_ | (apply D_R rfl rfl; (intro W hW; (refine W_yes rfl ?_; refine W_slice_h rfl rfl (by omega) (by omega) ?_); exact W_nil ⟨rfl, rfl, rfl⟩)))
         <;> (first | refine D_skip rfl rfl rfl rfl ?_ | (apply D_R rfl rfl; (intro W hW; (refine W_yes rfl ?_; (first | refine M_slice rfl ?_ | refine W_move ?_)); exact W_nil ⟨rfl, rfl, rfl⟩)))
         <;> (first | refine D_skip rfl rfl rfl rfl ?_ | (apply D_R rfl rfl; (intro W hW; (refine W_yes rfl ?_; (first | refine M_int rfl ?_ | refine W_move ?_)); exact W_nil ⟨rfl, rfl, rfl⟩)))
         <;> (first | refine D_skip rfl rfl rfl rfl ?_ | (apply D_R rfl rfl; (intro W hW; (refine W_yes rfl ?_; refine W_add rfl rfl (by first | exact inR_i64 (by omega) (by omega) | exact inR_u8 (by omega) (by omega) | exact inR_u16 (by omega) (by omega)) ?_); exact W_nil ⟨rfl, rfl, rfl⟩)))
         <;> (first | refine D_skip rfl rfl rfl rfl ?_ | (apply D_R rfl rfl; (intro W hW; (refine W_yes rfl ?_; refine W_slice_l rfl rfl (by omega) (by omega) ?_); exact W_nil ⟨rfl, rfl, rfl⟩)))
         <;> (first | refine D_skip rfl rfl rfl rfl ?_ | (apply D_R rfl rfl; (intro W hW; (refine W_yes rfl ?_; (first | refine M_slice rfl ?_ | refine W_move ?_)); exact W_nil ⟨rfl, rfl, rfl⟩))))
        -- at place 14, operation 6: <dst=(some 98) op=(buildSlice 22 0 []) type=22 guard=(some [5, false])>
        refine D_E rfl ?_
        refine W_yes rfl ?_
        refine W_buildSlice1 (out := []) rfl (by omega) rfl rfl (fun V1 n1 => ?_)
        have z1 := n1.size
        have o1 := n1.own (n := 0) (size := 1) rfl (by unfold maxLen; omega) (Nat.le_refl _)
        have kV1 := (hW.trans kd).trans n1.keep
        refine W_nil ⟨Ext w9, fun _ h => h, kV1, ?_⟩
        refine D_E rfl ?_
        refine W_yes rfl ?_
        have iF : Ints V1 (.slice ya F.length yc) F := by
          have := (o8.keep kV1).take (j := F.length) (by simp)
          rwa [List.take_left'] at this
          rfl
        refine W_append rfl rfl o1 iF (by omega) rfl (by rw [intC_length]; omega) (oneC_int _) (by omega) (by omega) (by omega) (fun v2 V2 a2 => ?_)
        have kV2 : Ext w9 V2 := kV1.keep a2.keep fun x hx => by have := (o1.lt x (Option.mem_toList.1 hx)).1; have := (hW.trans kd).size; omega
        obtain ⟨v2a, v2c, rfl⟩ := own_form a2.own
        refine W_nil ⟨Ext w9, fun _ h => h, kV2, ?_⟩
        refine D_E rfl ?_
        refine W_yes rfl ?_
        have iG : Ints V2 (.slice (adv yc (F.length + 1) 1 ya) (r.length + 1 - (F.length + 1)) (yc - (F.length + 1))) G := by
          have hd := (o8.keep kV2).drop (j := F.length + 1) (by rw [hyl]; omega) (by rw [hyl]; omega)
          have e1 : (F ++ ((r.length : Int) + 1) :: G).drop (F.length + 1) = G := by
            rw [List.drop_append, List.drop_of_length_le (by omega), Nat.add_sub_cancel_left]; rfl
          rw [e1, hyl] at hd
          exact hd
        have hGl : r.length + 1 - (F.length + 1) = G.length := by omega
        rw [hGl] at iG
        have hFi : ((F.length : Int) + 1).toNat = F.length + 1 := by omega
        rw [hFi, hGl]
        refine W_append rfl rfl a2.own iG (by omega) rfl (by rw [intC_length]; omega) (oneC_int _) (by omega) (by omega) (by have := n1.keep.size; have := a2.keep.size; omega) (fun v3 V3 a3 => ?_)
        have kV3 : Ext w9 V3 := kV2.keep a3.keep fun x hx => by have := (a2.own.lt x (Option.mem_toList.1 hx)).1; have := (hW.trans kd).size; omega
        have i3 : Ints V3 v3 (F ++ G) := Ints.own (B := wd.heap.size) (by
          have e1 : 0 + F.length + G.length = (F ++ G).length := by simp
          have e2 : [] ++ intC F ++ intC G = intC (F ++ G) := by rw [intC_append]; rfl
          rw [← e2, ← e1]; exact a3.own)
        obtain ⟨v3a, v3c, rfl, _⟩ := i3.form
        refine W_nil ⟨Ext w9, fun _ h => h, kV3, ?_⟩
        refine D_E rfl ?_
        refine W_yes rfl ?_
        have i7 : Ints V3 (.slice xa r.length xc) (F ++ G) := by rw [← hst]; exact o7.keep kV3
        refine W_call (Ints_any _ _ (F ++ G) (F ++ G) _ i3 i7) rfl ?_
        rintro _ V4 ⟨rfl, q4⟩
        rw [beq_self_eq_true]
        refine W_nil ⟨Ext w9, fun _ h => h, kV3.trans q4, ?_⟩
        ((first | refine D_skip rfl rfl rfl rfl ?_ | (apply D_R rfl rfl; (intro W hW; (refine W_yes rfl ?_; refine W_not rfl ?_); exact W_nil ⟨rfl, rfl, rfl⟩)))
         <;> (apply D_R rfl rfl; (intro W hW; ((first | refine M_pick_t rfl ?_ | refine M_pick_f rfl ?_); (first | refine M_bool rfl ?_ | refine W_move ?_)); exact W_nil ⟨rfl, rfl, rfl⟩))
         <;> refine D_nil ?_)
        have kend := k18.trans (kV3.trans q4)
        rcases hp with hp | ⟨hp1, hp2⟩
        · rw [hp]
          repeat'
            first
              | refine Q_then ?_ | refine C_cond_t rfl ?_ | refine C_cond_f rfl ?_ | refine C_seq ?_ | refine C_block ?_ | refine C_skip ?_ | refine C_ret ?_ | refine C_exit ?_
              | refine Q_then_ret ?_ | refine Q_then_exit ?_ | refine Q_block ?_ | refine Q_block_ret ?_ | refine Q_block_here ?_ | refine Q_block_on rfl ?_ | refine C_scope ?_ | refine C_label ?_ | refine Q_asn ?_
          (refine C_region ?_
           <;> (first | refine M_bool rfl ?_ | refine W_move ?_)
           <;> (first | refine M_bool rfl ?_ | refine W_move ?_)
           <;> (first | refine W_no rfl ?_ | (refine W_yes rfl ?_; (first | refine M_int rfl ?_ | refine W_move ?_)))
           <;> (first | refine W_no rfl ?_ | (refine W_yes rfl ?_; (first | refine M_int rfl ?_ | refine W_move ?_)))
           <;> (first | refine W_no rfl ?_ | (refine W_yes rfl ?_; (refine W_eql rfl rfl (fun hc => ?_) (fun hc => ?_) <;> try (exfalso; omega))))
           <;> (first | refine W_no rfl ?_ | (refine W_yes rfl ?_; (first | refine M_bool rfl ?_ | refine W_move ?_)))
           <;> (first | refine W_no rfl ?_ | (refine W_yes rfl ?_; (first | refine M_int rfl ?_ | refine W_move ?_)))
           <;> (first | refine W_no rfl ?_ | (refine W_yes rfl ?_; (first | refine M_int rfl ?_ | refine W_move ?_)))
           <;> (first | refine W_no rfl ?_ | (refine W_yes rfl ?_; refine W_mul rfl rfl (by first | exact inR_i64 (by omega) (by omega) | exact inR_u8 (by omega) (by omega) | exact inR_u16 (by omega) (by omega)) ?_))
           <;> (first | refine W_no rfl ?_ | (refine W_yes rfl ?_; refine W_add rfl rfl (by first | exact inR_i64 (by omega) (by omega) | exact inR_u8 (by omega) (by omega) | exact inR_u16 (by omega) (by omega)) ?_))
           <;> (first | refine W_no rfl ?_ | (refine W_yes rfl ?_; (refine W_eql rfl rfl (fun hc => ?_) (fun hc => ?_) <;> try (exfalso; omega))))
           <;> (first | refine W_no rfl ?_ | (refine W_yes rfl ?_; (first | refine M_bool rfl ?_ | refine W_move ?_)))
           <;> (first | refine W_no rfl ?_ | (refine W_yes rfl ?_; (first | refine M_int rfl ?_ | refine W_move ?_)))
           <;> (first | refine W_no rfl ?_ | (refine W_yes rfl ?_; (first | refine M_int rfl ?_ | refine W_move ?_)))
           <;> (first | refine W_no rfl ?_ | (refine W_yes rfl ?_; refine W_add rfl rfl (by first | exact inR_i64 (by omega) (by omega) | exact inR_u8 (by omega) (by omega) | exact inR_u16 (by omega) (by omega)) ?_))
           <;> (first | refine W_no rfl ?_ | (refine W_yes rfl ?_; (refine W_eql rfl rfl (fun hc => ?_) (fun hc => ?_) <;> try (exfalso; omega))))
           <;> (first | refine W_no rfl ?_ | (refine W_yes rfl ?_; ((first | refine M_pick_t rfl ?_ | refine M_pick_f rfl ?_); (first | refine M_bool rfl ?_ | refine W_move ?_))))
           <;> (first | refine W_no rfl ?_ | (refine W_yes rfl ?_; ((first | refine M_pick_t rfl ?_ | refine M_pick_f rfl ?_); (first | refine M_bool rfl ?_ | refine W_move ?_))))
           <;> ((first | refine M_pick_t rfl ?_ | refine M_pick_f rfl ?_); (first | refine M_bool rfl ?_ | refine W_move ?_))
           <;> (refine M_assign ?_; (first | refine M_bool rfl ?_ | refine W_move ?_))
           <;> refine W_nil ?_)
          repeat'
            first
              | refine Q_then ?_ | refine C_cond_t rfl ?_ | refine C_cond_f rfl ?_ | refine C_seq ?_ | refine C_block ?_ | refine C_skip ?_ | refine C_ret ?_ | refine C_exit ?_
              | refine Q_then_ret ?_ | refine Q_then_exit ?_ | refine Q_block ?_ | refine Q_block_ret ?_ | refine Q_block_here ?_ | refine Q_block_on rfl ?_ | refine C_scope ?_ | refine C_label ?_ | refine Q_asn ?_
          exact fin_ret1 rfl ⟨rfl, kend⟩
        · rw [hp2, hp1]
          repeat'
            first
              | refine Q_then ?_ | refine C_cond_t rfl ?_ | refine C_cond_f rfl ?_ | refine C_seq ?_ | refine C_block ?_ | refine C_skip ?_ | refine C_ret ?_ | refine C_exit ?_
              | refine Q_then_ret ?_ | refine Q_then_exit ?_ | refine Q_block ?_ | refine Q_block_ret ?_ | refine Q_block_here ?_ | refine Q_block_on rfl ?_ | refine C_scope ?_ | refine C_label ?_ | refine Q_asn ?_
          (refine C_region ?_
           <;> (first | refine M_bool rfl ?_ | refine W_move ?_)
           <;> (first | refine M_bool rfl ?_ | refine W_move ?_)
           <;> (first | refine W_no rfl ?_ | (refine W_yes rfl ?_; (first | refine M_int rfl ?_ | refine W_move ?_)))
           <;> (first | refine W_no rfl ?_ | (refine W_yes rfl ?_; (first | refine M_int rfl ?_ | refine W_move ?_)))
           <;> (first | refine W_no rfl ?_ | (refine W_yes rfl ?_; (refine W_eql rfl rfl (fun hc => ?_) (fun hc => ?_) <;> try (exfalso; omega))))
           <;> (first | refine W_no rfl ?_ | (refine W_yes rfl ?_; (first | refine M_bool rfl ?_ | refine W_move ?_)))
           <;> (first | refine W_no rfl ?_ | (refine W_yes rfl ?_; (first | refine M_int rfl ?_ | refine W_move ?_)))
           <;> (first | refine W_no rfl ?_ | (refine W_yes rfl ?_; (first | refine M_int rfl ?_ | refine W_move ?_)))
           <;> (first | refine W_no rfl ?_ | (refine W_yes rfl ?_; refine W_mul rfl rfl (by first | exact inR_i64 (by omega) (by omega) | exact inR_u8 (by omega) (by omega) | exact inR_u16 (by omega) (by omega)) ?_))
           <;> (first | refine W_no rfl ?_ | (refine W_yes rfl ?_; refine W_add rfl rfl (by first | exact inR_i64 (by omega) (by omega) | exact inR_u8 (by omega) (by omega) | exact inR_u16 (by omega) (by omega)) ?_))
           <;> (first | refine W_no rfl ?_ | (refine W_yes rfl ?_; (refine W_eql rfl rfl (fun hc => ?_) (fun hc => ?_) <;> try (exfalso; omega))))
           <;> (first | refine W_no rfl ?_ | (refine W_yes rfl ?_; (first | refine M_bool rfl ?_ | refine W_move ?_)))
           <;> (first | refine W_no rfl ?_ | (refine W_yes rfl ?_; (first | refine M_int rfl ?_ | refine W_move ?_)))
           <;> (first | refine W_no rfl ?_ | (refine W_yes rfl ?_; (first | refine M_int rfl ?_ | refine W_move ?_)))
           <;> (first | refine W_no rfl ?_ | (refine W_yes rfl ?_; refine W_add rfl rfl (by first | exact inR_i64 (by omega) (by omega) | exact inR_u8 (by omega) (by omega) | exact inR_u16 (by omega) (by omega)) ?_))
           <;> (first | refine W_no rfl ?_ | (refine W_yes rfl ?_; (refine W_eql rfl rfl (fun hc => ?_) (fun hc => ?_) <;> try (exfalso; omega))))
           <;> (first | refine W_no rfl ?_ | (refine W_yes rfl ?_; ((first | refine M_pick_t rfl ?_ | refine M_pick_f rfl ?_); (first | refine M_bool rfl ?_ | refine W_move ?_))))
           <;> (first | refine W_no rfl ?_ | (refine W_yes rfl ?_; ((first | refine M_pick_t rfl ?_ | refine M_pick_f rfl ?_); (first | refine M_bool rfl ?_ | refine W_move ?_))))
           <;> ((first | refine M_pick_t rfl ?_ | refine M_pick_f rfl ?_); (first | refine M_bool rfl ?_ | refine W_move ?_))
           <;> (refine M_assign ?_; (first | refine M_bool rfl ?_ | refine W_move ?_))
           <;> refine W_nil ?_)
          repeat'
            first
              | refine Q_then ?_ | refine C_cond_t rfl ?_ | refine C_cond_f rfl ?_ | refine C_seq ?_ | refine C_block ?_ | refine C_skip ?_ | refine C_ret ?_ | refine C_exit ?_
              | refine Q_then_ret ?_ | refine Q_then_exit ?_ | refine Q_block ?_ | refine Q_block_ret ?_ | refine Q_block_here ?_ | refine Q_block_on rfl ?_ | refine C_scope ?_ | refine C_label ?_ | refine Q_asn ?_
          exact fin_ret1 rfl ⟨rfl, kend⟩
    · refine D_E rfl ?_
      refine W_buildSlice1 (out := [.int .i64 ((r.length : Int) + 1)]) rfl (by omega) rfl rfl (fun V2 n2 => ?_)
      have o2 := n2.own (n := 1) (size := 1) rfl (by unfold maxLen; omega) (Nat.le_refl _)
      have z2 := n2.size
      have j2 := j1.trans n2.keep
      refine W_nil ⟨Ext w7, fun _ h => h, j2, ?_⟩
      refine D_E rfl ?_
      have o1' := ownsRow_ext o1 n2.keep
      refine W_append rfl rfl o1' (h.keep (k1.trans j2)) (by omega) rfl (by rw [intC_length]; omega) (oneC_int _) (by omega) (by omega) (by omega) (fun v3 V3 a3 => ?_)
      have j3 : Ext w7 V3 := j2.keep a3.keep fun x hx => by have := (o1'.lt x (Option.mem_toList.1 hx)).1; omega
      obtain ⟨v3a, v3c, rfl⟩ := own_form a3.own
      have o2' : Sl anyB V3 (.slice (some ⟨V1.heap.size, 0, none⟩) 1 1) 1 [.int .i64 ((r.length : Int) + 1)] := (Sl_of_own (ok := fun b => b = V1.heap.size) o2 fun g hg => by cases hg; rfl).keep a3.keep (fun b hb hm => by
        have := (o1.lt b (Option.mem_toList.1 hm)).2
        omega) |>.mono fun _ _ => trivial
      have zz := a3.keep.size
      refine W_nil ⟨Ext w7, fun _ h => h, j3, ?_⟩
      refine D_E rfl ?_
      refine W_append rfl rfl a3.own o2' (by omega) rfl rfl (by intro u hu; simp at hu; subst hu; rfl) (by omega) (by omega) (by omega) (fun v6 W6 a6 => ?_)
      have k6 : Ext w7 W6 := j3.keep a6.keep fun x hx => by have := (a3.own.lt x (Option.mem_toList.1 hx)).1; omega
      have o6 := a6.own
      generalize wd.heap.size = BB at o6
      have i6 : Ints W6 v6 (r ++ [(r.length : Int) + 1]) := Ints.own (B := BB) (by
        have e1 : 0 + r.length + 1 = (r ++ [(r.length : Int) + 1]).length := by simp
        have e2 : [] ++ intC r ++ [Value.int .i64 ((r.length : Int) + 1)] = intC (r ++ [(r.length : Int) + 1]) := by simp [intC]
        rw [← e2, ← e1]; exact o6)
      obtain ⟨va6, vc6, rfl, _⟩ := i6.form
      refine W_nil ⟨Ext w7, fun _ h => h, k6, ?_⟩
      refine D_E rfl ?_
      refine W_call (Step_any _ _ _ (r ++ [(r.length : Int) + 1]) e _ i6 (he.keep (k1.trans k6))) rfl ?_
      rintro _ w8 ⟨yv, rfl, o8, k8⟩
      rw [stepR_valid hv1, more_step hzb] at o8
      dsimp only at o8
      simp only [stepR_valid hv1, more_step hzb, hpp]
      obtain ⟨ya, yc, rfl⟩ := own_form o8
      replace o8 := Ints.own o8
      replace k8 := k6.trans k8
      refine W_nil ⟨Ext w7, fun _ h => h, k8, ?_⟩
      ((apply D_R rfl rfl; (intro W hW; (first | refine M_tuple rfl ?_ | refine W_move ?_); exact W_nil ⟨rfl, rfl, rfl⟩))
       <;> (apply D_R rfl rfl; (intro W hW; refine W_extract rfl rfl ?_; exact W_nil ⟨rfl, rfl, rfl⟩))
       <;> (apply D_R rfl rfl; (intro W hW; refine W_extract rfl rfl ?_; exact W_nil ⟨rfl, rfl, rfl⟩))
       <;> (apply D_R rfl rfl; (intro W hW; (refine M_assign ?_; (first | refine M_slice rfl ?_ | refine W_move ?_)); exact W_nil ⟨rfl, rfl, rfl⟩))
       <;> (apply D_R rfl rfl; (intro W hW; (refine M_assign ?_; (first | refine M_int rfl ?_ | refine W_move ?_)); exact W_nil ⟨rfl, rfl, rfl⟩))
       <;> refine D_nil ?_)
      clear i6 o6 k6 kd
      have k18 := k1.trans k8
      replace b1 := b1.keep k8 (by simp)
      replace o7 := o7.keep k8
      have hyl : (r.filter (fun x => !badB e x) ++ ((r.length : Int) + 1) :: r.filter (badB e)).length = r.length + 1 := by simp; omega
      rw [hyl] at o8 ⊢
      rw [hsl] at o7 ⊢
      repeat'
        first
          | refine Q_then ?_ | refine C_cond_t rfl ?_ | refine C_cond_f rfl ?_ | refine C_seq ?_ | refine C_block ?_ | refine C_skip ?_ | refine C_ret ?_ | refine C_exit ?_
          | refine Q_then_ret ?_ | refine Q_then_exit ?_ | refine Q_block ?_ | refine Q_block_ret ?_ | refine Q_block_here ?_ | refine Q_block_on rfl ?_ | refine C_scope ?_ | refine C_label ?_ | refine Q_asn ?_
      (refine C_region ?_
       <;> (first | refine M_slice rfl ?_ | refine W_move ?_)
       <;> refine W_len rfl ?_
       <;> (first | refine M_int rfl ?_ | refine W_move ?_)
       <;> (refine W_neq rfl rfl (fun hc => ?_) (fun hc => ?_) <;> try (exfalso; omega))
       <;> (first | refine M_bool rfl ?_ | refine W_move ?_)
       <;> (first | refine W_no rfl ?_ | (refine W_yes rfl ?_; (first | refine M_slice rfl ?_ | refine W_move ?_)))
       <;> (first | refine W_no rfl ?_ | (refine W_yes rfl ?_; refine W_len rfl ?_))
       <;> (first | refine W_no rfl ?_ | (refine W_yes rfl ?_; (first | refine M_int rfl ?_ | refine W_move ?_)))
       <;> (first | refine W_no rfl ?_ | (refine W_yes rfl ?_; refine W_add rfl rfl (by first | exact inR_i64 (by omega) (by omega) | exact inR_u8 (by omega) (by omega) | exact inR_u16 (by omega) (by omega)) ?_))
       <;> (first | refine W_no rfl ?_ | (refine W_yes rfl ?_; (refine W_neq rfl rfl (fun hc => ?_) (fun hc => ?_) <;> try (exfalso; omega))))
       <;> ((first | refine M_pick_t rfl ?_ | refine M_pick_f rfl ?_); (first | refine M_bool rfl ?_ | refine W_move ?_))
       <;> refine W_nil ?_)
      repeat'
        first
          | refine Q_then ?_ | refine C_cond_t rfl ?_ | refine C_cond_f rfl ?_ | refine C_seq ?_ | refine C_block ?_ | refine C_skip ?_ | refine C_ret ?_ | refine C_exit ?_
          | refine Q_then_ret ?_ | refine Q_then_exit ?_ | refine Q_block ?_ | refine Q_block_ret ?_ | refine Q_block_here ?_ | refine Q_block_on rfl ?_ | refine C_scope ?_ | refine C_label ?_ | refine Q_asn ?_
      (refine C_region ?_
       <;> (first | refine M_slice rfl ?_ | refine W_move ?_)
       <;> (first | refine M_int rfl ?_ | refine W_move ?_)
       <;> refine W_add rfl rfl (by first | exact inR_i64 (by omega) (by omega) | exact inR_u8 (by omega) (by omega) | exact inR_u16 (by omega) (by omega)) ?_)
      -- at operation 3: <dst=(some 77) op=(call <callee=(value (func 21)) args=[(tmp 74), (tmp 76)] argTypes=[22, 3]>) type=3 guard=none>
      refine W_call (position_any _ _ ((r.length : Int) + 1) _ o8) rfl ?_
      rintro _ w9 ⟨rfl, rfl⟩
      have hpz : posI (r.filter (fun x => !badB e x) ++ ((r.length : Int) + 1) :: r.filter (badB e)) ((r.length : Int) + 1) = ((r.filter (fun x => !badB e x)).length : Int) := by
        rw [posI_eq, if_pos (by simp), pos_append, if_neg (fun hh => hzr (List.mem_filter.1 hh).1), pos_cons, if_pos rfl]; simp
      rw [hpz]
      ((refine M_assign ?_; (first | refine M_int rfl ?_ | refine W_move ?_))
       <;> refine W_nil ?_)
      repeat'
        first
          | refine Q_then ?_ | refine C_cond_t rfl ?_ | refine C_cond_f rfl ?_ | refine C_seq ?_ | refine C_block ?_ | refine C_skip ?_ | refine C_ret ?_ | refine C_exit ?_
          | refine Q_then_ret ?_ | refine Q_then_exit ?_ | refine Q_block ?_ | refine Q_block_ret ?_ | refine Q_block_here ?_ | refine Q_block_on rfl ?_ | refine C_scope ?_ | refine C_label ?_ | refine Q_asn ?_
      (refine C_region ?_
       <;> (refine M_assign ?_; (first | refine M_int rfl ?_ | refine W_move ?_))
       <;> refine W_nil ?_)
      repeat'
        first
          | refine Q_then ?_ | refine C_cond_t rfl ?_ | refine C_cond_f rfl ?_ | refine C_seq ?_ | refine C_block ?_ | refine C_skip ?_ | refine C_ret ?_ | refine C_exit ?_
          | refine Q_then_ret ?_ | refine Q_then_exit ?_ | refine Q_block ?_ | refine Q_block_ret ?_ | refine Q_block_here ?_ | refine Q_block_on rfl ?_ | refine C_scope ?_ | refine C_label ?_ | refine Q_asn ?_
      (refine C_region ?_
       <;> (refine M_assign ?_; (first | refine M_int rfl ?_ | refine W_move ?_))
       <;> refine W_nil ?_)
      repeat'
        first
          | refine Q_then ?_ | refine C_cond_t rfl ?_ | refine C_cond_f rfl ?_ | refine C_seq ?_ | refine C_block ?_ | refine C_skip ?_ | refine C_ret ?_ | refine C_exit ?_
          | refine Q_then_ret ?_ | refine Q_then_exit ?_ | refine Q_block ?_ | refine Q_block_ret ?_ | refine Q_block_here ?_ | refine Q_block_on rfl ?_ | refine C_scope ?_ | refine C_label ?_ | refine Q_asn ?_
      generalize hF : r.filter (fun x => !badB e x) = F at *
      generalize hG : r.filter (badB e) = G at *
      refine C_loop (α := Nat) (fun k => [(0, .slice a r.length c), (3, .pointer (some ⟨pe, 0, none⟩)), (5, .bool true), (6, .int .i64 r.length), (7, .slice xa r.length xc), (8, .int .i64 (prioT e r r.length)), (9, .slice ya (r.length + 1) yc), (10, .int .i64 (prioT e (r ++ [(r.length : Int) + 1]) (r.length + 1))), (11, .int .i64 F.length), (12, .int .i64 ((r.take k).filter (badB e)).length), (13, .int .i64 k)])
        (fun k W => k ≤ r.length ∧ Ext w9 W) (fun k => r.length - k) 0 ⟨rfl, rfl, rfl, rfl, rfl, rfl, rfl, rfl, rfl, rfl, rfl, trivial⟩ ⟨by omega, Ext.refl _⟩ ?_
      rintro k W f' ⟨hk, hW⟩
      repeat'
        first
          | refine Q_then ?_ | refine C_cond_t rfl ?_ | refine C_cond_f rfl ?_ | refine C_seq ?_ | refine C_block ?_ | refine C_skip ?_ | refine C_ret ?_ | refine C_exit ?_
          | refine Q_then_ret ?_ | refine Q_then_exit ?_ | refine Q_block ?_ | refine Q_block_ret ?_ | refine Q_block_here ?_ | refine Q_block_on rfl ?_ | refine C_scope ?_ | refine C_label ?_ | refine Q_asn ?_
      (refine C_region ?_
       <;> (first | refine M_int rfl ?_ | refine W_move ?_)
       <;> (first | refine M_int rfl ?_ | refine W_move ?_)
       <;> (refine W_lss rfl rfl (fun hc => ?_) (fun hc => ?_) <;> try (exfalso; omega))
       <;> refine W_nil ?_)
      · repeat'
          first
            | refine Q_then ?_ | refine C_cond_t rfl ?_ | refine C_cond_f rfl ?_ | refine C_seq ?_ | refine C_block ?_ | refine C_skip ?_ | refine C_ret ?_ | refine C_exit ?_
            | refine Q_then_ret ?_ | refine Q_then_exit ?_ | refine Q_block ?_ | refine Q_block_ret ?_ | refine Q_block_here ?_ | refine Q_block_on rfl ?_ | refine C_scope ?_ | refine C_label ?_ | refine Q_asn ?_
        have hk2 : k < r.length := by omega
        obtain ⟨bb, o, rfl, g0⟩ := hx (by omega)
        have e1 := (k18.trans hW).cell (g0 k hk2) (by simp)
        have heW := he.keep (k18.trans hW)
        have hct := count_take hk2 (badB e)
        have hcl := List.length_filter_le (badB e) (r.take k)
        have hcl2 := List.length_take_le k r
        have q1 := fun W' (hW' : Ext W W') => hW'.cell e1 (by simp)
        have q2 := fun W' (hW' : Ext W W') => ((b1.keep hW (by simp)).keep hW' (by simp)).cell (o := 0 + 1) rfl
        refine C_drawN (.read 0 (.read 1 (.read 2 (.read 3 (.read 4 (.read 5 (.alt 6 .done .stop))))))) mixed (by kernel_rfl) (fun wd kd ed => ⟨Ext W, ?_, ?_⟩)
        · exact kd
        ((apply D_R rfl rfl; (intro W hW; refine W_fieldAddr rfl ?_; exact W_nil ⟨rfl, rfl, rfl⟩))
         <;> (apply D_R rfl rfl; (intro W hW; (first | refine W_load rfl (q1 W hW) ?_ | refine W_load rfl (q2 W hW) ?_ | refine W_load_agg rfl (by rfl) (q1 W hW) ?_ | refine W_load_agg rfl (by rfl) (q2 W hW) ?_); exact W_nil ⟨rfl, rfl, rfl⟩))
         <;> (apply D_R rfl rfl; (intro W hW; (first | refine M_slice rfl ?_ | refine W_move ?_); exact W_nil ⟨rfl, rfl, rfl⟩))
         <;> (apply D_R rfl rfl; (intro W hW; (first | refine M_int rfl ?_ | refine W_move ?_); exact W_nil ⟨rfl, rfl, rfl⟩))
         <;> (apply D_R rfl rfl; (intro W hW; (first | refine W_idx1 rfl rfl rfl (by omega) ?_ | refine W_idx rfl rfl rfl (by omega) ?_ | refine W_indexAddr rfl rfl (by omega) (by omega) ?_); exact W_nil ⟨rfl, rfl, rfl⟩))
         <;> (apply D_R rfl rfl; (intro W hW; (first | refine W_load rfl (q1 W hW) ?_ | refine W_load rfl (q2 W hW) ?_ | refine W_load_agg rfl (by rfl) (q1 W hW) ?_ | refine W_load_agg rfl (by rfl) (q2 W hW) ?_); exact W_nil ⟨rfl, rfl, rfl⟩)))
        -- at place 6, operation 6: <dst=(some 89) op=(call <callee=(value (func 22)) args=[(tmp 84), (tmp 88)] argTypes=[22, 3]>) type=4 guard=none>
        refine D_E rfl ?_
        refine W_call (In_any _ e.bad r[k] _ (heW.2.keep kd)) rfl ?_
        rintro _ W2 ⟨rfl, rfl⟩
        refine W_nil ⟨Ext W, fun _ h => h, kd, ?_⟩
        refine D_nil ?_
        replace hW := hW.trans kd
        have hbe : e.bad.contains r[k] = badB e r[k] := rfl
        rw [hbe]
        cases hb : badB e r[k] with
        | true =>
          rw [hb, if_pos rfl] at hct
          repeat'
            first
              | refine Q_then ?_ | refine C_cond_t rfl ?_ | refine C_cond_f rfl ?_ | refine C_seq ?_ | refine C_block ?_ | refine C_skip ?_ | refine C_ret ?_ | refine C_exit ?_
              | refine Q_then_ret ?_ | refine Q_then_exit ?_ | refine Q_block ?_ | refine Q_block_ret ?_ | refine Q_block_here ?_ | refine Q_block_on rfl ?_ | refine C_scope ?_ | refine C_label ?_ | refine Q_asn ?_
          (refine C_region ?_
           <;> (first | refine M_int rfl ?_ | refine W_move ?_)
           <;> refine W_add rfl rfl (by first | exact inR_i64 (by omega) (by omega) | exact inR_u8 (by omega) (by omega) | exact inR_u16 (by omega) (by omega)) ?_
           <;> (refine M_assign ?_; (first | refine M_int rfl ?_ | refine W_move ?_))
           <;> refine W_nil ?_)
          repeat'
            first
              | refine Q_then ?_ | refine C_cond_t rfl ?_ | refine C_cond_f rfl ?_ | refine C_seq ?_ | refine C_block ?_ | refine C_skip ?_ | refine C_ret ?_ | refine C_exit ?_
              | refine Q_then_ret ?_ | refine Q_then_exit ?_ | refine Q_block ?_ | refine Q_block_ret ?_ | refine Q_block_here ?_ | refine Q_block_on rfl ?_ | refine C_scope ?_ | refine C_label ?_ | refine Q_asn ?_
          (refine C_region ?_
           <;> (first | refine M_int rfl ?_ | refine W_move ?_)
           <;> refine W_add rfl rfl (by first | exact inR_i64 (by omega) (by omega) | exact inR_u8 (by omega) (by omega) | exact inR_u16 (by omega) (by omega)) ?_
           <;> (refine M_assign ?_; (first | refine M_int rfl ?_ | refine W_move ?_))
           <;> refine W_nil ?_)
          repeat'
            first
              | refine Q_then ?_ | refine C_cond_t rfl ?_ | refine C_cond_f rfl ?_ | refine C_seq ?_ | refine C_block ?_ | refine C_skip ?_ | refine C_ret ?_ | refine C_exit ?_
              | refine Q_then_ret ?_ | refine Q_then_exit ?_ | refine Q_block ?_ | refine Q_block_ret ?_ | refine Q_block_here ?_ | refine Q_block_on rfl ?_ | refine C_scope ?_ | refine C_label ?_ | refine Q_asn ?_
          exact ⟨k + 1, ⟨rfl, ⟨rfl, rfl, rfl, rfl, rfl, rfl, rfl, rfl, rfl, congrArg (Value.int .i64) (by omega), rfl, trivial⟩, ⟨hk2, hW⟩⟩, by omega⟩
        | false =>
          rw [hb, if_neg (by simp)] at hct
          repeat'
            first
              | refine Q_then ?_ | refine C_cond_t rfl ?_ | refine C_cond_f rfl ?_ | refine C_seq ?_ | refine C_block ?_ | refine C_skip ?_ | refine C_ret ?_ | refine C_exit ?_
              | refine Q_then_ret ?_ | refine Q_then_exit ?_ | refine Q_block ?_ | refine Q_block_ret ?_ | refine Q_block_here ?_ | refine Q_block_on rfl ?_ | refine C_scope ?_ | refine C_label ?_ | refine Q_asn ?_
          (refine C_region ?_
           <;> (first | refine M_int rfl ?_ | refine W_move ?_)
           <;> refine W_add rfl rfl (by first | exact inR_i64 (by omega) (by omega) | exact inR_u8 (by omega) (by omega) | exact inR_u16 (by omega) (by omega)) ?_
           <;> (refine M_assign ?_; (first | refine M_int rfl ?_ | refine W_move ?_))
           <;> refine W_nil ?_)
          repeat'
            first
              | refine Q_then ?_ | refine C_cond_t rfl ?_ | refine C_cond_f rfl ?_ | refine C_seq ?_ | refine C_block ?_ | refine C_skip ?_ | refine C_ret ?_ | refine C_exit ?_
              | refine Q_then_ret ?_ | refine Q_then_exit ?_ | refine Q_block ?_ | refine Q_block_ret ?_ | refine Q_block_here ?_ | refine Q_block_on rfl ?_ | refine C_scope ?_ | refine C_label ?_ | refine Q_asn ?_
          exact ⟨k + 1, ⟨rfl, ⟨rfl, rfl, rfl, rfl, rfl, rfl, rfl, rfl, rfl, congrArg (Value.int .i64) (by omega), rfl, trivial⟩, ⟨hk2, hW⟩⟩, by omega⟩
      · repeat'
          first
            | refine Q_then ?_ | refine C_cond_t rfl ?_ | refine C_cond_f rfl ?_ | refine C_seq ?_ | refine C_block ?_ | refine C_skip ?_ | refine C_ret ?_ | refine C_exit ?_
            | refine Q_then_ret ?_ | refine Q_then_exit ?_ | refine Q_block ?_ | refine Q_block_ret ?_ | refine Q_block_here ?_ | refine Q_block_on rfl ?_ | refine C_scope ?_ | refine C_label ?_ | refine Q_asn ?_
        rw [List.take_of_length_le (by omega), hG]
        have o8W := o8.keep hW
        have hya := o8W.form
        obtain ⟨_, _, e8, hy1, hy2, _⟩ := hya
        rw [hyl] at e8 hy1
        cases e8
        refine C_drawN (.read 0 (.read 1 (.read 2 (.read 3 (.read 4 (.read 5 (.read 7 (.read 8 (.read 9 (.read 11 (.read 12 (.read 13 (.read 14 (.read 16 (.alt 6 (.alt 10 (.alt 15 (.alt 17 (.read 18 (.read 19 .done)) .stop) .stop) .stop) .stop))))))))))))))) mixed (by kernel_rfl) (fun wd kd ed => ⟨Ext w9, ?_, ?_⟩)
        · exact hW.trans kd
        ((apply D_R rfl rfl; (intro W hW; (first | refine M_int rfl ?_ | refine W_move ?_); exact W_nil ⟨rfl, rfl, rfl⟩))
         <;> (apply D_R rfl rfl; (intro W hW; (first | refine M_int rfl ?_ | refine W_move ?_); exact W_nil ⟨rfl, rfl, rfl⟩))
         <;> (apply D_R rfl rfl; (intro W hW; (first | refine M_int rfl ?_ | refine W_move ?_); exact W_nil ⟨rfl, rfl, rfl⟩))
         <;> (apply D_R rfl rfl; (intro W hW; refine W_sub rfl rfl (by first | exact inR_i64 (by omega) (by omega) | exact inR_u8 (by omega) (by omega) | exact inR_u16 (by omega) (by omega)) ?_; exact W_nil ⟨rfl, rfl, rfl⟩))
         <;> (refine D_neq rfl rfl rfl rfl (fun hc => ?_) (fun hc => ?_) <;> try (exfalso; omega))
         <;> (apply D_R rfl rfl; (intro W hW; (first | refine M_bool rfl ?_ | refine W_move ?_); exact W_nil ⟨rfl, rfl, rfl⟩))
         <;> (first | refine D_skip rfl rfl rfl rfl ?_ | (apply D_R rfl rfl; (intro W hW; (refine W_yes rfl ?_; (first | refine M_slice rfl ?_ | refine W_move ?_)); exact W_nil ⟨rfl, rfl, rfl⟩)))
         <;> (first | refine D_skip rfl rfl rfl rfl ?_ | (apply D_R rfl rfl; (intro W hW; (refine W_yes rfl ?_; (first | refine M_int rfl ?_ | refine W_move ?_)); exact W_nil ⟨rfl, rfl, rfl⟩)))
         <;> (first | refine D_skip rfl rfl rfl rfl ?_ | (apply D_R rfl rfl; (intro W hW; (refine W_yes rfl ?_; refine W_slice_h rfl rfl (by omega) (by omega) ?_); exact W_nil ⟨rfl, rfl, rfl⟩)))
         <;> (first | refine D_skip rfl rfl rfl rfl ?_ | (apply D_R rfl rfl; (intro W hW; (refine W_yes rfl ?_; (first | refine M_slice rfl ?_ | refine W_move ?_)); exact W_nil ⟨rfl, rfl, rfl⟩)))
         <;> (first | refine D_skip rfl rfl rfl rfl ?_ | (apply D_R rfl rfl; (intro W hW; (refine W_yes rfl ?_; (first | refine M_int rfl ?_ | refine W_move ?_)); exact W_nil ⟨rfl, rfl, rfl⟩)))
         <;> (first | refine D_skip rfl rfl rfl rfl ?_ | (apply D_R rfl rfl; (intro W hW; (refine W_yes rfl ?_; refine W_add rfl rfl (by first | exact inR_i64 (by omega) (by omega) | exact inR_u8 (by omega) (by omega) | exact inR_u16 (by omega) (by omega)) ?_); exact W_nil ⟨rfl, rfl, rfl⟩)))
         <;> (first | refine D_skip rfl rfl rfl rfl ?_ | (apply D_R rfl rfl; (intro W hW; (refine W_yes rfl ?_; refine W_slice_l rfl rfl (by omega) (by omega) ?_); exact W_nil ⟨rfl, rfl, rfl⟩)))
         <;> (first | refine D_skip rfl rfl rfl rfl ?_ | (apply D_R rfl rfl; (intro W hW; (refine W_yes rfl ?_; (first | refine M_slice rfl ?_ | refine W_move ?_)); exact W_nil ⟨rfl, rfl, rfl⟩))))
        -- at place 14, operation 6: <dst=(some 98) op=(buildSlice 22 0 []) type=22 guard=(some [5, false])>
        refine D_E rfl ?_
        refine W_yes rfl ?_
        refine W_buildSlice1 (out := []) rfl (by omega) rfl rfl (fun V1 n1 => ?_)
        have z1 := n1.size
        have o1 := n1.own (n := 0) (size := 1) rfl (by unfold maxLen; omega) (Nat.le_refl _)
        have kV1 := (hW.trans kd).trans n1.keep
        refine W_nil ⟨Ext w9, fun _ h => h, kV1, ?_⟩
        refine D_E rfl ?_
        refine W_yes rfl ?_
        have iF : Ints V1 (.slice ya F.length yc) F := by
          have := (o8.keep kV1).take (j := F.length) (by simp)
          rwa [List.take_left'] at this
          rfl
        refine W_append rfl rfl o1 iF (by omega) rfl (by rw [intC_length]; omega) (oneC_int _) (by omega) (by omega) (by omega) (fun v2 V2 a2 => ?_)
        have kV2 : Ext w9 V2 := kV1.keep a2.keep fun x hx => by have := (o1.lt x (Option.mem_toList.1 hx)).1; have := (hW.trans kd).size; omega
        obtain ⟨v2a, v2c, rfl⟩ := own_form a2.own
        refine W_nil ⟨Ext w9, fun _ h => h, kV2, ?_⟩
        refine D_E rfl ?_
        refine W_yes rfl ?_
        have iG : Ints V2 (.slice (adv yc (F.length + 1) 1 ya) (r.length + 1 - (F.length + 1)) (yc - (F.length + 1))) G := by
          have hd := (o8.keep kV2).drop (j := F.length + 1) (by rw [hyl]; omega) (by rw [hyl]; omega)
          have e1 : (F ++ ((r.length : Int) + 1) :: G).drop (F.length + 1) = G := by
            rw [List.drop_append, List.drop_of_length_le (by omega), Nat.add_sub_cancel_left]; rfl
          rw [e1, hyl] at hd
          exact hd
        have hGl : r.length + 1 - (F.length + 1) = G.length := by omega
        rw [hGl] at iG
        have hFi : ((F.length : Int) + 1).toNat = F.length + 1 := by omega
        rw [hFi, hGl]
        refine W_append rfl rfl a2.own iG (by omega) rfl (by rw [intC_length]; omega) (oneC_int _) (by omega) (by omega) (by have := n1.keep.size; have := a2.keep.size; omega) (fun v3 V3 a3 => ?_)
        have kV3 : Ext w9 V3 := kV2.keep a3.keep fun x hx => by have := (a2.own.lt x (Option.mem_toList.1 hx)).1; have := (hW.trans kd).size; omega
        have i3 : Ints V3 v3 (F ++ G) := Ints.own (B := wd.heap.size) (by
          have e1 : 0 + F.length + G.length = (F ++ G).length := by simp
          have e2 : [] ++ intC F ++ intC G = intC (F ++ G) := by rw [intC_append]; rfl
          rw [← e2, ← e1]; exact a3.own)
        obtain ⟨v3a, v3c, rfl, _⟩ := i3.form
        refine W_nil ⟨Ext w9, fun _ h => h, kV3, ?_⟩
        refine D_E rfl ?_
        refine W_yes rfl ?_
        have i7 : Ints V3 (.slice xa r.length xc) (F ++ G) := by rw [← hst]; exact o7.keep kV3
        refine W_call (Ints_any _ _ (F ++ G) (F ++ G) _ i3 i7) rfl ?_
        rintro _ V4 ⟨rfl, q4⟩
        rw [beq_self_eq_true]
        refine W_nil ⟨Ext w9, fun _ h => h, kV3.trans q4, ?_⟩
        ((first | refine D_skip rfl rfl rfl rfl ?_ | (apply D_R rfl rfl; (intro W hW; (refine W_yes rfl ?_; refine W_not rfl ?_); exact W_nil ⟨rfl, rfl, rfl⟩)))
         <;> (apply D_R rfl rfl; (intro W hW; ((first | refine M_pick_t rfl ?_ | refine M_pick_f rfl ?_); (first | refine M_bool rfl ?_ | refine W_move ?_)); exact W_nil ⟨rfl, rfl, rfl⟩))
         <;> refine D_nil ?_)
        have kend := k18.trans (kV3.trans q4)
        rcases hp with hp | ⟨hp1, hp2⟩
        · rw [hp]
          repeat'
            first
              | refine Q_then ?_ | refine C_cond_t rfl ?_ | refine C_cond_f rfl ?_ | refine C_seq ?_ | refine C_block ?_ | refine C_skip ?_ | refine C_ret ?_ | refine C_exit ?_
              | refine Q_then_ret ?_ | refine Q_then_exit ?_ | refine Q_block ?_ | refine Q_block_ret ?_ | refine Q_block_here ?_ | refine Q_block_on rfl ?_ | refine C_scope ?_ | refine C_label ?_ | refine Q_asn ?_
          (refine C_region ?_
           <;> (first | refine M_bool rfl ?_ | refine W_move ?_)
           <;> (first | refine M_bool rfl ?_ | refine W_move ?_)
           <;> (first | refine W_no rfl ?_ | (refine W_yes rfl ?_; (first | refine M_int rfl ?_ | refine W_move ?_)))
           <;> (first | refine W_no rfl ?_ | (refine W_yes rfl ?_; (first | refine M_int rfl ?_ | refine W_move ?_)))
           <;> (first | refine W_no rfl ?_ | (refine W_yes rfl ?_; (refine W_eql rfl rfl (fun hc => ?_) (fun hc => ?_) <;> try (exfalso; omega))))
           <;> (first | refine W_no rfl ?_ | (refine W_yes rfl ?_; (first | refine M_bool rfl ?_ | refine W_move ?_)))
           <;> (first | refine W_no rfl ?_ | (refine W_yes rfl ?_; (first | refine M_int rfl ?_ | refine W_move ?_)))
           <;> (first | refine W_no rfl ?_ | (refine W_yes rfl ?_; (first | refine M_int rfl ?_ | refine W_move ?_)))
           <;> (first | refine W_no rfl ?_ | (refine W_yes rfl ?_; refine W_mul rfl rfl (by first | exact inR_i64 (by omega) (by omega) | exact inR_u8 (by omega) (by omega) | exact inR_u16 (by omega) (by omega)) ?_))
           <;> (first | refine W_no rfl ?_ | (refine W_yes rfl ?_; refine W_add rfl rfl (by first | exact inR_i64 (by omega) (by omega) | exact inR_u8 (by omega) (by omega) | exact inR_u16 (by omega) (by omega)) ?_))
           <;> (first | refine W_no rfl ?_ | (refine W_yes rfl ?_; (refine W_eql rfl rfl (fun hc => ?_) (fun hc => ?_) <;> try (exfalso; omega))))
           <;> (first | refine W_no rfl ?_ | (refine W_yes rfl ?_; (first | refine M_bool rfl ?_ | refine W_move ?_)))
           <;> (first | refine W_no rfl ?_ | (refine W_yes rfl ?_; (first | refine M_int rfl ?_ | refine W_move ?_)))
           <;> (first | refine W_no rfl ?_ | (refine W_yes rfl ?_; (first | refine M_int rfl ?_ | refine W_move ?_)))
           <;> (first | refine W_no rfl ?_ | (refine W_yes rfl ?_; refine W_add rfl rfl (by first | exact inR_i64 (by omega) (by omega) | exact inR_u8 (by omega) (by omega) | exact inR_u16 (by omega) (by omega)) ?_))
           <;> (first | refine W_no rfl ?_ | (refine W_yes rfl ?_; (refine W_eql rfl rfl (fun hc => ?_) (fun hc => ?_) <;> try (exfalso; omega))))
           <;> (first | refine W_no rfl ?_ | (refine W_yes rfl ?_; ((first | refine M_pick_t rfl ?_ | refine M_pick_f rfl ?_); (first | refine M_bool rfl ?_ | refine W_move ?_))))
           <;> (first | refine W_no rfl ?_ | (refine W_yes rfl ?_; ((first | refine M_pick_t rfl ?_ | refine M_pick_f rfl ?_); (first | refine M_bool rfl ?_ | refine W_move ?_))))
           <;> ((first | refine M_pick_t rfl ?_ | refine M_pick_f rfl ?_); (first | refine M_bool rfl ?_ | refine W_move ?_))
           <;> (refine M_assign ?_; (first | refine M_bool rfl ?_ | refine W_move ?_))
           <;> refine W_nil ?_)
          repeat'
            first
              | refine Q_then ?_ | refine C_cond_t rfl ?_ | refine C_cond_f rfl ?_ | refine C_seq ?_ | refine C_block ?_ | refine C_skip ?_ | refine C_ret ?_ | refine C_exit ?_
              | refine Q_then_ret ?_ | refine Q_then_exit ?_ | refine Q_block ?_ | refine Q_block_ret ?_ | refine Q_block_here ?_ | refine Q_block_on rfl ?_ | refine C_scope ?_ | refine C_label ?_ | refine Q_asn ?_
          exact fin_ret1 rfl ⟨rfl, kend⟩
        · rw [hp2, hp1]
          repeat'
            first
              | refine Q_then ?_ | refine C_cond_t rfl ?_ | refine C_cond_f rfl ?_ | refine C_seq ?_ | refine C_block ?_ | refine C_skip ?_ | refine C_ret ?_ | refine C_exit ?_
              | refine Q_then_ret ?_ | refine Q_then_exit ?_ | refine Q_block ?_ | refine Q_block_ret ?_ | refine Q_block_here ?_ | refine Q_block_on rfl ?_ | refine C_scope ?_ | refine C_label ?_ | refine Q_asn ?_
          (refine C_region ?_
           <;> (first | refine M_bool rfl ?_ | refine W_move ?_)
           <;> (first | refine M_bool rfl ?_ | refine W_move ?_)
           <;> (first | refine W_no rfl ?_ | (refine W_yes rfl ?_; (first | refine M_int rfl ?_ | refine W_move ?_)))
           <;> (first | refine W_no rfl ?_ | (refine W_yes rfl ?_; (first | refine M_int rfl ?_ | refine W_move ?_)))
           <;> (first | refine W_no rfl ?_ | (refine W_yes rfl ?_; (refine W_eql rfl rfl (fun hc => ?_) (fun hc => ?_) <;> try (exfalso; omega))))
           <;> (first | refine W_no rfl ?_ | (refine W_yes rfl ?_; (first | refine M_bool rfl ?_ | refine W_move ?_)))
           <;> (first | refine W_no rfl ?_ | (refine W_yes rfl ?_; (first | refine M_int rfl ?_ | refine W_move ?_)))
           <;> (first | refine W_no rfl ?_ | (refine W_yes rfl ?_; (first | refine M_int rfl ?_ | refine W_move ?_)))
           <;> (first | refine W_no rfl ?_ | (refine W_yes rfl ?_; refine W_mul rfl rfl (by first | exact inR_i64 (by omega) (by omega) | exact inR_u8 (by omega) (by omega) | exact inR_u16 (by omega) (by omega)) ?_))
           <;> (first | refine W_no rfl ?_ | (refine W_yes rfl ?_; refine W_add rfl rfl (by first | exact inR_i64 (by omega) (by omega) | exact inR_u8 (by omega) (by omega) | exact inR_u16 (by omega) (by omega)) ?_))
           <;> (first | refine W_no rfl ?_ | (refine W_yes rfl ?_; (refine W_eql rfl rfl (fun hc => ?_) (fun hc => ?_) <;> try (exfalso; omega))))
           <;> (first | refine W_no rfl ?_ | (refine W_yes rfl ?_; (first | refine M_bool rfl ?_ | refine W_move ?_)))
           <;> (first | refine W_no rfl ?_ | (refine W_yes rfl ?_; (first | refine M_int rfl ?_ | refine W_move ?_)))
           <;> (first | refine W_no rfl ?_ | (refine W_yes rfl ?_; (first | refine M_int rfl ?_ | refine W_move ?_)))
           <;> (first | refine W_no rfl ?_ | (refine W_yes rfl ?_; refine W_add rfl rfl (by first | exact inR_i64 (by omega) (by omega) | exact inR_u8 (by omega) (by omega) | exact inR_u16 (by omega) (by omega)) ?_))
           <;> (first | refine W_no rfl ?_ | (refine W_yes rfl ?_; (refine W_eql rfl rfl (fun hc => ?_) (fun hc => ?_) <;> try (exfalso; omega))))
           <;> (first | refine W_no rfl ?_ | (refine W_yes rfl ?_; ((first | refine M_pick_t rfl ?_ | refine M_pick_f rfl ?_); (first | refine M_bool rfl ?_ | refine W_move ?_))))
           <;> (first | refine W_no rfl ?_ | (refine W_yes rfl ?_; ((first | refine M_pick_t rfl ?_ | refine M_pick_f rfl ?_); (first | refine M_bool rfl ?_ | refine W_move ?_))))
           <;> ((first | refine M_pick_t rfl ?_ | refine M_pick_f rfl ?_); (first | refine M_bool rfl ?_ | refine W_move ?_))
           <;> (refine M_assign ?_; (first | refine M_bool rfl ?_ | refine W_move ?_))
           <;> refine W_nil ?_)
          repeat'
            first
              | refine Q_then ?_ | refine C_cond_t rfl ?_ | refine C_cond_f rfl ?_ | refine C_seq ?_ | refine C_block ?_ | refine C_skip ?_ | refine C_ret ?_ | refine C_exit ?_
              | refine Q_then_ret ?_ | refine Q_then_exit ?_ | refine Q_block ?_ | refine Q_block_ret ?_ | refine Q_block_here ?_ | refine Q_block_on rfl ?_ | refine C_scope ?_ | refine C_label ?_ | refine Q_asn ?_
          exact fin_ret1 rfl ⟨rfl, kend⟩
  · refine D_E rfl ?_
    refine W_buildSlice1 (out := [.int .i64 ((r.length : Int) + 1)]) rfl (by omega) rfl rfl (fun V1 n1 => ?_)
    have o1 := n1.own (n := 1) (size := 1) rfl (by unfold maxLen; omega) (Nat.le_refl _)
    have z1 := n1.size
    have j1 := kd.trans n1.keep
    refine W_nil ⟨Ext w7, fun _ h => h, j1, ?_⟩
    refine D_E rfl ?_
    refine W_buildSlice1 (out := []) rfl (by omega) rfl rfl (fun V2 n2 => ?_)
    have z2 := n2.size
    have o2 := n2.own (n := 0) (size := 1) rfl (by unfold maxLen; omega) (Nat.le_refl _)
    have j2 := j1.trans n2.keep
    refine W_nil ⟨Ext w7, fun _ h => h, j2, ?_⟩
    refine D_E rfl ?_
    refine W_append rfl rfl o2 (h.keep (k1.trans j2)) (by omega) rfl (by rw [intC_length]; omega) (oneC_int _) (by omega) (by omega) (by omega) (fun v3 V3 a3 => ?_)
    have j3 : Ext w7 V3 := j2.keep a3.keep fun x hx => by have := (o2.lt x (Option.mem_toList.1 hx)).1; omega
    obtain ⟨v3a, v3c, rfl⟩ := own_form a3.own
    have o1' : Sl anyB V3 (.slice (some ⟨wd.heap.size, 0, none⟩) 1 1) 1 [.int .i64 ((r.length : Int) + 1)] := ((Sl_of_own (ok := fun b => b = wd.heap.size) o1 fun g hg => by cases hg; rfl).ext n2.keep).keep a3.keep (fun b hb hm => by
      have := (o2.lt b (Option.mem_toList.1 hm)).1
      omega) |>.mono fun _ _ => trivial
    have zz := a3.keep.size
    refine W_nil ⟨Ext w7, fun _ h => h, j3, ?_⟩
    refine D_E rfl ?_
    refine W_append rfl rfl a3.own o1' (by omega) rfl rfl (by intro u hu; simp at hu; subst hu; rfl) (by omega) (by omega) (by omega) (fun v6 W6 a6 => ?_)
    have k6 : Ext w7 W6 := j3.keep a6.keep fun x hx => by have := (a3.own.lt x (Option.mem_toList.1 hx)).1; omega
    have o6 := a6.own
    generalize V1.heap.size = BB at o6
    have i6 : Ints W6 v6 (r ++ [(r.length : Int) + 1]) := Ints.own (B := BB) (by
      have e1 : 0 + r.length + 1 = (r ++ [(r.length : Int) + 1]).length := by simp
      have e2 : [] ++ intC r ++ [Value.int .i64 ((r.length : Int) + 1)] = intC (r ++ [(r.length : Int) + 1]) := by simp [intC]
      rw [← e2, ← e1]; exact o6)
    obtain ⟨va6, vc6, rfl, _⟩ := i6.form
    refine W_nil ⟨Ext w7, fun _ h => h, k6, ?_⟩
    refine D_E rfl ?_
    refine W_call (Step_any _ _ _ (r ++ [(r.length : Int) + 1]) e _ i6 (he.keep (k1.trans k6))) rfl ?_
    rintro _ w8 ⟨yv, rfl, o8, k8⟩
    rw [stepR_valid hv1, more_step hzb] at o8
    dsimp only at o8
    simp only [stepR_valid hv1, more_step hzb, hpp]
    obtain ⟨ya, yc, rfl⟩ := own_form o8
    replace o8 := Ints.own o8
    replace k8 := k6.trans k8
    refine W_nil ⟨Ext w7, fun _ h => h, k8, ?_⟩
    ((apply D_R rfl rfl; (intro W hW; (first | refine M_tuple rfl ?_ | refine W_move ?_); exact W_nil ⟨rfl, rfl, rfl⟩))
     <;> (apply D_R rfl rfl; (intro W hW; refine W_extract rfl rfl ?_; exact W_nil ⟨rfl, rfl, rfl⟩))
     <;> (apply D_R rfl rfl; (intro W hW; refine W_extract rfl rfl ?_; exact W_nil ⟨rfl, rfl, rfl⟩))
     <;> (apply D_R rfl rfl; (intro W hW; (refine M_assign ?_; (first | refine M_slice rfl ?_ | refine W_move ?_)); exact W_nil ⟨rfl, rfl, rfl⟩))
     <;> (apply D_R rfl rfl; (intro W hW; (refine M_assign ?_; (first | refine M_int rfl ?_ | refine W_move ?_)); exact W_nil ⟨rfl, rfl, rfl⟩))
     <;> refine D_nil ?_)
    clear i6 o6 k6 kd
    have k18 := k1.trans k8
    replace b1 := b1.keep k8 (by simp)
    replace o7 := o7.keep k8
    have hyl : (r.filter (fun x => !badB e x) ++ ((r.length : Int) + 1) :: r.filter (badB e)).length = r.length + 1 := by simp; omega
    rw [hyl] at o8 ⊢
    rw [hsl] at o7 ⊢
    repeat'
      first
        | refine Q_then ?_ | refine C_cond_t rfl ?_ | refine C_cond_f rfl ?_ | refine C_seq ?_ | refine C_block ?_ | refine C_skip ?_ | refine C_ret ?_ | refine C_exit ?_
        | refine Q_then_ret ?_ | refine Q_then_exit ?_ | refine Q_block ?_ | refine Q_block_ret ?_ | refine Q_block_here ?_ | refine Q_block_on rfl ?_ | refine C_scope ?_ | refine C_label ?_ | refine Q_asn ?_
    (refine C_region ?_
     <;> (first | refine M_slice rfl ?_ | refine W_move ?_)
     <;> refine W_len rfl ?_
     <;> (first | refine M_int rfl ?_ | refine W_move ?_)
     <;> (refine W_neq rfl rfl (fun hc => ?_) (fun hc => ?_) <;> try (exfalso; omega))
     <;> (first | refine M_bool rfl ?_ | refine W_move ?_)
     <;> (first | refine W_no rfl ?_ | (refine W_yes rfl ?_; (first | refine M_slice rfl ?_ | refine W_move ?_)))
     <;> (first | refine W_no rfl ?_ | (refine W_yes rfl ?_; refine W_len rfl ?_))
     <;> (first | refine W_no rfl ?_ | (refine W_yes rfl ?_; (first | refine M_int rfl ?_ | refine W_move ?_)))
     <;> (first | refine W_no rfl ?_ | (refine W_yes rfl ?_; refine W_add rfl rfl (by first | exact inR_i64 (by omega) (by omega) | exact inR_u8 (by omega) (by omega) | exact inR_u16 (by omega) (by omega)) ?_))
     <;> (first | refine W_no rfl ?_ | (refine W_yes rfl ?_; (refine W_neq rfl rfl (fun hc => ?_) (fun hc => ?_) <;> try (exfalso; omega))))
     <;> ((first | refine M_pick_t rfl ?_ | refine M_pick_f rfl ?_); (first | refine M_bool rfl ?_ | refine W_move ?_))
     <;> refine W_nil ?_)
    repeat'
      first
        | refine Q_then ?_ | refine C_cond_t rfl ?_ | refine C_cond_f rfl ?_ | refine C_seq ?_ | refine C_block ?_ | refine C_skip ?_ | refine C_ret ?_ | refine C_exit ?_
        | refine Q_then_ret ?_ | refine Q_then_exit ?_ | refine Q_block ?_ | refine Q_block_ret ?_ | refine Q_block_here ?_ | refine Q_block_on rfl ?_ | refine C_scope ?_ | refine C_label ?_ | refine Q_asn ?_
    (refine C_region ?_
     <;> (first | refine M_slice rfl ?_ | refine W_move ?_)
     <;> (first | refine M_int rfl ?_ | refine W_move ?_)
     <;> refine W_add rfl rfl (by first | exact inR_i64 (by omega) (by omega) | exact inR_u8 (by omega) (by omega) | exact inR_u16 (by omega) (by omega)) ?_)
    -- at operation 3: <dst=(some 77) op=(call <callee=(value (func 21)) args=[(tmp 74), (tmp 76)] argTypes=[22, 3]>) type=3 guard=none>
    refine W_call (position_any _ _ ((r.length : Int) + 1) _ o8) rfl ?_
    rintro _ w9 ⟨rfl, rfl⟩
    have hpz : posI (r.filter (fun x => !badB e x) ++ ((r.length : Int) + 1) :: r.filter (badB e)) ((r.length : Int) + 1) = ((r.filter (fun x => !badB e x)).length : Int) := by
      rw [posI_eq, if_pos (by simp), pos_append, if_neg (fun hh => hzr (List.mem_filter.1 hh).1), pos_cons, if_pos rfl]; simp
    rw [hpz]
    ((refine M_assign ?_; (first | refine M_int rfl ?_ | refine W_move ?_))
     <;> refine W_nil ?_)
    repeat'
      first
        | refine Q_then ?_ | refine C_cond_t rfl ?_ | refine C_cond_f rfl ?_ | refine C_seq ?_ | refine C_block ?_ | refine C_skip ?_ | refine C_ret ?_ | refine C_exit ?_
        | refine Q_then_ret ?_ | refine Q_then_exit ?_ | refine Q_block ?_ | refine Q_block_ret ?_ | refine Q_block_here ?_ | refine Q_block_on rfl ?_ | refine C_scope ?_ | refine C_label ?_ | refine Q_asn ?_
    (refine C_region ?_
     <;> (refine M_assign ?_; (first | refine M_int rfl ?_ | refine W_move ?_))
     <;> refine W_nil ?_)
    repeat'
      first
        | refine Q_then ?_ | refine C_cond_t rfl ?_ | refine C_cond_f rfl ?_ | refine C_seq ?_ | refine C_block ?_ | refine C_skip ?_ | refine C_ret ?_ | refine C_exit ?_
        | refine Q_then_ret ?_ | refine Q_then_exit ?_ | refine Q_block ?_ | refine Q_block_ret ?_ | refine Q_block_here ?_ | refine Q_block_on rfl ?_ | refine C_scope ?_ | refine C_label ?_ | refine Q_asn ?_
    (refine C_region ?_
     <;> (refine M_assign ?_; (first | refine M_int rfl ?_ | refine W_move ?_))
     <;> refine W_nil ?_)
    repeat'
      first
        | refine Q_then ?_ | refine C_cond_t rfl ?_ | refine C_cond_f rfl ?_ | refine C_seq ?_ | refine C_block ?_ | refine C_skip ?_ | refine C_ret ?_ | refine C_exit ?_
        | refine Q_then_ret ?_ | refine Q_then_exit ?_ | refine Q_block ?_ | refine Q_block_ret ?_ | refine Q_block_here ?_ | refine Q_block_on rfl ?_ | refine C_scope ?_ | refine C_label ?_ | refine Q_asn ?_
    generalize hF : r.filter (fun x => !badB e x) = F at *
    generalize hG : r.filter (badB e) = G at *
    refine C_loop (α := Nat) (fun k => [(0, .slice a r.length c), (3, .pointer (some ⟨pe, 0, none⟩)), (5, .bool true), (6, .int .i64 r.length), (7, .slice xa r.length xc), (8, .int .i64 (prioT e r r.length)), (9, .slice ya (r.length + 1) yc), (10, .int .i64 (prioT e (r ++ [(r.length : Int) + 1]) (r.length + 1))), (11, .int .i64 F.length), (12, .int .i64 ((r.take k).filter (badB e)).length), (13, .int .i64 k)])
      (fun k W => k ≤ r.length ∧ Ext w9 W) (fun k => r.length - k) 0 ⟨rfl, rfl, rfl, rfl, rfl, rfl, rfl, rfl, rfl, rfl, rfl, trivial⟩ ⟨by omega, Ext.refl _⟩ ?_
    rintro k W f' ⟨hk, hW⟩
    repeat'
      first
        | refine Q_then ?_ | refine C_cond_t rfl ?_ | refine C_cond_f rfl ?_ | refine C_seq ?_ | refine C_block ?_ | refine C_skip ?_ | refine C_ret ?_ | refine C_exit ?_
        | refine Q_then_ret ?_ | refine Q_then_exit ?_ | refine Q_block ?_ | refine Q_block_ret ?_ | refine Q_block_here ?_ | refine Q_block_on rfl ?_ | refine C_scope ?_ | refine C_label ?_ | refine Q_asn ?_
    (refine C_region ?_
     <;> (first | refine M_int rfl ?_ | refine W_move ?_)
     <;> (first | refine M_int rfl ?_ | refine W_move ?_)
     <;> (refine W_lss rfl rfl (fun hc => ?_) (fun hc => ?_) <;> try (exfalso; omega))
     <;> refine W_nil ?_)
    · repeat'
        first
          | refine Q_then ?_ | refine C_cond_t rfl ?_ | refine C_cond_f rfl ?_ | refine C_seq ?_ | refine C_block ?_ | refine C_skip ?_ | refine C_ret ?_ | refine C_exit ?_
          | refine Q_then_ret ?_ | refine Q_then_exit ?_ | refine Q_block ?_ | refine Q_block_ret ?_ | refine Q_block_here ?_ | refine Q_block_on rfl ?_ | refine C_scope ?_ | refine C_label ?_ | refine Q_asn ?_
      have hk2 : k < r.length := by omega
      obtain ⟨bb, o, rfl, g0⟩ := hx (by omega)
      have e1 := (k18.trans hW).cell (g0 k hk2) (by simp)
      have heW := he.keep (k18.trans hW)
      have hct := count_take hk2 (badB e)
      have hcl := List.length_filter_le (badB e) (r.take k)
      have hcl2 := List.length_take_le k r
      have q1 := fun W' (hW' : Ext W W') => hW'.cell e1 (by simp)
      have q2 := fun W' (hW' : Ext W W') => ((b1.keep hW (by simp)).keep hW' (by simp)).cell (o := 0 + 1) rfl
      refine C_drawN (.read 0 (.read 1 (.read 2 (.read 3 (.read 4 (.read 5 (.alt 6 .done .stop))))))) mixed (by kernel_rfl) (fun wd kd ed => ⟨Ext W, ?_, ?_⟩)
      · exact kd
      ((apply D_R rfl rfl; (intro W hW; refine W_fieldAddr rfl ?_; exact W_nil ⟨rfl, rfl, rfl⟩))
       <;> (apply D_R rfl rfl; (intro W hW; (first | refine W_load rfl (q1 W hW) ?_ | refine W_load rfl (q2 W hW) ?_ | refine W_load_agg rfl (by rfl) (q1 W hW) ?_ | refine W_load_agg rfl (by rfl) (q2 W hW) ?_); exact W_nil ⟨rfl, rfl, rfl⟩))
       <;> (apply D_R rfl rfl; (intro W hW; (first | refine M_slice rfl ?_ | refine W_move ?_); exact W_nil ⟨rfl, rfl, rfl⟩))
       <;> (apply D_R rfl rfl; (intro W hW; (first | refine M_int rfl ?_ | refine W_move ?_); exact W_nil ⟨rfl, rfl, rfl⟩))
       <;> (apply D_R rfl rfl; (intro W hW; (first | refine W_idx1 rfl rfl rfl (by omega) ?_ | refine W_idx rfl rfl rfl (by omega) ?_ | refine W_indexAddr rfl rfl (by omega) (by omega) ?_); exact W_nil ⟨rfl, rfl, rfl⟩))
       <;> (apply D_R rfl rfl; (intro W hW; (first | refine W_load rfl (q1 W hW) ?_ | refine W_load rfl (q2 W hW) ?_ | refine W_load_agg rfl (by rfl) (q1 W hW) ?_ | refine W_load_agg rfl (by rfl) (q2 W hW) ?_); exact W_nil ⟨rfl, rfl, rfl⟩)))
      -- at place 6, operation 6: <dst=(some 89) op=(call <callee=(value (func 22)) args=[(tmp 84), (tmp 88)] argTypes=[22, 3]>) type=4 guard=none>
      refine D_E rfl ?_
      refine W_call (In_any _ e.bad r[k] _ (heW.2.keep kd)) rfl ?_
      rintro _ W2 ⟨rfl, rfl⟩
      refine W_nil ⟨Ext W, fun _ h => h, kd, ?_⟩
      refine D_nil ?_
      replace hW := hW.trans kd
      have hbe : e.bad.contains r[k] = badB e r[k] := rfl
      rw [hbe]
      cases hb : badB e r[k] with
      | true =>
        rw [hb, if_pos rfl] at hct
        repeat'
          first
            | refine Q_then ?_ | refine C_cond_t rfl ?_ | refine C_cond_f rfl ?_ | refine C_seq ?_ | refine C_block ?_ | refine C_skip ?_ | refine C_ret ?_ | refine C_exit ?_
            | refine Q_then_ret ?_ | refine Q_then_exit ?_ | refine Q_block ?_ | refine Q_block_ret ?_ | refine Q_block_here ?_ | refine Q_block_on rfl ?_ | refine C_scope ?_ | refine C_label ?_ | refine Q_asn ?_
        (refine C_region ?_
         <;> (first | refine M_int rfl ?_ | refine W_move ?_)
         <;> refine W_add rfl rfl (by first | exact inR_i64 (by omega) (by omega) | exact inR_u8 (by omega) (by omega) | exact inR_u16 (by omega) (by omega)) ?_
         <;> (refine M_assign ?_; (first | refine M_int rfl ?_ | refine W_move ?_))
         <;> refine W_nil ?_)
        repeat'
          first
            | refine Q_then ?_ | refine C_cond_t rfl ?_ | refine C_cond_f rfl ?_ | refine C_seq ?_ | refine C_block ?_ | refine C_skip ?_ | refine C_ret ?_ | refine C_exit ?_
            | refine Q_then_ret ?_ | refine Q_then_exit ?_ | refine Q_block ?_ | refine Q_block_ret ?_ | refine Q_block_here ?_ | refine Q_block_on rfl ?_ | refine C_scope ?_ | refine C_label ?_ | refine Q_asn ?_
        (refine C_region ?_
         <;> (first | refine M_int rfl ?_ | refine W_move ?_)
         <;> refine W_add rfl rfl (by first | exact inR_i64 (by omega) (by omega) | exact inR_u8 (by omega) (by omega) | exact inR_u16 (by omega) (by omega)) ?_
         <;> (refine M_assign ?_; (first | refine M_int rfl ?_ | refine W_move ?_))
         <;> refine W_nil ?_)
        repeat'
          first
            | refine Q_then ?_ | refine C_cond_t rfl ?_ | refine C_cond_f rfl ?_ | refine C_seq ?_ | refine C_block ?_ | refine C_skip ?_ | refine C_ret ?_ | refine C_exit ?_
            | refine Q_then_ret ?_ | refine Q_then_exit ?_ | refine Q_block ?_ | refine Q_block_ret ?_ | refine Q_block_here ?_ | refine Q_block_on rfl ?_ | refine C_scope ?_ | refine C_label ?_ | refine Q_asn ?_
        exact ⟨k + 1, ⟨rfl, ⟨rfl, rfl, rfl, rfl, rfl, rfl, rfl, rfl, rfl, congrArg (Value.int .i64) (by omega), rfl, trivial⟩, ⟨hk2, hW⟩⟩, by omega⟩
      | false =>
        rw [hb, if_neg (by simp)] at hct
        repeat'
          first
            | refine Q_then ?_ | refine C_cond_t rfl ?_ | refine C_cond_f rfl ?_ | refine C_seq ?_ | refine C_block ?_ | refine C_skip ?_ | refine C_ret ?_ | refine C_exit ?_
            | refine Q_then_ret ?_ | refine Q_then_exit ?_ | refine Q_block ?_ | refine Q_block_ret ?_ | refine Q_block_here ?_ | refine Q_block_on rfl ?_ | refine C_scope ?_ | refine C_label ?_ | refine Q_asn ?_
        (refine C_region ?_
         <;> (first | refine M_int rfl ?_ | refine W_move ?_)
         <;> refine W_add rfl rfl (by first | exact inR_i64 (by omega) (by omega) | exact inR_u8 (by omega) (by omega) | exact inR_u16 (by omega) (by omega)) ?_
         <;> (refine M_assign ?_; (first | refine M_int rfl ?_ | refine W_move ?_))
         <;> refine W_nil ?_)
        repeat'
          first
            | refine Q_then ?_ | refine C_cond_t rfl ?_ | refine C_cond_f rfl ?_ | refine C_seq ?_ | refine C_block ?_ | refine C_skip ?_ | refine C_ret ?_ | refine C_exit ?_
            | refine Q_then_ret ?_ | refine Q_then_exit ?_ | refine Q_block ?_ | refine Q_block_ret ?_ | refine Q_block_here ?_ | refine Q_block_on rfl ?_ | refine C_scope ?_ | refine C_label ?_ | refine Q_asn ?_
        exact ⟨k + 1, ⟨rfl, ⟨rfl, rfl, rfl, rfl, rfl, rfl, rfl, rfl, rfl, congrArg (Value.int .i64) (by omega), rfl, trivial⟩, ⟨hk2, hW⟩⟩, by omega⟩
    · repeat'
        first
          | refine Q_then ?_ | refine C_cond_t rfl ?_ | refine C_cond_f rfl ?_ | refine C_seq ?_ | refine C_block ?_ | refine C_skip ?_ | refine C_ret ?_ | refine C_exit ?_
          | refine Q_then_ret ?_ | refine Q_then_exit ?_ | refine Q_block ?_ | refine Q_block_ret ?_ | refine Q_block_here ?_ | refine Q_block_on rfl ?_ | refine C_scope ?_ | refine C_label ?_ | refine Q_asn ?_
      rw [List.take_of_length_le (by omega), hG]
      have o8W := o8.keep hW
      have hya := o8W.form
      obtain ⟨_, _, e8, hy1, hy2, _⟩ := hya
      rw [hyl] at e8 hy1
      cases e8
      refine C_drawN (.read 0 (.read 1 (.read 2 (.read 3 (.read 4 (.read 5 (.read 7 (.read 8 (.read 9 (.read 11 (.read 12 (.read 13 (.read 14 (.read 16 (.alt 6 (.alt 10 (.alt 15 (.alt 17 (.read 18 (.read 19 .done)) .stop) .stop) .stop) .stop))))))))))))))) mixed (by kernel_rfl) (fun wd kd ed => ⟨Ext w9, ?_, ?_⟩)
      · exact hW.trans kd
      ((apply D_R rfl rfl; (intro W hW; (first | refine M_int rfl ?_ | refine W_move ?_); exact W_nil ⟨rfl, rfl, rfl⟩))
       <;> (apply D_R rfl rfl; (intro W hW; (first | refine M_int rfl ?_ | refine W_move ?_); exact W_nil ⟨rfl, rfl, rfl⟩))
       <;> (apply D_R rfl rfl; (intro W hW; (first | refine M_int rfl ?_ | refine W_move ?_); exact W_nil ⟨rfl, rfl, rfl⟩))
       <;> (apply D_R rfl rfl; (intro W hW; refine W_sub rfl rfl (by first | exact inR_i64 (by omega) (by omega) | exact inR_u8 (by omega) (by omega) | exact inR_u16 (by omega) (by omega)) ?_; exact W_nil ⟨rfl, rfl, rfl⟩))
       <;> (refine D_neq rfl rfl rfl rfl (fun hc => ?_) (fun hc => ?_) <;> try (exfalso; omega))
       <;> (apply D_R rfl rfl; (intro W hW; (first | refine M_bool rfl ?_ | refine W_move ?_); exact W_nil ⟨rfl, rfl, rfl⟩))
       <;> (first | refine D_skip rfl rfl rfl rfl ?_ | (apply D_R rfl rfl; (intro W hW; (refine W_yes rfl ?_; (first | refine M_slice rfl ?_ | refine W_move ?_)); exact W_nil ⟨rfl, rfl, rfl⟩)))
       <;> (first | refine D_skip rfl rfl rfl rfl ?_ | (apply D_R rfl rfl; (intro W hW; (refine W_yes rfl ?_; (first | refine M_int rfl ?_ | refine W_move ?_)); exact W_nil ⟨rfl, rfl, rfl⟩)))
       <;> (first | refine D_skip rfl rfl rfl rfl ?_ | (apply D_R rfl rfl; (intro W hW; (refine W_yes rfl ?_; refine W_slice_h rfl rfl (by omega) (by omega) ?_); exact W_nil ⟨rfl, rfl, rfl⟩)))
       <;> (first | refine D_skip rfl rfl rfl rfl ?_ | (apply D_R rfl rfl; (intro W hW; (refine W_yes rfl ?_; (first | refine M_slice rfl ?_ | refine W_move ?_)); exact W_nil ⟨rfl, rfl, rfl⟩)))
       <;> (first | refine D_skip rfl rfl rfl rfl ?_ | (apply D_R rfl rfl; (intro W hW; (refine W_yes rfl ?_; (first | refine M_int rfl ?_ | refine W_move ?_)); exact W_nil ⟨rfl, rfl, rfl⟩)))
       <;> (first | refine D_skip rfl rfl rfl rfl ?_ | (apply D_R rfl rfl; (intro W hW; (refine W_yes rfl ?_; refine W_add rfl rfl (by first | exact inR_i64 (by omega) (by omega) | exact inR_u8 (by omega) (by omega) | exact inR_u16 (by omega) (by omega)) ?_); exact W_nil ⟨rfl, rfl, rfl⟩)))
       <;> (first | refine D_skip rfl rfl rfl rfl ?_ | (apply D_R rfl rfl; (intro W hW; (refine W_yes rfl ?_; refine W_slice_l rfl rfl (by omega) (by omega) ?_); exact W_nil ⟨rfl, rfl, rfl⟩)))
       <;> (first | refine D_skip rfl rfl rfl rfl ?_ | (apply D_R rfl rfl; (intro W hW; (refine W_yes rfl ?_; (first | refine M_slice rfl ?_ | refine W_move ?_)); exact W_nil ⟨rfl, rfl, rfl⟩))))
      -- at place 14, operation 6: <dst=(some 98) op=(buildSlice 22 0 []) type=22 guard=(some [5, false])>
      refine D_E rfl ?_
      refine W_yes rfl ?_
      refine W_buildSlice1 (out := []) rfl (by omega) rfl rfl (fun V1 n1 => ?_)
      have z1 := n1.size
      have o1 := n1.own (n := 0) (size := 1) rfl (by unfold maxLen; omega) (Nat.le_refl _)
      have kV1 := (hW.trans kd).trans n1.keep
      refine W_nil ⟨Ext w9, fun _ h => h, kV1, ?_⟩
      refine D_E rfl ?_
      refine W_yes rfl ?_
      have iF : Ints V1 (.slice ya F.length yc) F := by
        have := (o8.keep kV1).take (j := F.length) (by simp)
        rwa [List.take_left'] at this
        rfl
      refine W_append rfl rfl o1 iF (by omega) rfl (by rw [intC_length]; omega) (oneC_int _) (by omega) (by omega) (by omega) (fun v2 V2 a2 => ?_)
      have kV2 : Ext w9 V2 := kV1.keep a2.keep fun x hx => by have := (o1.lt x (Option.mem_toList.1 hx)).1; have := (hW.trans kd).size; omega
      obtain ⟨v2a, v2c, rfl⟩ := own_form a2.own
      refine W_nil ⟨Ext w9, fun _ h => h, kV2, ?_⟩
      refine D_E rfl ?_
      refine W_yes rfl ?_
      have iG : Ints V2 (.slice (adv yc (F.length + 1) 1 ya) (r.length + 1 - (F.length + 1)) (yc - (F.length + 1))) G := by
        have hd := (o8.keep kV2).drop (j := F.length + 1) (by rw [hyl]; omega) (by rw [hyl]; omega)
        have e1 : (F ++ ((r.length : Int) + 1) :: G).drop (F.length + 1) = G := by
          rw [List.drop_append, List.drop_of_length_le (by omega), Nat.add_sub_cancel_left]; rfl
        rw [e1, hyl] at hd
        exact hd
      have hGl : r.length + 1 - (F.length + 1) = G.length := by omega
      rw [hGl] at iG
      have hFi : ((F.length : Int) + 1).toNat = F.length + 1 := by omega
      rw [hFi, hGl]
      refine W_append rfl rfl a2.own iG (by omega) rfl (by rw [intC_length]; omega) (oneC_int _) (by omega) (by omega) (by have := n1.keep.size; have := a2.keep.size; omega) (fun v3 V3 a3 => ?_)
      have kV3 : Ext w9 V3 := kV2.keep a3.keep fun x hx => by have := (a2.own.lt x (Option.mem_toList.1 hx)).1; have := (hW.trans kd).size; omega
      have i3 : Ints V3 v3 (F ++ G) := Ints.own (B := wd.heap.size) (by
        have e1 : 0 + F.length + G.length = (F ++ G).length := by simp
        have e2 : [] ++ intC F ++ intC G = intC (F ++ G) := by rw [intC_append]; rfl
        rw [← e2, ← e1]; exact a3.own)
      obtain ⟨v3a, v3c, rfl, _⟩ := i3.form
      refine W_nil ⟨Ext w9, fun _ h => h, kV3, ?_⟩
      refine D_E rfl ?_
      refine W_yes rfl ?_
      have i7 : Ints V3 (.slice xa r.length xc) (F ++ G) := by rw [← hst]; exact o7.keep kV3
      refine W_call (Ints_any _ _ (F ++ G) (F ++ G) _ i3 i7) rfl ?_
      rintro _ V4 ⟨rfl, q4⟩
      rw [beq_self_eq_true]
      refine W_nil ⟨Ext w9, fun _ h => h, kV3.trans q4, ?_⟩
      ((first | refine D_skip rfl rfl rfl rfl ?_ | (apply D_R rfl rfl; (intro W hW; (refine W_yes rfl ?_; refine W_not rfl ?_); exact W_nil ⟨rfl, rfl, rfl⟩)))
       <;> (apply D_R rfl rfl; (intro W hW; ((first | refine M_pick_t rfl ?_ | refine M_pick_f rfl ?_); (first | refine M_bool rfl ?_ | refine W_move ?_)); exact W_nil ⟨rfl, rfl, rfl⟩))
       <;> refine D_nil ?_)
      have kend := k18.trans (kV3.trans q4)
      rcases hp with hp | ⟨hp1, hp2⟩
      · rw [hp]
        repeat'
          first
            | refine Q_then ?_ | refine C_cond_t rfl ?_ | refine C_cond_f rfl ?_ | refine C_seq ?_ | refine C_block ?_ | refine C_skip ?_ | refine C_ret ?_ | refine C_exit ?_
            | refine Q_then_ret ?_ | refine Q_then_exit ?_ | refine Q_block ?_ | refine Q_block_ret ?_ | refine Q_block_here ?_ | refine Q_block_on rfl ?_ | refine C_scope ?_ | refine C_label ?_ | refine Q_asn ?_
        (refine C_region ?_
         <;> (first | refine M_bool rfl ?_ | refine W_move ?_)
         <;> (first | refine M_bool rfl ?_ | refine W_move ?_)
         <;> (first | refine W_no rfl ?_ | (refine W_yes rfl ?_; (first | refine M_int rfl ?_ | refine W_move ?_)))
         <;> (first | refine W_no rfl ?_ | (refine W_yes rfl ?_; (first | refine M_int rfl ?_ | refine W_move ?_)))
         <;> (first | refine W_no rfl ?_ | (refine W_yes rfl ?_; (refine W_eql rfl rfl (fun hc => ?_) (fun hc => ?_) <;> try (exfalso; omega))))
         <;> (first | refine W_no rfl ?_ | (refine W_yes rfl ?_; (first | refine M_bool rfl ?_ | refine W_move ?_)))
         <;> (first | refine W_no rfl ?_ | (refine W_yes rfl ?_; (first | refine M_int rfl ?_ | refine W_move ?_)))
         <;> (first | refine W_no rfl ?_ | (refine W_yes rfl ?_; (first | refine M_int rfl ?_ | refine W_move ?_)))
         <;> (first | refine W_no rfl ?_ | (refine W_yes rfl ?_; refine W_mul rfl rfl (by first | exact inR_i64 (by omega) (by omega) | exact inR_u8 (by omega) (by omega) | exact inR_u16 (by omega) (by omega)) ?_))
         <;> (first | refine W_no rfl ?_ | (refine W_yes rfl ?_; refine W_add rfl rfl (by first | exact inR_i64 (by omega) (by omega) | exact inR_u8 (by omega) (by omega) | exact inR_u16 (by omega) (by omega)) ?_))
         <;> (first | refine W_no rfl ?_ | (refine W_yes rfl ?_; (refine W_eql rfl rfl (fun hc => ?_) (fun hc => ?_) <;> try (exfalso; omega))))
         <;> (first | refine W_no rfl ?_ | (refine W_yes rfl ?_; (first | refine M_bool rfl ?_ | refine W_move ?_)))
         <;> (first | refine W_no rfl ?_ | (refine W_yes rfl ?_; (first | refine M_int rfl ?_ | refine W_move ?_)))
         <;> (first | refine W_no rfl ?_ | (refine W_yes rfl ?_; (first | refine M_int rfl ?_ | refine W_move ?_)))
         <;> (first | refine W_no rfl ?_ | (refine W_yes rfl ?_; refine W_add rfl rfl (by first | exact inR_i64 (by omega) (by omega) | exact inR_u8 (by omega) (by omega) | exact inR_u16 (by omega) (by omega)) ?_))
         <;> (first | refine W_no rfl ?_ | (refine W_yes rfl ?_; (refine W_eql rfl rfl (fun hc => ?_) (fun hc => ?_) <;> try (exfalso; omega))))
         <;> (first | refine W_no rfl ?_ | (refine W_yes rfl ?_; ((first | refine M_pick_t rfl ?_ | refine M_pick_f rfl ?_); (first | refine M_bool rfl ?_ | refine W_move ?_))))
         <;> (first | refine W_no rfl ?_ | (refine W_yes rfl ?_; ((first | refine M_pick_t rfl ?_ | refine M_pick_f rfl ?_); (first | refine M_bool rfl ?_ | refine W_move ?_))))
         <;> ((first | refine M_pick_t rfl ?_ | refine M_pick_f rfl ?_); (first | refine M_bool rfl ?_ | refine W_move ?_))
         <;> (refine M_assign ?_; (first | refine M_bool rfl ?_ | refine W_move ?_))
         <;> refine W_nil ?_)
        repeat'
          first
            | refine Q_then ?_ | refine C_cond_t rfl ?_ | refine C_cond_f rfl ?_ | refine C_seq ?_ | refine C_block ?_ | refine C_skip ?_ | refine C_ret ?_ | refine C_exit ?_
            | refine Q_then_ret ?_ | refine Q_then_exit ?_ | refine Q_block ?_ | refine Q_block_ret ?_ | refine Q_block_here ?_ | refine Q_block_on rfl ?_ | refine C_scope ?_ | refine C_label ?_ | refine Q_asn ?_
        exact fin_ret1 rfl ⟨rfl, kend⟩
      · rw [hp2, hp1]
        repeat'
          first
            | refine Q_then ?_ | refine C_cond_t rfl ?_ | refine C_cond_f rfl ?_ | refine C_seq ?_ | refine C_block ?_ | refine C_skip ?_ | refine C_ret ?_ | refine C_exit ?_
            | refine Q_then_ret ?_ | refine Q_then_exit ?_ | refine Q_block ?_ | refine Q_block_ret ?_ | refine Q_block_here ?_ | refine Q_block_on rfl ?_ | refine C_scope ?_ | refine C_label ?_ | refine Q_asn ?_
        (refine C_region ?_
         <;> (first | refine M_bool rfl ?_ | refine W_move ?_)
         <;> (first | refine M_bool rfl ?_ | refine W_move ?_)
         <;> (first | refine W_no rfl ?_ | (refine W_yes rfl ?_; (first | refine M_int rfl ?_ | refine W_move ?_)))
         <;> (first | refine W_no rfl ?_ | (refine W_yes rfl ?_; (first | refine M_int rfl ?_ | refine W_move ?_)))
         <;> (first | refine W_no rfl ?_ | (refine W_yes rfl ?_; (refine W_eql rfl rfl (fun hc => ?_) (fun hc => ?_) <;> try (exfalso; omega))))
         <;> (first | refine W_no rfl ?_ | (refine W_yes rfl ?_; (first | refine M_bool rfl ?_ | refine W_move ?_)))
         <;> (first | refine W_no rfl ?_ | (refine W_yes rfl ?_; (first | refine M_int rfl ?_ | refine W_move ?_)))
         <;> (first | refine W_no rfl ?_ | (refine W_yes rfl ?_; (first | refine M_int rfl ?_ | refine W_move ?_)))
         <;> (first | refine W_no rfl ?_ | (refine W_yes rfl ?_; refine W_mul rfl rfl (by first | exact inR_i64 (by omega) (by omega) | exact inR_u8 (by omega) (by omega) | exact inR_u16 (by omega) (by omega)) ?_))
         <;> (first | refine W_no rfl ?_ | (refine W_yes rfl ?_; refine W_add rfl rfl (by first | exact inR_i64 (by omega) (by omega) | exact inR_u8 (by omega) (by omega) | exact inR_u16 (by omega) (by omega)) ?_))
         <;> (first | refine W_no rfl ?_ | (refine W_yes rfl ?_; (refine W_eql rfl rfl (fun hc => ?_) (fun hc => ?_) <;> try (exfalso; omega))))
         <;> (first | refine W_no rfl ?_ | (refine W_yes rfl ?_; (first | refine M_bool rfl ?_ | refine W_move ?_)))
         <;> (first | refine W_no rfl ?_ | (refine W_yes rfl ?_; (first | refine M_int rfl ?_ | refine W_move ?_)))
         <;> (first | refine W_no rfl ?_ | (refine W_yes rfl ?_; (first | refine M_int rfl ?_ | refine W_move ?_)))
         <;> (first | refine W_no rfl ?_ | (refine W_yes rfl ?_; refine W_add rfl rfl (by first | exact inR_i64 (by omega) (by omega) | exact inR_u8 (by omega) (by omega) | exact inR_u16 (by omega) (by omega)) ?_))
         <;> (first | refine W_no rfl ?_ | (refine W_yes rfl ?_; (refine W_eql rfl rfl (fun hc => ?_) (fun hc => ?_) <;> try (exfalso; omega))))
         <;> (first | refine W_no rfl ?_ | (refine W_yes rfl ?_; ((first | refine M_pick_t rfl ?_ | refine M_pick_f rfl ?_); (first | refine M_bool rfl ?_ | refine W_move ?_))))
         <;> (first | refine W_no rfl ?_ | (refine W_yes rfl ?_; ((first | refine M_pick_t rfl ?_ | refine M_pick_f rfl ?_); (first | refine M_bool rfl ?_ | refine W_move ?_))))
         <;> ((first | refine M_pick_t rfl ?_ | refine M_pick_f rfl ?_); (first | refine M_bool rfl ?_ | refine W_move ?_))
         <;> (refine M_assign ?_; (first | refine M_bool rfl ?_ | refine W_move ?_))
         <;> refine W_nil ?_)
        repeat'
          first
            | refine Q_then ?_ | refine C_cond_t rfl ?_ | refine C_cond_f rfl ?_ | refine C_seq ?_ | refine C_block ?_ | refine C_skip ?_ | refine C_ret ?_ | refine C_exit ?_
            | refine Q_then_ret ?_ | refine Q_then_exit ?_ | refine Q_block ?_ | refine Q_block_ret ?_ | refine Q_block_here ?_ | refine Q_block_on rfl ?_ | refine C_scope ?_ | refine C_label ?_ | refine Q_asn ?_
        exact fin_ret1 rfl ⟨rfl, kend⟩
end Go.Proofs.Yticliabmhgofjaa
