/- Records: names renamed. Conditions: none. -/
import Derived.Test.YticliabmhgofjaaRQ
namespace Go.Proofs.Yticliabmhgofjaa
open Go.RowKit
set_option linter.unusedVariables false


/-- the events of a list of the call's own: their lists lie in other blocks -/
def EvsO (W : World) (v : Value) (vs : List (Value × Value)) (es : List Evt) : Prop :=
  vs.length = es.length ∧ ∀ (i : Nat) (p : Value × Value) (e : Evt), vs[i]? = some p → es[i]? = some e →
    Sl (fun b => v.ownBlock ≠ some b ∧ b < W.heap.size) W p.1 e.good.length (intC e.good) ∧ Sl (fun b => v.ownBlock ≠ some b ∧ b < W.heap.size) W p.2 e.bad.length (intC e.bad)
theorem EvsO.ext {W W' : World} {v : Value} {vs : List (Value × Value)} {es : List Evt} (h : EvsO W v vs es) (k : Ext W W') : EvsO W' v vs es :=
  ⟨h.1, fun i p e hp he => by
    obtain ⟨h1, h2⟩ := h.2 i p e hp he
    exact ⟨(h1.ext k).mono fun b hb => ⟨hb.1, Nat.lt_of_lt_of_le hb.2 k.size⟩, (h2.ext k).mono fun b hb => ⟨hb.1, Nat.lt_of_lt_of_le hb.2 k.size⟩⟩⟩
theorem EvsO.push {W W' : World} {v v' : Value} {vs : List (Value × Value)} {es : List Evt} (h : EvsO W v vs es) (k : Keep v.ownBlock.toList W W') (hb : v'.ownBlock = v.ownBlock ∨ v'.ownBlock = some W.heap.size) {p : Value × Value} {e : Evt}
    (h1 : Sl (fun b => v.ownBlock ≠ some b ∧ b < W.heap.size) W p.1 e.good.length (intC e.good)) (h2 : Sl (fun b => v.ownBlock ≠ some b ∧ b < W.heap.size) W p.2 e.bad.length (intC e.bad)) : EvsO W' v' (vs ++ [p]) (es ++ [e]) := by
  have one : ∀ {u : Value} {l : List Int}, Sl (fun b => v.ownBlock ≠ some b ∧ b < W.heap.size) W u l.length (intC l) → Sl (fun b => v'.ownBlock ≠ some b ∧ b < W'.heap.size) W' u l.length (intC l) := by
    intro u l hh
    refine (hh.keep k fun b hb hm => hb.1 (Option.mem_toList.1 hm)).mono fun b hbb => ⟨?_, Nat.lt_of_lt_of_le hbb.2 k.size⟩
    rcases hb with hb | hb
    · rw [hb]; exact hbb.1
    · rw [hb]; intro e'; cases e'; omega
  refine ⟨by simp [h.1], fun i q f hq hf => ?_⟩
  by_cases hi : i < vs.length
  · rw [List.getElem?_append_left hi] at hq
    rw [List.getElem?_append_left (by have := h.1; omega)] at hf
    obtain ⟨a, b⟩ := h.2 i q f hq hf
    exact ⟨one a, one b⟩
  · rw [List.getElem?_append_right (by omega)] at hq
    rw [List.getElem?_append_right (by have := h.1; omega)] at hf
    have hl := h.1
    by_cases hi2 : i = vs.length
    · subst hi2
      rw [Nat.sub_self] at hq
      rw [hl, Nat.sub_self] at hf
      simp at hq hf
      subst hq; subst hf
      exact ⟨one h1, one h2⟩
    · rw [List.getElem?_eq_none (by simp; omega)] at hq; cases hq
theorem EvsO.at {W : World} {B e : Nat} {v : Value} {vs : List (Value × Value)} {es : List Evt} (h : EvsO W v vs es) (o : W.ownsRow B e 2 v es.length (pairC vs)) : EvsAt W v es :=
  ⟨vs, Sl_of_own o fun _ _ => trivial, h.1, fun i p e hp he => ⟨(h.2 i p e hp he).1.mono fun _ _ => trivial, (h.2 i p e hp he).2.mono fun _ _ => trivial⟩⟩
theorem pairC_snoc (vs : List (Value × Value)) (p : Value × Value) : pairC (vs ++ [p]) = pairC vs ++ [p.1, p.2] := by simp [pairC]

theorem RecordRenames_law (v tv g b lv : Value) (r to : List Int) (e : Evt) (lp : List Evt) (w : World) (h : Ints w v r) (ht : Ints w tv to) (he : EvAt w g b e) (hl1 : EvsAt w lv lp) :
    Fn Try.prog 8 [v, tv, .agg #[g, b], lv] w fun v w' => v = .bool true ∧ Ext w w' := by
  obtain ⟨a, c, rfl, hlc, hc0, _⟩ := h.form
  obtain ⟨ta, tc, rfl, _⟩ := ht.form
  obtain ⟨la, lc, rfl, hll, hll2, hlx⟩ := hl1.form
  obtain ⟨ga, gc, rfl, _⟩ := he.1.form
  obtain ⟨ba, bc, rfl, _⟩ := he.2.form
  refine fn_of_wc Try.func8 rfl Try.ntmps8 (Nat.le_of_ble_eq_true rfl) (by kernel_rfl) ?_
  repeat'
    first
      | refine Q_then ?_ | refine C_cond_t rfl ?_ | refine C_cond_f rfl ?_ | refine C_seq ?_ | refine C_block ?_ | refine C_skip ?_ | refine C_ret ?_ | refine C_exit ?_
      | refine Q_then_ret ?_ | refine Q_then_exit ?_ | refine Q_block ?_ | refine Q_block_ret ?_ | refine Q_block_here ?_ | refine Q_block_on rfl ?_ | refine C_scope ?_ | refine C_label ?_ | refine Q_asn ?_
  refine C_region ?_
  refine W_box (L := [.slice ga e.good.length gc, .slice ba e.bad.length bc]) rfl (fun w1 n1 => ?_)
  have b1 := n1.blk
  have k1 := n1.keep
  clear n1
  generalize w.heap.size = pe at *
  ((refine M_assign ?_; (first | refine M_bool rfl ?_ | refine W_move ?_))
   <;> refine W_nil ?_)
  repeat'
    first
      | refine Q_then ?_ | refine C_cond_t rfl ?_ | refine C_cond_f rfl ?_ | refine C_seq ?_ | refine C_block ?_ | refine C_skip ?_ | refine C_ret ?_ | refine C_exit ?_
      | refine Q_then_ret ?_ | refine Q_then_exit ?_ | refine Q_block ?_ | refine Q_block_ret ?_ | refine Q_block_here ?_ | refine Q_block_on rfl ?_ | refine C_scope ?_ | refine C_label ?_ | refine Q_asn ?_
  (refine C_region ?_)
  -- at operation 0: <dst=(some 16) op=(call <callee=(value (func 9)) args=[] argTypes=[]>) type=4 guard=none>
  refine W_call (head_any _) rfl ?_
  rintro _ w2 ⟨rfl, k2⟩
  replace b1 := b1.keep k2 (by simp)
  replace k1 := k1.trans k2
  clear k2
  ((refine M_assign ?_; (first | refine M_bool rfl ?_ | refine W_move ?_))
   <;> refine W_nil ?_)
  repeat'
    first
      | refine Q_then ?_ | refine C_cond_t rfl ?_ | refine C_cond_f rfl ?_ | refine C_seq ?_ | refine C_block ?_ | refine C_skip ?_ | refine C_ret ?_ | refine C_exit ?_
      | refine Q_then_ret ?_ | refine Q_then_exit ?_ | refine Q_block ?_ | refine Q_block_ret ?_ | refine Q_block_here ?_ | refine Q_block_on rfl ?_ | refine C_scope ?_ | refine C_label ?_ | refine Q_asn ?_
  (refine C_region ?_
   <;> (first | refine M_slice rfl ?_ | refine W_move ?_)
   <;> refine W_len rfl ?_
   <;> (refine W_gtr rfl rfl (fun hc => ?_) (fun hc => ?_) <;> try (exfalso; omega))
   <;> (first | refine M_bool rfl ?_ | refine W_move ?_)
   <;> (first | refine W_no rfl ?_ | (refine W_yes rfl ?_; (first | refine M_slice rfl ?_ | refine W_move ?_)))
   <;> (first | refine W_no rfl ?_ | (refine W_yes rfl ?_; refine W_len rfl ?_))
   <;> (first | refine W_no rfl ?_ | (refine W_yes rfl ?_; (first | refine M_slice rfl ?_ | refine W_move ?_)))
   <;> (first | refine W_no rfl ?_ | (refine W_yes rfl ?_; refine W_len rfl ?_))
   <;> (first | refine W_no rfl ?_ | (refine W_yes rfl ?_; (refine W_neq rfl rfl (fun hc => ?_) (fun hc => ?_) <;> try (exfalso; omega))))
   <;> ((first | refine M_pick_t rfl ?_ | refine M_pick_f rfl ?_); (first | refine M_bool rfl ?_ | refine W_move ?_))
   <;> (first | refine M_bool rfl ?_ | refine W_move ?_)
   <;> (first | refine W_no rfl ?_ | (refine W_yes rfl ?_; (first | refine W_load_aggB rfl (by assumption) (by rfl) ?_ | refine W_load_agg rfl (by rfl) (Blk.cells (by assumption)) ?_))))
  -- at operation 12: <dst=(some 29) op=(call <callee=(value (func 10)) args=[(tmp 28)] argTypes=[24]>) type=4 guard=(some [10, false])>
  iterate 2
    · refine W_no rfl ?_
      ((first | refine W_no rfl ?_ | (refine W_yes rfl ?_; refine W_not rfl ?_))
       <;> ((first | refine M_pick_t rfl ?_ | refine M_pick_f rfl ?_); (first | refine M_bool rfl ?_ | refine W_move ?_))
       <;> (first | refine M_bool rfl ?_ | refine W_move ?_)
       <;> (first | refine W_no rfl ?_ | (refine W_yes rfl ?_; (first | refine M_slice rfl ?_ | refine W_move ?_)))
       <;> refine W_no rfl ?_
       <;> (first | refine W_no rfl ?_ | (refine W_yes rfl ?_; refine W_not rfl ?_))
       <;> ((first | refine M_pick_t rfl ?_ | refine M_pick_f rfl ?_); (first | refine M_bool rfl ?_ | refine W_move ?_))
       <;> (first | refine M_bool rfl ?_ | refine W_move ?_)
       <;> (first | refine W_no rfl ?_ | (refine W_yes rfl ?_; (first | refine M_slice rfl ?_ | refine W_move ?_)))
       <;> (first | refine W_no rfl ?_ | (refine W_yes rfl ?_; (first | refine M_slice rfl ?_ | refine W_move ?_)))
       <;> (first | refine W_no rfl ?_ | (refine W_yes rfl ?_; refine W_len rfl ?_))
       <;> refine W_no rfl ?_
       <;> (first | refine W_no rfl ?_ | (refine W_yes rfl ?_; refine W_not rfl ?_))
       <;> ((first | refine M_pick_t rfl ?_ | refine M_pick_f rfl ?_); (first | refine M_bool rfl ?_ | refine W_move ?_))
       <;> (first | refine M_bool rfl ?_ | refine W_move ?_)
       <;> (first | refine W_no rfl ?_ | (refine W_yes rfl ?_; (first | refine M_slice rfl ?_ | refine W_move ?_)))
       <;> (first | refine W_no rfl ?_ | (refine W_yes rfl ?_; (first | refine M_slice rfl ?_ | refine W_move ?_)))
       <;> (first | refine W_no rfl ?_ | (refine W_yes rfl ?_; refine W_len rfl ?_))
       <;> refine W_no rfl ?_
       <;> (first | refine W_no rfl ?_ | (refine W_yes rfl ?_; refine W_not rfl ?_))
       <;> ((first | refine M_pick_t rfl ?_ | refine M_pick_f rfl ?_); (first | refine M_bool rfl ?_ | refine W_move ?_))
       <;> refine W_nil ?_)
      repeat'
        first
          | refine Q_then ?_ | refine C_cond_t rfl ?_ | refine C_cond_f rfl ?_ | refine C_seq ?_ | refine C_block ?_ | refine C_skip ?_ | refine C_ret ?_ | refine C_exit ?_
          | refine Q_then_ret ?_ | refine Q_then_exit ?_ | refine Q_block ?_ | refine Q_block_ret ?_ | refine Q_block_here ?_ | refine Q_block_on rfl ?_ | refine C_scope ?_ | refine C_label ?_ | refine Q_asn ?_
      (refine C_region ?_
       <;> (first | refine M_bool rfl ?_ | refine W_move ?_)
       <;> (refine M_assign ?_; (first | refine M_bool rfl ?_ | refine W_move ?_))
       <;> refine W_nil ?_)
      repeat'
        first
          | refine Q_then ?_ | refine C_cond_t rfl ?_ | refine C_cond_f rfl ?_ | refine C_seq ?_ | refine C_block ?_ | refine C_skip ?_ | refine C_ret ?_ | refine C_exit ?_
          | refine Q_then_ret ?_ | refine Q_then_exit ?_ | refine Q_block ?_ | refine Q_block_ret ?_ | refine Q_block_here ?_ | refine Q_block_on rfl ?_ | refine C_scope ?_ | refine C_label ?_ | refine Q_asn ?_
      exact fin_ret1 rfl ⟨rfl, k1⟩
  rename_i hr200
  have htl : to.length = r.length := by omega
  refine W_yes rfl ?_
  refine W_call (Short_any _ _ e _ (he.keep k1)) rfl ?_
  rintro _ w3 ⟨rfl, k3⟩
  replace b1 := b1.keep k3 (by simp)
  replace k1 := k1.trans k3
  clear k3
  cases hs : shortE e with
  | false =>
    ((first | refine W_no rfl ?_ | (refine W_yes rfl ?_; refine W_not rfl ?_))
     <;> ((first | refine M_pick_t rfl ?_ | refine M_pick_f rfl ?_); (first | refine M_bool rfl ?_ | refine W_move ?_))
     <;> (first | refine M_bool rfl ?_ | refine W_move ?_)
     <;> (first | refine W_no rfl ?_ | (refine W_yes rfl ?_; (first | refine M_slice rfl ?_ | refine W_move ?_)))
     <;> refine W_no rfl ?_
     <;> (first | refine W_no rfl ?_ | (refine W_yes rfl ?_; refine W_not rfl ?_))
     <;> ((first | refine M_pick_t rfl ?_ | refine M_pick_f rfl ?_); (first | refine M_bool rfl ?_ | refine W_move ?_))
     <;> (first | refine M_bool rfl ?_ | refine W_move ?_)
     <;> (first | refine W_no rfl ?_ | (refine W_yes rfl ?_; (first | refine M_slice rfl ?_ | refine W_move ?_)))
     <;> (first | refine W_no rfl ?_ | (refine W_yes rfl ?_; (first | refine M_slice rfl ?_ | refine W_move ?_)))
     <;> (first | refine W_no rfl ?_ | (refine W_yes rfl ?_; refine W_len rfl ?_))
     <;> refine W_no rfl ?_
     <;> (first | refine W_no rfl ?_ | (refine W_yes rfl ?_; refine W_not rfl ?_))
     <;> ((first | refine M_pick_t rfl ?_ | refine M_pick_f rfl ?_); (first | refine M_bool rfl ?_ | refine W_move ?_))
     <;> (first | refine M_bool rfl ?_ | refine W_move ?_)
     <;> (first | refine W_no rfl ?_ | (refine W_yes rfl ?_; (first | refine M_slice rfl ?_ | refine W_move ?_)))
     <;> (first | refine W_no rfl ?_ | (refine W_yes rfl ?_; (first | refine M_slice rfl ?_ | refine W_move ?_)))
     <;> (first | refine W_no rfl ?_ | (refine W_yes rfl ?_; refine W_len rfl ?_))
     <;> refine W_no rfl ?_
     <;> (first | refine W_no rfl ?_ | (refine W_yes rfl ?_; refine W_not rfl ?_))
     <;> ((first | refine M_pick_t rfl ?_ | refine M_pick_f rfl ?_); (first | refine M_bool rfl ?_ | refine W_move ?_))
     <;> refine W_nil ?_)
    repeat'
      first
        | refine Q_then ?_ | refine C_cond_t rfl ?_ | refine C_cond_f rfl ?_ | refine C_seq ?_ | refine C_block ?_ | refine C_skip ?_ | refine C_ret ?_ | refine C_exit ?_
        | refine Q_then_ret ?_ | refine Q_then_exit ?_ | refine Q_block ?_ | refine Q_block_ret ?_ | refine Q_block_here ?_ | refine Q_block_on rfl ?_ | refine C_scope ?_ | refine C_label ?_ | refine Q_asn ?_
    (refine C_region ?_
     <;> (first | refine M_bool rfl ?_ | refine W_move ?_)
     <;> (refine M_assign ?_; (first | refine M_bool rfl ?_ | refine W_move ?_))
     <;> refine W_nil ?_)
    repeat'
      first
        | refine Q_then ?_ | refine C_cond_t rfl ?_ | refine C_cond_f rfl ?_ | refine C_seq ?_ | refine C_block ?_ | refine C_skip ?_ | refine C_ret ?_ | refine C_exit ?_
        | refine Q_then_ret ?_ | refine Q_then_exit ?_ | refine Q_block ?_ | refine Q_block_ret ?_ | refine Q_block_here ?_ | refine Q_block_on rfl ?_ | refine C_scope ?_ | refine C_label ?_ | refine Q_asn ?_
    exact fin_ret1 rfl ⟨rfl, k1⟩
  | true =>
  ((first | refine W_no rfl ?_ | (refine W_yes rfl ?_; refine W_not rfl ?_))
   <;> ((first | refine M_pick_t rfl ?_ | refine M_pick_f rfl ?_); (first | refine M_bool rfl ?_ | refine W_move ?_))
   <;> (first | refine M_bool rfl ?_ | refine W_move ?_)
   <;> (first | refine W_no rfl ?_ | (refine W_yes rfl ?_; (first | refine M_slice rfl ?_ | refine W_move ?_))))
  -- at operation 17: <dst=(some 34) op=(call <callee=(value (func 11)) args=[(tmp 33)] argTypes=[25]>) type=4 guard=(some [15, false])>
  refine W_yes rfl ?_
  refine W_call (AllShort_any _ lp _ (hl1.keep k1)) rfl ?_
  rintro _ w4 ⟨rfl, k4⟩
  replace b1 := b1.keep k4 (by simp)
  replace k1 := k1.trans k4
  clear k4
  cases hlp : allShort lp with
  | false =>
    ((first | refine W_no rfl ?_ | (refine W_yes rfl ?_; refine W_not rfl ?_))
     <;> ((first | refine M_pick_t rfl ?_ | refine M_pick_f rfl ?_); (first | refine M_bool rfl ?_ | refine W_move ?_))
     <;> (first | refine M_bool rfl ?_ | refine W_move ?_)
     <;> (first | refine W_no rfl ?_ | (refine W_yes rfl ?_; (first | refine M_slice rfl ?_ | refine W_move ?_)))
     <;> (first | refine W_no rfl ?_ | (refine W_yes rfl ?_; (first | refine M_slice rfl ?_ | refine W_move ?_)))
     <;> (first | refine W_no rfl ?_ | (refine W_yes rfl ?_; refine W_len rfl ?_))
     <;> refine W_no rfl ?_
     <;> (first | refine W_no rfl ?_ | (refine W_yes rfl ?_; refine W_not rfl ?_))
     <;> ((first | refine M_pick_t rfl ?_ | refine M_pick_f rfl ?_); (first | refine M_bool rfl ?_ | refine W_move ?_))
     <;> (first | refine M_bool rfl ?_ | refine W_move ?_)
     <;> (first | refine W_no rfl ?_ | (refine W_yes rfl ?_; (first | refine M_slice rfl ?_ | refine W_move ?_)))
     <;> (first | refine W_no rfl ?_ | (refine W_yes rfl ?_; (first | refine M_slice rfl ?_ | refine W_move ?_)))
     <;> (first | refine W_no rfl ?_ | (refine W_yes rfl ?_; refine W_len rfl ?_))
     <;> refine W_no rfl ?_
     <;> (first | refine W_no rfl ?_ | (refine W_yes rfl ?_; refine W_not rfl ?_))
     <;> ((first | refine M_pick_t rfl ?_ | refine M_pick_f rfl ?_); (first | refine M_bool rfl ?_ | refine W_move ?_))
     <;> refine W_nil ?_)
    repeat'
      first
        | refine Q_then ?_ | refine C_cond_t rfl ?_ | refine C_cond_f rfl ?_ | refine C_seq ?_ | refine C_block ?_ | refine C_skip ?_ | refine C_ret ?_ | refine C_exit ?_
        | refine Q_then_ret ?_ | refine Q_then_exit ?_ | refine Q_block ?_ | refine Q_block_ret ?_ | refine Q_block_here ?_ | refine Q_block_on rfl ?_ | refine C_scope ?_ | refine C_label ?_ | refine Q_asn ?_
    (refine C_region ?_
     <;> (first | refine M_bool rfl ?_ | refine W_move ?_)
     <;> (refine M_assign ?_; (first | refine M_bool rfl ?_ | refine W_move ?_))
     <;> refine W_nil ?_)
    repeat'
      first
        | refine Q_then ?_ | refine C_cond_t rfl ?_ | refine C_cond_f rfl ?_ | refine C_seq ?_ | refine C_block ?_ | refine C_skip ?_ | refine C_ret ?_ | refine C_exit ?_
        | refine Q_then_ret ?_ | refine Q_then_exit ?_ | refine Q_block ?_ | refine Q_block_ret ?_ | refine Q_block_here ?_ | refine Q_block_on rfl ?_ | refine C_scope ?_ | refine C_label ?_ | refine Q_asn ?_
    exact fin_ret1 rfl ⟨rfl, k1⟩
  | true =>
  ((first | refine W_no rfl ?_ | (refine W_yes rfl ?_; refine W_not rfl ?_))
   <;> ((first | refine M_pick_t rfl ?_ | refine M_pick_f rfl ?_); (first | refine M_bool rfl ?_ | refine W_move ?_))
   <;> (first | refine M_bool rfl ?_ | refine W_move ?_)
   <;> (first | refine W_no rfl ?_ | (refine W_yes rfl ?_; (first | refine M_slice rfl ?_ | refine W_move ?_)))
   <;> (first | refine W_no rfl ?_ | (refine W_yes rfl ?_; (first | refine M_slice rfl ?_ | refine W_move ?_)))
   <;> (first | refine W_no rfl ?_ | (refine W_yes rfl ?_; refine W_len rfl ?_)))
  -- at operation 24: <dst=(some 41) op=(call <callee=(value (func 18)) args=[(tmp 38), (tmp 40)] argTypes=[22, 3]>) type=4 guard=(some [20, false])>
  refine W_yes rfl ?_
  refine W_call (refValid_any _ r _ _ (h.keep k1)) rfl ?_
  rintro _ w5 ⟨rfl, k5⟩
  replace b1 := b1.keep k5 (by simp)
  replace k1 := k1.trans k5
  clear k5
  cases hv : validL r r.length with
  | false =>
    ((first | refine W_no rfl ?_ | (refine W_yes rfl ?_; refine W_not rfl ?_))
     <;> ((first | refine M_pick_t rfl ?_ | refine M_pick_f rfl ?_); (first | refine M_bool rfl ?_ | refine W_move ?_))
     <;> (first | refine M_bool rfl ?_ | refine W_move ?_)
     <;> (first | refine W_no rfl ?_ | (refine W_yes rfl ?_; (first | refine M_slice rfl ?_ | refine W_move ?_)))
     <;> (first | refine W_no rfl ?_ | (refine W_yes rfl ?_; (first | refine M_slice rfl ?_ | refine W_move ?_)))
     <;> (first | refine W_no rfl ?_ | (refine W_yes rfl ?_; refine W_len rfl ?_))
     <;> refine W_no rfl ?_
     <;> (first | refine W_no rfl ?_ | (refine W_yes rfl ?_; refine W_not rfl ?_))
     <;> ((first | refine M_pick_t rfl ?_ | refine M_pick_f rfl ?_); (first | refine M_bool rfl ?_ | refine W_move ?_))
     <;> refine W_nil ?_)
    repeat'
      first
        | refine Q_then ?_ | refine C_cond_t rfl ?_ | refine C_cond_f rfl ?_ | refine C_seq ?_ | refine C_block ?_ | refine C_skip ?_ | refine C_ret ?_ | refine C_exit ?_
        | refine Q_then_ret ?_ | refine Q_then_exit ?_ | refine Q_block ?_ | refine Q_block_ret ?_ | refine Q_block_here ?_ | refine Q_block_on rfl ?_ | refine C_scope ?_ | refine C_label ?_ | refine Q_asn ?_
    (refine C_region ?_
     <;> (first | refine M_bool rfl ?_ | refine W_move ?_)
     <;> (refine M_assign ?_; (first | refine M_bool rfl ?_ | refine W_move ?_))
     <;> refine W_nil ?_)
    repeat'
      first
        | refine Q_then ?_ | refine C_cond_t rfl ?_ | refine C_cond_f rfl ?_ | refine C_seq ?_ | refine C_block ?_ | refine C_skip ?_ | refine C_ret ?_ | refine C_exit ?_
        | refine Q_then_ret ?_ | refine Q_then_exit ?_ | refine Q_block ?_ | refine Q_block_ret ?_ | refine Q_block_here ?_ | refine Q_block_on rfl ?_ | refine C_scope ?_ | refine C_label ?_ | refine Q_asn ?_
    exact fin_ret1 rfl ⟨rfl, k1⟩
  | true =>
  ((first | refine W_no rfl ?_ | (refine W_yes rfl ?_; refine W_not rfl ?_))
   <;> ((first | refine M_pick_t rfl ?_ | refine M_pick_f rfl ?_); (first | refine M_bool rfl ?_ | refine W_move ?_))
   <;> (first | refine M_bool rfl ?_ | refine W_move ?_)
   <;> (first | refine W_no rfl ?_ | (refine W_yes rfl ?_; (first | refine M_slice rfl ?_ | refine W_move ?_)))
   <;> (first | refine W_no rfl ?_ | (refine W_yes rfl ?_; (first | refine M_slice rfl ?_ | refine W_move ?_)))
   <;> (first | refine W_no rfl ?_ | (refine W_yes rfl ?_; refine W_len rfl ?_)))
  -- at operation 31: <dst=(some 48) op=(call <callee=(value (func 18)) args=[(tmp 45), (tmp 47)] argTypes=[22, 3]>) type=4 guard=(some [27, false])>
  refine W_yes rfl ?_
  refine W_call (refValid_any _ to _ _ (ht.keep k1)) rfl ?_
  rintro _ w6 ⟨rfl, k6⟩
  replace b1 := b1.keep k6 (by simp)
  replace k1 := k1.trans k6
  clear k6
  cases hvt : validL to r.length with
  | false =>
    ((first | refine W_no rfl ?_ | (refine W_yes rfl ?_; refine W_not rfl ?_))
     <;> ((first | refine M_pick_t rfl ?_ | refine M_pick_f rfl ?_); (first | refine M_bool rfl ?_ | refine W_move ?_))
     <;> refine W_nil ?_)
    repeat'
      first
        | refine Q_then ?_ | refine C_cond_t rfl ?_ | refine C_cond_f rfl ?_ | refine C_seq ?_ | refine C_block ?_ | refine C_skip ?_ | refine C_ret ?_ | refine C_exit ?_
        | refine Q_then_ret ?_ | refine Q_then_exit ?_ | refine Q_block ?_ | refine Q_block_ret ?_ | refine Q_block_here ?_ | refine Q_block_on rfl ?_ | refine C_scope ?_ | refine C_label ?_ | refine Q_asn ?_
    (refine C_region ?_
     <;> (first | refine M_bool rfl ?_ | refine W_move ?_)
     <;> (refine M_assign ?_; (first | refine M_bool rfl ?_ | refine W_move ?_))
     <;> refine W_nil ?_)
    repeat'
      first
        | refine Q_then ?_ | refine C_cond_t rfl ?_ | refine C_cond_f rfl ?_ | refine C_seq ?_ | refine C_block ?_ | refine C_skip ?_ | refine C_ret ?_ | refine C_exit ?_
        | refine Q_then_ret ?_ | refine Q_then_exit ?_ | refine Q_block ?_ | refine Q_block_ret ?_ | refine Q_block_here ?_ | refine Q_block_on rfl ?_ | refine C_scope ?_ | refine C_label ?_ | refine Q_asn ?_
    exact fin_ret1 rfl ⟨rfl, k1⟩
  | true =>
  simp only [shortE, Bool.and_eq_true, decide_eq_true_eq] at hs
  simp only [allShort, Bool.and_eq_true, decide_eq_true_eq, List.all_eq_true] at hlp
  have hvr := ren_valid hvt hv
  ((first | refine W_no rfl ?_ | (refine W_yes rfl ?_; refine W_not rfl ?_))
   <;> ((first | refine M_pick_t rfl ?_ | refine M_pick_f rfl ?_); (first | refine M_bool rfl ?_ | refine W_move ?_))
   <;> refine W_nil ?_)
  repeat'
    first
      | refine Q_then ?_ | refine C_cond_t rfl ?_ | refine C_cond_f rfl ?_ | refine C_seq ?_ | refine C_block ?_ | refine C_skip ?_ | refine C_ret ?_ | refine C_exit ?_
      | refine Q_then_ret ?_ | refine Q_then_exit ?_ | refine Q_block ?_ | refine Q_block_ret ?_ | refine Q_block_here ?_ | refine Q_block_on rfl ?_ | refine C_scope ?_ | refine C_label ?_ | refine Q_asn ?_
  (refine C_region ?_
   <;> (first | refine M_slice rfl ?_ | refine W_move ?_)
   <;> (first | refine W_load_aggB rfl (by assumption) (by rfl) ?_ | refine W_load_agg rfl (by rfl) (Blk.cells (by assumption)) ?_))
  -- at operation 2: <dst=(some 55) op=(call <callee=(value (func 12)) args=[(tmp 53), (tmp 54)] argTypes=[22, 24]>) type=29 guard=none>
  refine W_call (Step_any _ _ _ r e _ (h.keep k1) (he.keep k1)) rfl ?_
  rintro _ w7 ⟨xv, rfl, o7, k7⟩
  rw [stepR_valid hv] at o7
  dsimp only at o7
  simp only [stepR_valid hv]
  obtain ⟨xa, xc, rfl⟩ := own_form o7
  replace o7 := Ints.own o7
  replace b1 := b1.keep k7 (by simp)
  replace k1 := k1.trans k7
  clear k7
  ((first | refine M_tuple rfl ?_ | refine W_move ?_)
   <;> refine W_extract rfl rfl ?_
   <;> refine W_extract rfl rfl ?_
   <;> (refine M_assign ?_; (first | refine M_slice rfl ?_ | refine W_move ?_))
   <;> (refine M_assign ?_; (first | refine M_int rfl ?_ | refine W_move ?_))
   <;> refine W_nil ?_)
  repeat'
    first
      | refine Q_then ?_ | refine C_cond_t rfl ?_ | refine C_cond_f rfl ?_ | refine C_seq ?_ | refine C_block ?_ | refine C_skip ?_ | refine C_ret ?_ | refine C_exit ?_
      | refine Q_then_ret ?_ | refine Q_then_exit ?_ | refine Q_block ?_ | refine Q_block_ret ?_ | refine Q_block_here ?_ | refine Q_block_on rfl ?_ | refine C_scope ?_ | refine C_label ?_ | refine Q_asn ?_
  have q1 := fun W' (hW' : Ext w7 W') => (b1.keep hW' (by simp)).cell (o := 0 + 0) rfl
  have q2 := fun W' (hW' : Ext w7 W') => (b1.keep hW' (by simp)).cell (o := 0 + 1) rfl
  refine C_drawN (.read 0 (.read 1 (.read 3 (.read 4 (.read 5 (.read 7 (.read 8 (.read 9 (.alt 2 (.alt 6 (.alt 10 (.read 11 (.alt 12 (.read 13 (.read 14 (.read 15 (.read 16 (.read 17 .done))))) .stop)) .stop) .stop) .stop))))))))) mixed (by kernel_rfl) (fun wd kd ed => ⟨Ext w7, ?_, ?_⟩)
  · exact kd
  ((apply D_R rfl rfl; (intro W hW; (first | refine M_slice rfl ?_ | refine W_move ?_); exact W_nil ⟨rfl, rfl, rfl⟩))
   <;> (apply D_R rfl rfl; (intro W hW; (first | refine M_slice rfl ?_ | refine W_move ?_); exact W_nil ⟨rfl, rfl, rfl⟩))
   <;> (apply D_R rfl rfl; (intro W hW; refine W_fieldAddr rfl ?_; exact W_nil ⟨rfl, rfl, rfl⟩))
   <;> (apply D_R rfl rfl; (intro W hW; (first | refine W_load rfl (q1 W hW) ?_ | refine W_load rfl (q2 W hW) ?_ | refine W_load_agg rfl (by rfl) (q1 W hW) ?_ | refine W_load_agg rfl (by rfl) (q2 W hW) ?_); exact W_nil ⟨rfl, rfl, rfl⟩))
   <;> (apply D_R rfl rfl; (intro W hW; (first | refine M_slice rfl ?_ | refine W_move ?_); exact W_nil ⟨rfl, rfl, rfl⟩))
   <;> (apply D_R rfl rfl; (intro W hW; refine W_fieldAddr rfl ?_; exact W_nil ⟨rfl, rfl, rfl⟩))
   <;> (apply D_R rfl rfl; (intro W hW; (first | refine W_load rfl (q1 W hW) ?_ | refine W_load rfl (q2 W hW) ?_ | refine W_load_agg rfl (by rfl) (q1 W hW) ?_ | refine W_load_agg rfl (by rfl) (q2 W hW) ?_); exact W_nil ⟨rfl, rfl, rfl⟩))
   <;> (apply D_R rfl rfl; (intro W hW; (first | refine M_slice rfl ?_ | refine W_move ?_); exact W_nil ⟨rfl, rfl, rfl⟩)))
  -- at place 8, operation 2: <dst=(some 61) op=(call <callee=(value (func 24)) args=[(tmp 59), (tmp 60)] argTypes=[22, 22]>) type=22 guard=none>
  refine D_E rfl ?_
  refine W_call (renamed_any _ _ r to _ (h.keep (k1.trans kd)) (ht.keep (k1.trans kd)) (by omega) (by omega)) rfl ?_
  rintro rv w8 ⟨o8, k8⟩
  replace k8 := kd.trans k8
  replace o8 := Ints.own o8
  obtain ⟨ra, rc, rfl, _⟩ := o8.form
  refine W_nil ⟨Ext w7, fun _ h => h, k8, ?_⟩
  refine D_E rfl ?_
  refine W_call (renamed_any _ _ e.good to _ (he.1.keep (k1.trans k8)) (ht.keep (k1.trans k8)) (by omega) (by omega)) rfl ?_
  rintro gv w9 ⟨o9, k9⟩
  replace o8 := o8.keep k9
  replace k9 := k8.trans k9
  replace o9 := Ints.own o9
  obtain ⟨ga', gc', rfl, _⟩ := o9.form
  refine W_nil ⟨Ext w7, fun _ h => h, k9, ?_⟩
  refine D_E rfl ?_
  refine W_call (renamed_any _ _ e.bad to _ (he.2.keep (k1.trans k9)) (ht.keep (k1.trans k9)) (by omega) (by omega)) rfl ?_
  rintro bv w10 ⟨o10, k10⟩
  replace o8 := o8.keep k10
  replace o9 := o9.keep k10
  replace k10 := k9.trans k10
  replace o10 := Ints.own o10
  obtain ⟨ba', bc', rfl, _⟩ := o10.form
  refine W_nil ⟨Ext w7, fun _ h => h, k10, ?_⟩
  ((apply D_R rfl rfl; (intro W hW; refine W_build (by rfl) (by rfl) ?_; exact W_nil ⟨rfl, rfl, rfl⟩)))
  -- at place 12, operation 12: <dst=(some 71) op=(call <callee=(value (func 12)) args=[(tmp 61), (tmp 70)] argTypes=[22, 24]>) type=29 guard=none>
  refine D_E rfl ?_
  refine W_call (Step_any _ _ _ (r.map (ren to)) (renE to e) _ o8 ⟨o9, o10⟩) rfl ?_
  rintro _ w11 ⟨yv, rfl, o11, k11⟩
  have hvr' : validL (r.map (ren to)) (r.map (ren to)).length = true := by rw [List.length_map]; exact hvr
  rw [stepR_valid hvr', ren_step hvt] at o11
  dsimp only at o11
  simp only [stepR_valid hvr', ren_prio hvt, List.length_map]
  obtain ⟨ya, yc, rfl⟩ := own_form o11
  replace o11 := Ints.own o11
  replace k11 := k10.trans k11
  refine W_nil ⟨Ext w7, fun _ h => h, k11, ?_⟩
  ((apply D_R rfl rfl; (intro W hW; (first | refine M_tuple rfl ?_ | refine W_move ?_); exact W_nil ⟨rfl, rfl, rfl⟩))
   <;> (apply D_R rfl rfl; (intro W hW; refine W_extract rfl rfl ?_; exact W_nil ⟨rfl, rfl, rfl⟩))
   <;> (apply D_R rfl rfl; (intro W hW; refine W_extract rfl rfl ?_; exact W_nil ⟨rfl, rfl, rfl⟩))
   <;> (apply D_R rfl rfl; (intro W hW; (refine M_assign ?_; (first | refine M_slice rfl ?_ | refine W_move ?_)); exact W_nil ⟨rfl, rfl, rfl⟩))
   <;> (apply D_R rfl rfl; (intro W hW; (refine M_assign ?_; (first | refine M_int rfl ?_ | refine W_move ?_)); exact W_nil ⟨rfl, rfl, rfl⟩))
   <;> refine D_nil ?_)
  replace k1 := k1.trans k11
  replace o7 := o7.keep k11
  clear o8 o9 o10 b1 q1 q2 k8 k9 k10 kd
  repeat'
    first
      | refine Q_then ?_ | refine C_cond_t rfl ?_ | refine C_cond_f rfl ?_ | refine C_seq ?_ | refine C_block ?_ | refine C_skip ?_ | refine C_ret ?_ | refine C_exit ?_
      | refine Q_then_ret ?_ | refine Q_then_exit ?_ | refine Q_block ?_ | refine Q_block_ret ?_ | refine Q_block_here ?_ | refine Q_block_on rfl ?_ | refine C_scope ?_ | refine C_label ?_ | refine Q_asn ?_
  (refine C_region ?_
   <;> (refine M_assign ?_; (first | refine M_slice rfl ?_ | refine W_move ?_))
   <;> refine W_nil ?_)
  repeat'
    first
      | refine Q_then ?_ | refine C_cond_t rfl ?_ | refine C_cond_f rfl ?_ | refine C_seq ?_ | refine C_block ?_ | refine C_skip ?_ | refine C_ret ?_ | refine C_exit ?_
      | refine Q_then_ret ?_ | refine Q_then_exit ?_ | refine Q_block ?_ | refine Q_block_ret ?_ | refine Q_block_here ?_ | refine Q_block_on rfl ?_ | refine C_scope ?_ | refine C_label ?_ | refine Q_asn ?_
  (refine C_region ?_
   <;> (refine M_assign ?_; (first | refine M_int rfl ?_ | refine W_move ?_))
   <;> refine W_nil ?_)
  repeat'
    first
      | refine Q_then ?_ | refine C_cond_t rfl ?_ | refine C_cond_f rfl ?_ | refine C_seq ?_ | refine C_block ?_ | refine C_skip ?_ | refine C_ret ?_ | refine C_exit ?_
      | refine Q_then_ret ?_ | refine Q_then_exit ?_ | refine Q_block ?_ | refine Q_block_ret ?_ | refine Q_block_here ?_ | refine Q_block_on rfl ?_ | refine C_scope ?_ | refine C_label ?_ | refine Q_asn ?_
  generalize hyl : ((stepL r e).map (ren to)).length = yl at *
  refine C_loop (α := Nat × Value × List (Value × Value)) (fun x => [(0, .slice a r.length c), (1, .slice ta to.length tc), (3, .slice la lp.length lc), (9, .bool true), (10, .slice xa (stepL r e).length xc), (11, .int .i64 (prioT e r r.length)), (12, .slice ya yl yc), (13, .int .i64 (prioT e r r.length)), (14, x.2.1), (15, .int .i64 x.1)])
    (fun x W => x.1 ≤ lp.length ∧ Ext w11 W ∧ W.ownsRow w11.heap.size 24 2 x.2.1 x.1 (pairC x.2.2) ∧ EvsO W x.2.1 x.2.2 ((lp.take x.1).map (renE to))) (fun x => lp.length - x.1) (0, .slice none 0 0, [])
    ⟨rfl, rfl, rfl, rfl, rfl, rfl, rfl, rfl, rfl, rfl, trivial⟩ ⟨by dsimp only; omega, Ext.refl _, ⟨rfl, .inl ⟨rfl, rfl⟩⟩, ⟨rfl, fun i p e hp => by simp at hp⟩⟩ ?_
  rintro ⟨k, lv, vs⟩ W f' ⟨hk, hW, ho, hE⟩
  dsimp only at hk ho hE ⊢
  have hWz := hW.size
  obtain ⟨lva, lvc, rfl⟩ := own_form ho
  repeat'
    first
      | refine Q_then ?_ | refine C_cond_t rfl ?_ | refine C_cond_f rfl ?_ | refine C_seq ?_ | refine C_block ?_ | refine C_skip ?_ | refine C_ret ?_ | refine C_exit ?_
      | refine Q_then_ret ?_ | refine Q_then_exit ?_ | refine Q_block ?_ | refine Q_block_ret ?_ | refine Q_block_here ?_ | refine Q_block_on rfl ?_ | refine C_scope ?_ | refine C_label ?_ | refine Q_asn ?_
  (refine C_region ?_
   <;> (first | refine M_int rfl ?_ | refine W_move ?_)
   <;> (first | refine M_slice rfl ?_ | refine W_move ?_)
   <;> refine W_len rfl ?_
   <;> (refine W_lss rfl rfl (fun hc => ?_) (fun hc => ?_) <;> try (exfalso; omega))
   <;> refine W_nil ?_)
  · repeat'
      first
        | refine Q_then ?_ | refine C_cond_t rfl ?_ | refine C_cond_f rfl ?_ | refine C_seq ?_ | refine C_block ?_ | refine C_skip ?_ | refine C_ret ?_ | refine C_exit ?_
        | refine Q_then_ret ?_ | refine Q_then_exit ?_ | refine Q_block ?_ | refine Q_block_ret ?_ | refine Q_block_here ?_ | refine Q_block_on rfl ?_ | refine C_scope ?_ | refine C_label ?_ | refine Q_asn ?_
    have hk2 : k < lp.length := by omega
    obtain ⟨bb, o, rfl, g0⟩ := hlx (by omega)
    obtain ⟨g1, b1, hcs, hke⟩ := g0 k hk2
    have hsk := hlp.2 _ (List.getElem_mem hk2)
    simp only [shortE, Bool.and_eq_true, decide_eq_true_eq] at hsk
    have hts : (lp.take (k + 1)).map (renE to) = (lp.take k).map (renE to) ++ [renE to lp[k]] := by rw [List.take_succ_eq_append_getElem hk2, List.map_append]; rfl
    generalize lp[k] = ek at *
    have q1 := fun W' (hW' : Ext w11 W') => (hcs.keep (k1.trans hW') (by simp)).fst
    have q2 := fun W' (hW' : Ext w11 W') => (hcs.keep (k1.trans hW') (by simp)).snd
    refine C_drawN (.read 0 (.read 1 (.read 2 (.read 3 (.read 4 (.read 5 (.read 6 (.read 8 (.read 9 (.read 10 (.read 11 (.read 12 (.read 13 (.alt 7 (.alt 14 (.read 15 (.alt 16 (.alt 17 (.read 18 .done) .stop) .stop)) .stop) .stop)))))))))))))) mixed (by kernel_rfl) (fun wd kd ed => ⟨Ext w11, ?_, ?_⟩)
    · exact hW.trans kd
    ((apply D_R rfl rfl; (intro W hW; (first | refine M_slice rfl ?_ | refine W_move ?_); exact W_nil ⟨rfl, rfl, rfl⟩))
     <;> (apply D_R rfl rfl; (intro W hW; (first | refine M_slice rfl ?_ | refine W_move ?_); exact W_nil ⟨rfl, rfl, rfl⟩))
     <;> (apply D_R rfl rfl; (intro W hW; (first | refine M_int rfl ?_ | refine W_move ?_); exact W_nil ⟨rfl, rfl, rfl⟩))
     <;> (apply D_R rfl rfl; (intro W hW; (first | refine W_idx1 rfl rfl rfl (by omega) ?_ | refine W_idx rfl rfl rfl (by omega) ?_ | refine W_indexAddr rfl rfl (by omega) (by omega) ?_); exact W_nil ⟨rfl, rfl, rfl⟩))
     <;> (apply D_R rfl rfl; (intro W hW; refine W_fieldAddr rfl ?_; exact W_nil ⟨rfl, rfl, rfl⟩))
     <;> (apply D_R rfl rfl; (intro W hW; (first | refine W_load rfl (q1 W hW) ?_ | refine W_load rfl (q2 W hW) ?_ | refine W_load_agg rfl (by rfl) (q1 W hW) ?_ | refine W_load_agg rfl (by rfl) (q2 W hW) ?_); exact W_nil ⟨rfl, rfl, rfl⟩))
     <;> (apply D_R rfl rfl; (intro W hW; (first | refine M_slice rfl ?_ | refine W_move ?_); exact W_nil ⟨rfl, rfl, rfl⟩))
     <;> (apply D_R rfl rfl; (intro W hW; (first | refine M_slice rfl ?_ | refine W_move ?_); exact W_nil ⟨rfl, rfl, rfl⟩))
     <;> (apply D_R rfl rfl; (intro W hW; (first | refine M_int rfl ?_ | refine W_move ?_); exact W_nil ⟨rfl, rfl, rfl⟩))
     <;> (apply D_R rfl rfl; (intro W hW; (first | refine W_idx1 rfl rfl rfl (by omega) ?_ | refine W_idx rfl rfl rfl (by omega) ?_ | refine W_indexAddr rfl rfl (by omega) (by omega) ?_); exact W_nil ⟨rfl, rfl, rfl⟩))
     <;> (apply D_R rfl rfl; (intro W hW; refine W_fieldAddr rfl ?_; exact W_nil ⟨rfl, rfl, rfl⟩))
     <;> (apply D_R rfl rfl; (intro W hW; (first | refine W_load rfl (q1 W hW) ?_ | refine W_load rfl (q2 W hW) ?_ | refine W_load_agg rfl (by rfl) (q1 W hW) ?_ | refine W_load_agg rfl (by rfl) (q2 W hW) ?_); exact W_nil ⟨rfl, rfl, rfl⟩))
     <;> (apply D_R rfl rfl; (intro W hW; (first | refine M_slice rfl ?_ | refine W_move ?_); exact W_nil ⟨rfl, rfl, rfl⟩)))
    -- at place 13, operation 7: <dst=(some 87) op=(call <callee=(value (func 24)) args=[(tmp 85), (tmp 86)] argTypes=[22, 22]>) type=22 guard=none>
    refine D_E rfl ?_
    refine W_call (renamed_any _ _ ek.good to _ (hke.1.keep ((k1.trans hW).trans kd)) (ht.keep ((k1.trans hW).trans kd)) (by omega) (by omega)) rfl ?_
    rintro gv W2 ⟨o2, k2⟩
    refine W_nil ⟨Ext w11, fun _ h => h, hW.trans <| kd.trans k2, ?_⟩
    refine D_E rfl ?_
    refine W_call (renamed_any _ _ ek.bad to _ (hke.2.keep (((k1.trans hW).trans kd).trans k2)) (ht.keep (((k1.trans hW).trans kd).trans k2)) (by omega) (by omega)) rfl ?_
    rintro bv W3 ⟨o3, k3⟩
    have k23 := (kd.trans k2).trans k3
    replace o2 := ownsRow_ext o2 k3
    have hlt : ∀ gg, (Value.slice lva k lvc).ownBlock = some gg → gg < W.heap.size := fun gg hg => (ho.lt gg hg).2
    have zd := kd.size
    have zd2 := k2.size
    have s2 : Sl (fun b => (Value.slice lva k lvc).ownBlock ≠ some b ∧ b < W3.heap.size) W3 gv (ek.good.map (ren to)).length (intC (ek.good.map (ren to))) := Sl_of_own o2 fun gg hg => ⟨fun e' => by have := hlt gg e'; have := (o2.lt gg hg).1; omega, (o2.lt gg hg).2⟩
    have s3 : Sl (fun b => (Value.slice lva k lvc).ownBlock ≠ some b ∧ b < W3.heap.size) W3 bv (ek.bad.map (ren to)).length (intC (ek.bad.map (ren to))) := Sl_of_own o3 fun gg hg => ⟨fun e' => by have := hlt gg e'; have := (o3.lt gg hg).1; omega, (o3.lt gg hg).2⟩
    obtain ⟨g2a, g2c, rfl⟩ := own_form o2
    obtain ⟨b2a, b2c, rfl⟩ := own_form o3
    refine W_nil ⟨Ext w11, fun _ h => h, hW.trans <| k23, ?_⟩
    ((apply D_R rfl rfl; (intro W hW; refine W_build (by rfl) (by rfl) ?_; exact W_nil ⟨rfl, rfl, rfl⟩)))
    -- at place 16, operation 16: <dst=(some 96) op=(buildSlice 25 1 [[0, (tmp 95)]]) type=25 guard=none>
    refine D_E rfl ?_
    refine W_buildSlice (out := [.slice g2a (ek.good.map (ren to)).length g2c, .slice b2a (ek.bad.map (ren to)).length b2c]) rfl (by omega) (by rw [made1]; rfl) (fun W4 n4 => ?_)
    have k4 := n4.keep
    have z4 := n4.size
    have o4 := n4.own (n := 1) (size := 2) rfl (by unfold maxLen; omega) (Nat.le_refl _)
    refine W_nil ⟨Ext w11, fun _ h => h, hW.trans <| k23.trans k4, ?_⟩
    refine D_E rfl ?_
    have ho4 := ownsRow_ext ho (k23.trans k4)
    have zz := (k23.trans k4).size
    refine W_append rfl rfl ho4 (Sl_of_own (ok := anyB) o4 fun _ _ => trivial) (by omega) rfl rfl (by intro u hu; simp at hu; rcases hu with rfl | rfl <;> rfl) (by omega) (by omega) (by omega) (fun v' W5 a5 => ?_)
    have k5 : Ext w11 W5 := (hW.trans (k23.trans k4)).keep a5.keep fun x hx => (ho4.lt x (Option.mem_toList.1 hx)).1
    have hE5 := (hE.ext (k23.trans k4)).push (p := (.slice g2a (ek.good.map (ren to)).length g2c, .slice b2a (ek.bad.map (ren to)).length b2c)) (e := renE to ek) a5.keep a5.blk ((s2.ext k4).mono fun b hb => ⟨hb.1, by have := hb.2; omega⟩) ((s3.ext k4).mono fun b hb => ⟨hb.1, by have := hb.2; omega⟩)
    have o5 := a5.own
    obtain ⟨v5a, v5c, rfl⟩ := own_form o5
    refine W_nil ⟨Ext w11, fun _ h => h, k5, ?_⟩
    ((apply D_R rfl rfl; (intro W hW; (refine M_assign ?_; (first | refine M_slice rfl ?_ | refine W_move ?_)); exact W_nil ⟨rfl, rfl, rfl⟩))
     <;> refine D_nil ?_)
    repeat'
      first
        | refine Q_then ?_ | refine C_cond_t rfl ?_ | refine C_cond_f rfl ?_ | refine C_seq ?_ | refine C_block ?_ | refine C_skip ?_ | refine C_ret ?_ | refine C_exit ?_
        | refine Q_then_ret ?_ | refine Q_then_exit ?_ | refine Q_block ?_ | refine Q_block_ret ?_ | refine Q_block_here ?_ | refine Q_block_on rfl ?_ | refine C_scope ?_ | refine C_label ?_ | refine Q_asn ?_
    (refine C_region ?_
     <;> (first | refine M_int rfl ?_ | refine W_move ?_)
     <;> refine W_add rfl rfl (by first | exact inR_i64 (by omega) (by omega) | exact inR_u8 (by omega) (by omega) | exact inR_u16 (by omega) (by omega)) ?_
     <;> (refine M_assign ?_; (first | refine M_int rfl ?_ | refine W_move ?_))
     <;> refine W_nil ?_)
    repeat'
      first
        | refine Q_then ?_ | refine C_cond_t rfl ?_ | refine C_cond_f rfl ?_ | refine C_seq ?_ | refine C_block ?_ | refine C_skip ?_ | refine C_ret ?_ | refine C_exit ?_
        | refine Q_then_ret ?_ | refine Q_then_exit ?_ | refine Q_block ?_ | refine Q_block_ret ?_ | refine Q_block_here ?_ | refine Q_block_on rfl ?_ | refine C_scope ?_ | refine C_label ?_ | refine Q_asn ?_
    refine ⟨(k + 1, .slice v5a (k + 1) v5c, vs ++ [(.slice g2a (ek.good.map (ren to)).length g2c, .slice b2a (ek.bad.map (ren to)).length b2c)]), ⟨rfl, ⟨rfl, rfl, rfl, rfl, rfl, rfl, rfl, rfl, rfl, rfl, trivial⟩, ⟨hk2, k5, ?_, ?_⟩⟩, by dsimp only; omega⟩
    · dsimp only; rw [pairC_snoc]; exact o5
    · dsimp only; rw [hts]; exact hE5
  · repeat'
      first
        | refine Q_then ?_ | refine C_cond_t rfl ?_ | refine C_cond_f rfl ?_ | refine C_seq ?_ | refine C_block ?_ | refine C_skip ?_ | refine C_ret ?_ | refine C_exit ?_
        | refine Q_then_ret ?_ | refine Q_then_exit ?_ | refine Q_block ?_ | refine Q_block_ret ?_ | refine Q_block_here ?_ | refine Q_block_on rfl ?_ | refine C_scope ?_ | refine C_label ?_ | refine Q_asn ?_
    obtain rfl : k = lp.length := by omega
    rw [List.take_length] at hE
    have hEl : (lp.map (renE to)).length = lp.length := by simp
    have hat : EvsAt W (.slice lva lp.length lvc) (lp.map (renE to)) := hE.at (by rw [hEl]; exact ho)
    have kW := k1.trans hW
    (refine C_region ?_
     <;> (first | refine M_bool rfl ?_ | refine W_move ?_)
     <;> (first | refine M_bool rfl ?_ | refine W_move ?_)
     <;> (first | refine W_no rfl ?_ | (refine W_yes rfl ?_; (first | refine M_int rfl ?_ | refine W_move ?_)))
     <;> (first | refine W_no rfl ?_ | (refine W_yes rfl ?_; (first | refine M_int rfl ?_ | refine W_move ?_)))
     <;> (first | refine W_no rfl ?_ | (refine W_yes rfl ?_; (refine W_eql rfl rfl (fun hc => ?_) (fun hc => ?_) <;> try (exfalso; omega))))
     <;> ((first | refine M_pick_t rfl ?_ | refine M_pick_f rfl ?_); (first | refine M_bool rfl ?_ | refine W_move ?_))
     <;> (first | refine M_bool rfl ?_ | refine W_move ?_)
     <;> (first | refine W_no rfl ?_ | (refine W_yes rfl ?_; (first | refine M_slice rfl ?_ | refine W_move ?_)))
     <;> (first | refine W_no rfl ?_ | (refine W_yes rfl ?_; (first | refine M_slice rfl ?_ | refine W_move ?_))))
    -- at operation 9: <dst=(some 107) op=(call <callee=(value (func 24)) args=[(tmp 105), (tmp 106)] argTypes=[22, 22]>) type=22 guard=(some [6, true])>
    refine W_yes rfl ?_
    refine W_call (renamed_any _ _ (stepL r e) to _ (o7.keep hW) (ht.keep kW) (by rw [stepL_length]; omega) (by omega)) rfl ?_
    rintro rxv W2 ⟨o2, k2⟩
    replace o2 := Ints.own o2
    obtain ⟨rxa, rxc, rfl, _⟩ := o2.form
    ((first | refine W_no rfl ?_ | (refine W_yes rfl ?_; (first | refine M_slice rfl ?_ | refine W_move ?_))))
    -- at operation 11: <dst=(some 109) op=(call <callee=(value (func 14)) args=[(tmp 107), (tmp 108)] argTypes=[22, 22]>) type=4 guard=(some [6, true])>
    refine W_yes rfl ?_
    have o11W : Ints W2 (.slice ya yl yc) ((stepL r e).map (ren to)) := o11.keep (hW.trans k2)
    refine W_call (Ints_any _ _ ((stepL r e).map (ren to)) ((stepL r e).map (ren to)) _ o2 o11W) rfl ?_
    rintro _ W3 ⟨rfl, k3⟩
    rw [beq_self_eq_true]
    have k13 := (kW.trans k2).trans k3
    (((first | refine M_pick_t rfl ?_ | refine M_pick_f rfl ?_); (first | refine M_bool rfl ?_ | refine W_move ?_))
     <;> (first | refine M_bool rfl ?_ | refine W_move ?_)
     <;> (first | refine W_no rfl ?_ | (refine W_yes rfl ?_; (first | refine M_slice rfl ?_ | refine W_move ?_)))
     <;> (first | refine W_no rfl ?_ | (refine W_yes rfl ?_; refine W_len rfl ?_))
     <;> (first | refine W_no rfl ?_ | (refine W_yes rfl ?_; (first | refine M_slice rfl ?_ | refine W_move ?_))))
    -- at operation 17: <dst=(some 115) op=(call <callee=(value (func 19)) args=[(tmp 113), (const (slice none 0 0)), (tmp 114)] argTypes=[3, 25, 25]>) type=4 guard=(some [13, true])>
    refine W_yes rfl ?_
    refine W_call (Wins_any _ _ r.length lp _ (hl1.keep k13)) rfl ?_
    rintro _ W4 ⟨rfl, k4⟩
    ((first | refine W_no rfl ?_ | (refine W_yes rfl ?_; (first | refine M_slice rfl ?_ | refine W_move ?_)))
     <;> (first | refine W_no rfl ?_ | (refine W_yes rfl ?_; refine W_len rfl ?_))
     <;> (first | refine W_no rfl ?_ | (refine W_yes rfl ?_; (first | refine M_slice rfl ?_ | refine W_move ?_))))
    -- at operation 21: <dst=(some 119) op=(call <callee=(value (func 19)) args=[(tmp 117), (const (slice none 0 0)), (tmp 118)] argTypes=[3, 25, 25]>) type=4 guard=(some [13, true])>
    refine W_yes rfl ?_
    refine W_call (Wins_any _ _ r.length (lp.map (renE to)) _ (hat.keep ((k2.trans k3).trans k4))) rfl ?_
    rintro _ W5 ⟨rfl, k5⟩
    rw [ren_wins hvt]
    refine W_yes rfl ?_
    refine W_beql rfl rfl ?_
    rw [beq_self_eq_true]
    (((first | refine M_pick_t rfl ?_ | refine M_pick_f rfl ?_); (first | refine M_bool rfl ?_ | refine W_move ?_))
     <;> (refine M_assign ?_; (first | refine M_bool rfl ?_ | refine W_move ?_))
     <;> refine W_nil ?_)
    repeat'
      first
        | refine Q_then ?_ | refine C_cond_t rfl ?_ | refine C_cond_f rfl ?_ | refine C_seq ?_ | refine C_block ?_ | refine C_skip ?_ | refine C_ret ?_ | refine C_exit ?_
        | refine Q_then_ret ?_ | refine Q_then_exit ?_ | refine Q_block ?_ | refine Q_block_ret ?_ | refine Q_block_here ?_ | refine Q_block_on rfl ?_ | refine C_scope ?_ | refine C_label ?_ | refine Q_asn ?_
    exact fin_ret1 rfl ⟨rfl, (k13.trans k4).trans k5⟩
end Go.Proofs.Yticliabmhgofjaa
