/- The reference's Step; Wins of both implementations; rounds. Conditions: none. -/
import Derived.Test.YticliabmhgofjaaR4
namespace Go.Proofs.Yticliabmhgofjaa
open Go.RowKit
set_option linter.unusedVariables false

theorem findIdx_apart (e : Evt) (l : List Int) : l.findIdx (badB e) = l.findIdx (goodB e) → l.findIdx (badB e) = l.length := by
  have h3 : l.findIdx (badB e) ≤ l.length := List.findIdx_le_length
  intro he
  by_cases hlt : l.findIdx (badB e) < l.length
  · have hb1 : badB e (l[l.findIdx (badB e)]) = true := List.findIdx_getElem (w := hlt)
    have hg1 : goodB e (l[l.findIdx (goodB e)]'(by omega)) = true := List.findIdx_getElem (w := by omega)
    have : l[l.findIdx (goodB e)]'(by omega) = l[l.findIdx (badB e)] := by congr 1; exact he.symm
    rw [this] at hg1
    unfold badB at hb1
    simp only [goodB] at hg1
    simp at hg1
    exact absurd (List.contains_iff_mem.1 hb1) hg1.2
  · omega

theorem prioT_bad {e : Evt} {l : List Int} {x : Int} {N : Nat} (hl : l.length < N) (hb : badB e x = true) : prioT e (l ++ [x]) N = min (prioT e l N) ((2 * l.length + 1 : Nat) : Int) := by
  have hg : goodB e x = false := by unfold badB at hb; simp only [goodB, hb]; simp
  have h1 : (l ++ [x]).findIdx (goodB e) = if l.findIdx (goodB e) < l.length then l.findIdx (goodB e) else l.length + 1 := by
    rw [List.findIdx_append]; split
    · rfl
    · simp [List.findIdx_cons, hg]; omega
  have h2 : (l ++ [x]).findIdx (badB e) = if l.findIdx (badB e) < l.length then l.findIdx (badB e) else l.length := by
    rw [List.findIdx_append]; split
    · rfl
    · simp [List.findIdx_cons, hb]
  have h3 : l.findIdx (badB e) ≤ l.length := List.findIdx_le_length
  have h4 : l.findIdx (goodB e) ≤ l.length := List.findIdx_le_length
  have h5 := findIdx_apart e l
  unfold prioT
  rw [h1, h2]
  generalize l.findIdx (goodB e) = g at *
  generalize l.findIdx (badB e) = b at *
  repeat' split
  all_goals omega
theorem prioT_good {e : Evt} {l : List Int} {x : Int} {N : Nat} (hl : l.length < N) (hb : badB e x = false) (hg : goodB e x = true) : prioT e (l ++ [x]) N = min (prioT e l N) ((2 * l.length + 2 : Nat) : Int) := by
  have h1 : (l ++ [x]).findIdx (badB e) = if l.findIdx (badB e) < l.length then l.findIdx (badB e) else l.length + 1 := by
    rw [List.findIdx_append]; split
    · rfl
    · simp [List.findIdx_cons, hb]; omega
  have h2 : (l ++ [x]).findIdx (goodB e) = if l.findIdx (goodB e) < l.length then l.findIdx (goodB e) else l.length := by
    rw [List.findIdx_append]; split
    · rfl
    · simp [List.findIdx_cons, hg]
  have h3 : l.findIdx (badB e) ≤ l.length := List.findIdx_le_length
  have h4 : l.findIdx (goodB e) ≤ l.length := List.findIdx_le_length
  have h5 := findIdx_apart e l
  unfold prioT
  rw [h1, h2]
  generalize l.findIdx (goodB e) = g at *
  generalize l.findIdx (badB e) = b at *
  repeat' split
  all_goals omega
theorem prioT_none {e : Evt} {l : List Int} {x : Int} {N : Nat} (hb : badB e x = false) (hg : goodB e x = false) : prioT e (l ++ [x]) N = prioT e l N := by
  have h1 : (l ++ [x]).findIdx (badB e) = if l.findIdx (badB e) < l.length then l.findIdx (badB e) else l.length + 1 := by
    rw [List.findIdx_append]; split
    · rfl
    · simp [List.findIdx_cons, hb]; omega
  have h2 : (l ++ [x]).findIdx (goodB e) = if l.findIdx (goodB e) < l.length then l.findIdx (goodB e) else l.length + 1 := by
    rw [List.findIdx_append]; split
    · rfl
    · simp [List.findIdx_cons, hg]; omega
  have h3 : l.findIdx (badB e) ≤ l.length := List.findIdx_le_length
  have h4 : l.findIdx (goodB e) ≤ l.length := List.findIdx_le_length
  unfold prioT
  rw [h1, h2]
  generalize l.findIdx (goodB e) = g at *
  generalize l.findIdx (badB e) = b at *
  repeat' split
  all_goals omega
theorem prioT_nil (e : Evt) (N : Nat) : prioT e [] N = ((2 * N + 1 : Nat) : Int) := by simp [prioT]

/-- the blocks of two slices of the call's own are not the same one -/
def Disj (v u : Value) : Prop := ∀ g, v.ownBlock = some g → u.ownBlock ≠ some g

theorem refStep_any (v g b : Value) (r : List Int) (e : Evt) (w : World) (h : Ints w v r) (he : EvAt w g b e) (hr : r.length ≤ 1000000) :
    Fn Try.prog 13 [v, .agg #[g, b]] w fun v w' => ∃ rv, v = .tuple #[rv, .int .i64 (stepR r e).2] ∧ w'.ownsRow w.heap.size 3 1 rv (stepR r e).1.length (intC (stepR r e).1) ∧ Ext w w' := by
  obtain ⟨a, c, rfl, hlc, hc, hx⟩ := h.form
  refine fn_of_wc Try.func13 rfl Try.ntmps13 (Nat.le_of_ble_eq_true rfl) (by kernel_rfl) ?_
  repeat'
    first
      | refine Q_then ?_ | refine C_cond_t rfl ?_ | refine C_cond_f rfl ?_ | refine C_seq ?_ | refine C_block ?_ | refine C_skip ?_ | refine C_ret ?_ | refine C_exit ?_
      | refine Q_then_ret ?_ | refine Q_then_exit ?_ | refine Q_block ?_ | refine Q_block_ret ?_ | refine Q_block_here ?_ | refine Q_block_on rfl ?_ | refine C_scope ?_ | refine C_label ?_ | refine Q_asn ?_
  refine C_region ?_
  refine W_box (L := [g, b]) rfl (fun w1 n1 => ?_)
  have b1 := n1.blk
  have k1 := n1.keep
  clear n1
  ((refine M_assign ?_; (first | refine M_slice rfl ?_ | refine W_move ?_))
   <;> (refine M_assign ?_; (first | refine M_int rfl ?_ | refine W_move ?_))
   <;> refine W_nil ?_)
  repeat'
    first
      | refine Q_then ?_ | refine C_cond_t rfl ?_ | refine C_cond_f rfl ?_ | refine C_seq ?_ | refine C_block ?_ | refine C_skip ?_ | refine C_ret ?_ | refine C_exit ?_
      | refine Q_then_ret ?_ | refine Q_then_exit ?_ | refine Q_block ?_ | refine Q_block_ret ?_ | refine Q_block_here ?_ | refine Q_block_on rfl ?_ | refine C_scope ?_ | refine C_label ?_ | refine Q_asn ?_
  (refine C_region ?_
   <;> (first | refine M_slice rfl ?_ | refine W_move ?_)
   <;> (first | refine M_slice rfl ?_ | refine W_move ?_)
   <;> refine W_len rfl ?_)
  -- at operation 3: <dst=(some 14) op=(call <callee=(value (func 18)) args=[(tmp 11), (tmp 13)] argTypes=[22, 3]>) type=4 guard=none>
  refine W_call (refValid_any _ r _ _ (h.keep k1)) rfl ?_
  rintro _ w2 ⟨rfl, k2⟩
  replace b1 := b1.keep k2 (by simp)
  replace k1 := k1.trans k2
  clear k2
  ((refine M_assign ?_; (first | refine M_bool rfl ?_ | refine W_move ?_))
   <;> refine W_nil ?_)
  repeat'
    first
      | refine Q_then ?_ | refine C_cond_t rfl ?_ | refine C_cond_f rfl ?_ | refine C_seq ?_ | refine C_block ?_ | refine C_skip ?_ | refine C_ret ?_ | refine C_exit ?_
      | refine Q_then_ret ?_ | refine Q_then_exit ?_ | refine Q_block ?_ | refine Q_block_ret ?_ | refine Q_block_here ?_ | refine Q_block_on rfl ?_ | refine C_scope ?_ | refine C_label ?_ | refine Q_asn ?_
  (refine C_region ?_
   <;> (first | refine M_bool rfl ?_ | refine W_move ?_)
   <;> refine W_not rfl ?_
   <;> refine W_nil ?_)
  cases hv : validL r r.length with
  | false =>
    repeat'
      first
        | refine Q_then ?_ | refine C_cond_t rfl ?_ | refine C_cond_f rfl ?_ | refine C_seq ?_ | refine C_block ?_ | refine C_skip ?_ | refine C_ret ?_ | refine C_exit ?_
        | refine Q_then_ret ?_ | refine Q_then_exit ?_ | refine Q_block ?_ | refine Q_block_ret ?_ | refine Q_block_here ?_ | refine Q_block_on rfl ?_ | refine C_scope ?_ | refine C_label ?_ | refine Q_asn ?_
    (refine C_region ?_
     <;> (refine M_assign ?_; (first | refine M_slice rfl ?_ | refine W_move ?_))
     <;> (refine M_assign ?_; (first | refine M_int rfl ?_ | refine W_move ?_))
     <;> refine W_nil ?_)
    repeat'
      first
        | refine Q_then ?_ | refine C_cond_t rfl ?_ | refine C_cond_f rfl ?_ | refine C_seq ?_ | refine C_block ?_ | refine C_skip ?_ | refine C_ret ?_ | refine C_exit ?_
        | refine Q_then_ret ?_ | refine Q_then_exit ?_ | refine Q_block ?_ | refine Q_block_ret ?_ | refine Q_block_here ?_ | refine Q_block_on rfl ?_ | refine C_scope ?_ | refine C_label ?_ | refine Q_asn ?_
    exact fin_ret2 rfl ⟨_, by rw [stepR, hv]; rfl, by rw [stepR, hv]; exact own_none _ _ _, k1⟩
  | true =>
  repeat'
    first
      | refine Q_then ?_ | refine C_cond_t rfl ?_ | refine C_cond_f rfl ?_ | refine C_seq ?_ | refine C_block ?_ | refine C_skip ?_ | refine C_ret ?_ | refine C_exit ?_
      | refine Q_then_ret ?_ | refine Q_then_exit ?_ | refine Q_block ?_ | refine Q_block_ret ?_ | refine Q_block_here ?_ | refine Q_block_on rfl ?_ | refine C_scope ?_ | refine C_label ?_ | refine Q_asn ?_
  (refine C_region ?_
   <;> (first | refine M_slice rfl ?_ | refine W_move ?_)
   <;> refine W_len rfl ?_
   <;> refine W_mul rfl rfl (by first | exact inR_i64 (by omega) (by omega) | exact inR_u8 (by omega) (by omega) | exact inR_u16 (by omega) (by omega)) ?_
   <;> refine W_add rfl rfl (by first | exact inR_i64 (by omega) (by omega) | exact inR_u8 (by omega) (by omega) | exact inR_u16 (by omega) (by omega)) ?_
   <;> (refine M_assign ?_; (first | refine M_int rfl ?_ | refine W_move ?_))
   <;> refine W_nil ?_)
  repeat'
    first
      | refine Q_then ?_ | refine C_cond_t rfl ?_ | refine C_cond_f rfl ?_ | refine C_seq ?_ | refine C_block ?_ | refine C_skip ?_ | refine C_ret ?_ | refine C_exit ?_
      | refine Q_then_ret ?_ | refine Q_then_exit ?_ | refine Q_block ?_ | refine Q_block_ret ?_ | refine Q_block_here ?_ | refine Q_block_on rfl ?_ | refine C_scope ?_ | refine C_label ?_ | refine Q_asn ?_
  (refine C_region ?_
   <;> (refine M_assign ?_; (first | refine M_slice rfl ?_ | refine W_move ?_))
   <;> refine W_nil ?_)
  repeat'
    first
      | refine Q_then ?_ | refine C_cond_t rfl ?_ | refine C_cond_f rfl ?_ | refine C_seq ?_ | refine C_block ?_ | refine C_skip ?_ | refine C_ret ?_ | refine C_exit ?_
      | refine Q_then_ret ?_ | refine Q_then_exit ?_ | refine Q_block ?_ | refine Q_block_ret ?_ | refine Q_block_here ?_ | refine Q_block_on rfl ?_ | refine C_scope ?_ | refine C_label ?_ | refine Q_asn ?_
  (refine C_region ?_
   <;> (refine M_assign ?_; (first | refine M_slice rfl ?_ | refine W_move ?_))
   <;> refine W_nil ?_)
  repeat'
    first
      | refine Q_then ?_ | refine C_cond_t rfl ?_ | refine C_cond_f rfl ?_ | refine C_seq ?_ | refine C_block ?_ | refine C_skip ?_ | refine C_ret ?_ | refine C_exit ?_
      | refine Q_then_ret ?_ | refine Q_then_exit ?_ | refine Q_block ?_ | refine Q_block_ret ?_ | refine Q_block_here ?_ | refine Q_block_on rfl ?_ | refine C_scope ?_ | refine C_label ?_ | refine Q_asn ?_
  (refine C_region ?_
   <;> (refine M_assign ?_; (first | refine M_int rfl ?_ | refine W_move ?_))
   <;> refine W_nil ?_)
  repeat'
    first
      | refine Q_then ?_ | refine C_cond_t rfl ?_ | refine C_cond_f rfl ?_ | refine C_seq ?_ | refine C_block ?_ | refine C_skip ?_ | refine C_ret ?_ | refine C_exit ?_
      | refine Q_then_ret ?_ | refine Q_then_exit ?_ | refine Q_block ?_ | refine Q_block_ret ?_ | refine Q_block_here ?_ | refine Q_block_on rfl ?_ | refine C_scope ?_ | refine C_label ?_ | refine Q_asn ?_
  have hz1 := k1.size
  refine C_loop (α := Nat × Value × Value) (fun x => [(0, .slice a r.length c), (3, .pointer (some ⟨w.heap.size, 0, none⟩)), (7, .int .i64 (prioT e (r.take x.1) r.length)), (8, x.2.1), (9, x.2.2), (10, .int .i64 x.1)])
    (fun x W => x.1 ≤ r.length ∧ Ext w2 W ∧ Disj x.2.1 x.2.2 ∧ W.ownsRow w2.heap.size 3 1 x.2.1 ((r.take x.1).filter (fun x => !badB e x)).length (intC ((r.take x.1).filter (fun x => !badB e x))) ∧ W.ownsRow w2.heap.size 3 1 x.2.2 ((r.take x.1).filter (badB e)).length (intC ((r.take x.1).filter (badB e)))) (fun x => r.length - x.1) (0, .slice none 0 0, .slice none 0 0)
    ⟨rfl, rfl, congrArg (Value.int .i64) (by rw [List.take_zero, prioT_nil]; omega), rfl, rfl, rfl, trivial⟩ ⟨by dsimp only; omega, Ext.refl _, fun g hg => by simp [Value.ownBlock] at hg, own_none _ _ _, own_none _ _ _⟩ ?_
  rintro ⟨k, v, u⟩ W f' ⟨hk, hW, hd, ho, hu⟩
  dsimp only at hk hd ho hu ⊢
  have hWz := hW.size
  have hl1 : ((r.take k).filter (fun x => !badB e x)).length ≤ 1000000 := by have := List.length_filter_le (fun x => !badB e x) (r.take k); have := List.length_take_le' k r; omega
  have hl2 : ((r.take k).filter (badB e)).length ≤ 1000000 := by have := List.length_filter_le (badB e) (r.take k); have := List.length_take_le' k r; omega
  generalize hxs : (r.take k).filter (fun x => !badB e x) = xs at *
  generalize hys : (r.take k).filter (badB e) = ys at *
  obtain ⟨va, vc, rfl⟩ := own_form ho
  obtain ⟨ua, uc, rfl⟩ := own_form hu
  repeat'
    first
      | refine Q_then ?_ | refine C_cond_t rfl ?_ | refine C_cond_f rfl ?_ | refine C_seq ?_ | refine C_block ?_ | refine C_skip ?_ | refine C_ret ?_ | refine C_exit ?_
      | refine Q_then_ret ?_ | refine Q_then_exit ?_ | refine Q_block ?_ | refine Q_block_ret ?_ | refine Q_block_here ?_ | refine Q_block_on rfl ?_ | refine C_scope ?_ | refine C_label ?_ | refine Q_asn ?_
  (refine C_region ?_
   <;> (first | refine M_int rfl ?_ | refine W_move ?_)
   <;> (first | refine M_slice rfl ?_ | refine W_move ?_)
   <;> refine W_len rfl ?_
   <;> (refine W_lss rfl rfl (fun hc => ?_) (fun hc => ?_) <;> try (exfalso; omega))
   <;> refine W_nil ?_)
  · repeat'
      first
        | refine Q_then ?_ | refine C_cond_t rfl ?_ | refine C_cond_f rfl ?_ | refine C_seq ?_ | refine C_block ?_ | refine C_skip ?_ | refine C_ret ?_ | refine C_exit ?_
        | refine Q_then_ret ?_ | refine Q_then_exit ?_ | refine Q_block ?_ | refine Q_block_ret ?_ | refine Q_block_here ?_ | refine Q_block_on rfl ?_ | refine C_scope ?_ | refine C_label ?_ | refine Q_asn ?_
    have hk2 : k < r.length := by omega
    have hkl : (r.take k).length = k := by simp; omega
    obtain ⟨bb, o, rfl, g0⟩ := hx (by omega)
    have e1 := (k1.trans hW).cell (g0 k hk2) (by simp)
    have ht1 : (r.take (k + 1)).filter (fun x => !badB e x) = xs ++ if badB e r[k] then [] else [r[k]] := by
      rw [List.take_succ_eq_append_getElem hk2, List.filter_append, hxs]
      congr 1
      cases hb : badB e r[k] <;> simp [hb]
    have ht2 : (r.take (k + 1)).filter (badB e) = ys ++ if badB e r[k] then [r[k]] else [] := by
      rw [List.take_succ_eq_append_getElem hk2, List.filter_append, hys]
      congr 1
      cases hb : badB e r[k] <;> simp [hb]
    have htk : r.take (k + 1) = r.take k ++ [r[k]] := List.take_succ_eq_append_getElem hk2
    have b1W := b1.keep hW (by simp)
    have heW := he.keep (k1.trans hW)
    have q1 := fun W' (hW' : Ext W W') => hW'.cell e1 (by simp)
    have q2 := fun W' (hW' : Ext W W') => (b1W.keep hW' (by simp)).cell (o := 0 + 1) rfl
    have q3 := fun W' (hW' : Ext W W') => (b1W.keep hW' (by simp)).cell (o := 0 + 0) rfl
    refine C_drawN (.read 0 (.read 1 (.read 2 (.read 3 (.read 4 (.read 5 (.alt 6 .done .stop))))))) mixed (by kernel_rfl) (fun wd kd ed => ⟨Ext W, ?_, ?_⟩)
    · exact kd
    ((apply D_R rfl rfl; (intro W hW; refine W_fieldAddr rfl ?_; exact W_nil ⟨rfl, rfl, rfl⟩))
     <;> (apply D_R rfl rfl; (intro W hW; (first | refine W_load rfl (q1 W hW) ?_ | refine W_load rfl (q2 W hW) ?_ | refine W_load_agg rfl (by rfl) (q1 W hW) ?_ | refine W_load_agg rfl (by rfl) (q2 W hW) ?_); exact W_nil ⟨rfl, rfl, rfl⟩))
     <;> (apply D_R rfl rfl; (intro W hW; (first | refine M_slice rfl ?_ | refine W_move ?_); exact W_nil ⟨rfl, rfl, rfl⟩))
     <;> (apply D_R rfl rfl; (intro W hW; (first | refine M_int rfl ?_ | refine W_move ?_); exact W_nil ⟨rfl, rfl, rfl⟩))
     <;> (apply D_R rfl rfl; (intro W hW; (first | refine W_idx1 rfl rfl rfl (by omega) ?_ | refine W_idx rfl rfl rfl (by omega) ?_ | refine W_indexAddr rfl rfl (by omega) (by omega) ?_); exact W_nil ⟨rfl, rfl, rfl⟩))
     <;> (apply D_R rfl rfl; (intro W hW; (first | refine W_load rfl (q1 W hW) ?_ | refine W_load rfl (q2 W hW) ?_ | refine W_load_agg rfl (by rfl) (q1 W hW) ?_ | refine W_load_agg rfl (by rfl) (q2 W hW) ?_); exact W_nil ⟨rfl, rfl, rfl⟩)))
    -- at place 6, operation 6: <dst=(some 33) op=(call <callee=(value (func 22)) args=[(tmp 28), (tmp 32)] argTypes=[22, 3]>) type=4 guard=none>
    refine D_E rfl ?_
    refine W_call (In_any _ e.bad r[k] _ (heW.2.keep kd)) rfl ?_
    rintro _ W2 ⟨rfl, rfl⟩
    refine W_nil ⟨Ext W, fun _ h => h, kd, ?_⟩
    refine D_nil ?_
    have hbe : e.bad.contains r[k] = badB e r[k] := rfl
    rw [hbe]
    cases hb : badB e r[k] with
    | true =>
      have e2 := kd.cell e1 (by simp)
      repeat'
        first
          | refine Q_then ?_ | refine C_cond_t rfl ?_ | refine C_cond_f rfl ?_ | refine C_seq ?_ | refine C_block ?_ | refine C_skip ?_ | refine C_ret ?_ | refine C_exit ?_
          | refine Q_then_ret ?_ | refine Q_then_exit ?_ | refine Q_block ?_ | refine Q_block_ret ?_ | refine Q_block_here ?_ | refine Q_block_on rfl ?_ | refine C_scope ?_ | refine C_label ?_ | refine Q_asn ?_
      (refine C_region ?_
       <;> (first | refine M_slice rfl ?_ | refine W_move ?_)
       <;> (first | refine M_slice rfl ?_ | refine W_move ?_)
       <;> (first | refine M_int rfl ?_ | refine W_move ?_)
       <;> (first | refine W_idx1 rfl rfl rfl (by omega) ?_ | refine W_idx rfl rfl rfl (by omega) ?_ | refine W_indexAddr rfl rfl (by omega) (by omega) ?_)
       <;> (first | refine W_load rfl (Blk.cell (by assumption) (by rfl)) ?_ | refine W_load rfl (by assumption) ?_))
      -- at operation 5: <dst=(some 39) op=(buildSlice 22 1 [[0, (tmp 38)]]) type=22 guard=none>
      refine W_push (u := .int .i64 r[k]) (xs := intC ys) rfl rfl rfl rfl (ownsRow_ext hu kd) (by omega) (by omega) (by have := kd.size; omega) (fun u' W3 o3 k3 q => ?_)
      have hfr := ownsRow_keep (ownsRow_ext ho kd) k3 (fun g hg hm => hd g hg (Option.mem_toList.1 hm))
      have hd' : Disj (.slice va xs.length vc) u' := by
        intro gg hg
        rcases q with q | ⟨g', q, hg'⟩
        · rw [q]; exact hd gg hg
        · rw [q]; intro e'; cases e'
          have := (ho.lt gg hg).2
          have := kd.size
          omega
      obtain ⟨ua', uc', rfl⟩ := own_form o3
      ((refine M_assign ?_; (first | refine M_slice rfl ?_ | refine W_move ?_))
       <;> refine W_nil ?_)
      repeat'
        first
          | refine Q_then ?_ | refine C_cond_t rfl ?_ | refine C_cond_f rfl ?_ | refine C_seq ?_ | refine C_block ?_ | refine C_skip ?_ | refine C_ret ?_ | refine C_exit ?_
          | refine Q_then_ret ?_ | refine Q_then_exit ?_ | refine Q_block ?_ | refine Q_block_ret ?_ | refine Q_block_here ?_ | refine Q_block_on rfl ?_ | refine C_scope ?_ | refine C_label ?_ | refine Q_asn ?_
      (refine C_region ?_
       <;> (first | refine M_int rfl ?_ | refine W_move ?_)
       <;> (first | refine M_int rfl ?_ | refine W_move ?_)
       <;> refine W_mul rfl rfl (by first | exact inR_i64 (by omega) (by omega) | exact inR_u8 (by omega) (by omega) | exact inR_u16 (by omega) (by omega)) ?_
       <;> refine W_add rfl rfl (by first | exact inR_i64 (by omega) (by omega) | exact inR_u8 (by omega) (by omega) | exact inR_u16 (by omega) (by omega)) ?_)
      -- at operation 4: <dst=(some 45) op=(call <callee=(builtin min) args=[(tmp 41), (tmp 44)] argTypes=[3, 3]>) type=3 guard=none>
      refine W_min rfl rfl ?_
      ((refine M_assign ?_; (first | refine M_int rfl ?_ | refine W_move ?_))
       <;> refine W_nil ?_)
      repeat'
        first
          | refine Q_then ?_ | refine C_cond_t rfl ?_ | refine C_cond_f rfl ?_ | refine C_seq ?_ | refine C_block ?_ | refine C_skip ?_ | refine C_ret ?_ | refine C_exit ?_
          | refine Q_then_ret ?_ | refine Q_then_exit ?_ | refine Q_block ?_ | refine Q_block_ret ?_ | refine Q_block_here ?_ | refine Q_block_on rfl ?_ | refine C_scope ?_ | refine C_label ?_ | refine Q_asn ?_
      (refine C_region ?_
       <;> (first | refine M_int rfl ?_ | refine W_move ?_)
       <;> refine W_add rfl rfl (by first | exact inR_i64 (by omega) (by omega) | exact inR_u8 (by omega) (by omega) | exact inR_u16 (by omega) (by omega)) ?_
       <;> (refine M_assign ?_; (first | refine M_int rfl ?_ | refine W_move ?_))
       <;> refine W_nil ?_)
      repeat'
        first
          | refine Q_then ?_ | refine C_cond_t rfl ?_ | refine C_cond_f rfl ?_ | refine C_seq ?_ | refine C_block ?_ | refine C_skip ?_ | refine C_ret ?_ | refine C_exit ?_
          | refine Q_then_ret ?_ | refine Q_then_exit ?_ | refine Q_block ?_ | refine Q_block_ret ?_ | refine Q_block_here ?_ | refine Q_block_on rfl ?_ | refine C_scope ?_ | refine C_label ?_ | refine Q_asn ?_
      refine ⟨(k + 1, .slice va xs.length vc, .slice ua' (ys.length + 1) uc'), ⟨rfl, ⟨rfl, rfl, congrArg (Value.int .i64) ?_, rfl, rfl, rfl, trivial⟩, ⟨hk2, (hW.trans kd).keepO (ownsRow_ext hu kd) (Nat.le_refl _) k3, hd', ?_, ?_⟩⟩, by dsimp only; omega⟩
      · rw [htk, prioT_bad (by omega) hb, hkl]; omega
      · dsimp only
        rw [ht1, hb, if_pos rfl, List.append_nil]; exact hfr
      · dsimp only
        rw [ht2, hb, if_pos rfl, List.length_append, intC_append]; exact o3
    | false =>
      have e2 := kd.cell e1 (by simp)
      repeat'
        first
          | refine Q_then ?_ | refine C_cond_t rfl ?_ | refine C_cond_f rfl ?_ | refine C_seq ?_ | refine C_block ?_ | refine C_skip ?_ | refine C_ret ?_ | refine C_exit ?_
          | refine Q_then_ret ?_ | refine Q_then_exit ?_ | refine Q_block ?_ | refine Q_block_ret ?_ | refine Q_block_here ?_ | refine Q_block_on rfl ?_ | refine C_scope ?_ | refine C_label ?_ | refine Q_asn ?_
      (refine C_region ?_
       <;> (first | refine M_slice rfl ?_ | refine W_move ?_)
       <;> (first | refine M_slice rfl ?_ | refine W_move ?_)
       <;> (first | refine M_int rfl ?_ | refine W_move ?_)
       <;> (first | refine W_idx1 rfl rfl rfl (by omega) ?_ | refine W_idx rfl rfl rfl (by omega) ?_ | refine W_indexAddr rfl rfl (by omega) (by omega) ?_)
       <;> (first | refine W_load rfl (Blk.cell (by assumption) (by rfl)) ?_ | refine W_load rfl (by assumption) ?_))
      -- at operation 5: <dst=(some 51) op=(buildSlice 22 1 [[0, (tmp 50)]]) type=22 guard=none>
      refine W_push (u := .int .i64 r[k]) (xs := intC xs) rfl rfl rfl rfl (ownsRow_ext ho kd) (by omega) (by omega) (by have := kd.size; omega) (fun v' W3 o3 k3 q => ?_)
      have hbk := ownsRow_keep (ownsRow_ext hu kd) k3 (fun g hg hm => hd g (Option.mem_toList.1 hm) hg)
      have hd' : Disj v' (.slice ua ys.length uc) := by
        intro gg hg e'
        rcases q with q | ⟨g', q, hg'⟩
        · rw [q] at hg; exact hd gg hg e'
        · rw [q] at hg; cases hg
          have := (hu.lt _ e').2
          have := kd.size
          omega
      have kW3 : Ext w2 W3 := (hW.trans kd).keepO (ownsRow_ext ho kd) (Nat.le_refl _) k3
      obtain ⟨va', vc', rfl⟩ := own_form o3
      ((refine M_assign ?_; (first | refine M_slice rfl ?_ | refine W_move ?_))
       <;> refine W_nil ?_)
      repeat'
        first
          | refine Q_then ?_ | refine C_cond_t rfl ?_ | refine C_cond_f rfl ?_ | refine C_seq ?_ | refine C_block ?_ | refine C_skip ?_ | refine C_ret ?_ | refine C_exit ?_
          | refine Q_then_ret ?_ | refine Q_then_exit ?_ | refine Q_block ?_ | refine Q_block_ret ?_ | refine Q_block_here ?_ | refine Q_block_on rfl ?_ | refine C_scope ?_ | refine C_label ?_ | refine Q_asn ?_
      have heW3 := he.keep (k1.trans kW3)
      have q1 := fun W' (hW' : Ext W3 W') => hW'.cell ((k1.trans kW3).cell (g0 k hk2) (by simp)) (by simp)
      have q3 := fun W' (hW' : Ext W3 W') => ((b1.keep kW3 (by simp)).keep hW' (by simp)).cell (o := 0 + 0) rfl
      have kd0 := kd
      refine C_drawN (.read 0 (.read 1 (.read 2 (.read 3 (.read 4 (.read 5 (.alt 6 .done .stop))))))) mixed (by kernel_rfl) (fun wd kd ed => ⟨Ext W3, ?_, ?_⟩)
      · exact kd
      ((apply D_R rfl rfl; (intro W hW; refine W_fieldAddr rfl ?_; exact W_nil ⟨rfl, rfl, rfl⟩))
       <;> (apply D_R rfl rfl; (intro W hW; (first | refine W_load rfl (q1 W hW) ?_ | refine W_load rfl (q3 W hW) ?_ | refine W_load_agg rfl (by rfl) (q1 W hW) ?_ | refine W_load_agg rfl (by rfl) (q3 W hW) ?_); exact W_nil ⟨rfl, rfl, rfl⟩))
       <;> (apply D_R rfl rfl; (intro W hW; (first | refine M_slice rfl ?_ | refine W_move ?_); exact W_nil ⟨rfl, rfl, rfl⟩))
       <;> (apply D_R rfl rfl; (intro W hW; (first | refine M_int rfl ?_ | refine W_move ?_); exact W_nil ⟨rfl, rfl, rfl⟩))
       <;> (apply D_R rfl rfl; (intro W hW; (first | refine W_idx1 rfl rfl rfl (by omega) ?_ | refine W_idx rfl rfl rfl (by omega) ?_ | refine W_indexAddr rfl rfl (by omega) (by omega) ?_); exact W_nil ⟨rfl, rfl, rfl⟩))
       <;> (apply D_R rfl rfl; (intro W hW; (first | refine W_load rfl (q1 W hW) ?_ | refine W_load rfl (q3 W hW) ?_ | refine W_load_agg rfl (by rfl) (q1 W hW) ?_ | refine W_load_agg rfl (by rfl) (q3 W hW) ?_); exact W_nil ⟨rfl, rfl, rfl⟩)))
      -- at place 6, operation 6: <dst=(some 59) op=(call <callee=(value (func 22)) args=[(tmp 54), (tmp 58)] argTypes=[22, 3]>) type=4 guard=none>
      refine D_E rfl ?_
      refine W_call (In_any _ e.good r[k] _ (heW3.1.keep kd)) rfl ?_
      rintro _ W4 ⟨rfl, rfl⟩
      refine W_nil ⟨Ext W3, fun _ h => h, kd, ?_⟩
      refine D_nil ?_
      have hge : e.good.contains r[k] = goodB e r[k] := by unfold badB at hb; simp only [goodB, hb]; simp
      rw [hge]
      cases hg : goodB e r[k] with
      | true =>
        repeat'
          first
            | refine Q_then ?_ | refine C_cond_t rfl ?_ | refine C_cond_f rfl ?_ | refine C_seq ?_ | refine C_block ?_ | refine C_skip ?_ | refine C_ret ?_ | refine C_exit ?_
            | refine Q_then_ret ?_ | refine Q_then_exit ?_ | refine Q_block ?_ | refine Q_block_ret ?_ | refine Q_block_here ?_ | refine Q_block_on rfl ?_ | refine C_scope ?_ | refine C_label ?_ | refine Q_asn ?_
        (refine C_region ?_
         <;> (first | refine M_int rfl ?_ | refine W_move ?_)
         <;> (first | refine M_int rfl ?_ | refine W_move ?_)
         <;> refine W_mul rfl rfl (by first | exact inR_i64 (by omega) (by omega) | exact inR_u8 (by omega) (by omega) | exact inR_u16 (by omega) (by omega)) ?_
         <;> refine W_add rfl rfl (by first | exact inR_i64 (by omega) (by omega) | exact inR_u8 (by omega) (by omega) | exact inR_u16 (by omega) (by omega)) ?_)
        -- at operation 4: <dst=(some 64) op=(call <callee=(builtin min) args=[(tmp 60), (tmp 63)] argTypes=[3, 3]>) type=3 guard=none>
        refine W_min rfl rfl ?_
        ((refine M_assign ?_; (first | refine M_int rfl ?_ | refine W_move ?_))
         <;> refine W_nil ?_)
        repeat'
          first
            | refine Q_then ?_ | refine C_cond_t rfl ?_ | refine C_cond_f rfl ?_ | refine C_seq ?_ | refine C_block ?_ | refine C_skip ?_ | refine C_ret ?_ | refine C_exit ?_
            | refine Q_then_ret ?_ | refine Q_then_exit ?_ | refine Q_block ?_ | refine Q_block_ret ?_ | refine Q_block_here ?_ | refine Q_block_on rfl ?_ | refine C_scope ?_ | refine C_label ?_ | refine Q_asn ?_
        (refine C_region ?_
         <;> (first | refine M_int rfl ?_ | refine W_move ?_)
         <;> refine W_add rfl rfl (by first | exact inR_i64 (by omega) (by omega) | exact inR_u8 (by omega) (by omega) | exact inR_u16 (by omega) (by omega)) ?_
         <;> (refine M_assign ?_; (first | refine M_int rfl ?_ | refine W_move ?_))
         <;> refine W_nil ?_)
        repeat'
          first
            | refine Q_then ?_ | refine C_cond_t rfl ?_ | refine C_cond_f rfl ?_ | refine C_seq ?_ | refine C_block ?_ | refine C_skip ?_ | refine C_ret ?_ | refine C_exit ?_
            | refine Q_then_ret ?_ | refine Q_then_exit ?_ | refine Q_block ?_ | refine Q_block_ret ?_ | refine Q_block_here ?_ | refine Q_block_on rfl ?_ | refine C_scope ?_ | refine C_label ?_ | refine Q_asn ?_
        refine ⟨(k + 1, .slice va' (xs.length + 1) vc', .slice ua ys.length uc), ⟨rfl, ⟨rfl, rfl, congrArg (Value.int .i64) ?_, rfl, rfl, rfl, trivial⟩, ⟨hk2, kW3.trans kd, hd', ?_, ?_⟩⟩, by dsimp only; omega⟩
        · rw [htk, prioT_good (by omega) hb hg, hkl]; omega
        · dsimp only
          rw [ht1, hb, if_neg (by simp), List.length_append, intC_append]; exact ownsRow_ext o3 kd
        · dsimp only
          rw [ht2, hb, if_neg (by simp), List.append_nil]; exact ownsRow_ext hbk kd
      | false =>
        repeat'
          first
            | refine Q_then ?_ | refine C_cond_t rfl ?_ | refine C_cond_f rfl ?_ | refine C_seq ?_ | refine C_block ?_ | refine C_skip ?_ | refine C_ret ?_ | refine C_exit ?_
            | refine Q_then_ret ?_ | refine Q_then_exit ?_ | refine Q_block ?_ | refine Q_block_ret ?_ | refine Q_block_here ?_ | refine Q_block_on rfl ?_ | refine C_scope ?_ | refine C_label ?_ | refine Q_asn ?_
        (refine C_region ?_
         <;> (first | refine M_int rfl ?_ | refine W_move ?_)
         <;> refine W_add rfl rfl (by first | exact inR_i64 (by omega) (by omega) | exact inR_u8 (by omega) (by omega) | exact inR_u16 (by omega) (by omega)) ?_
         <;> (refine M_assign ?_; (first | refine M_int rfl ?_ | refine W_move ?_))
         <;> refine W_nil ?_)
        repeat'
          first
            | refine Q_then ?_ | refine C_cond_t rfl ?_ | refine C_cond_f rfl ?_ | refine C_seq ?_ | refine C_block ?_ | refine C_skip ?_ | refine C_ret ?_ | refine C_exit ?_
            | refine Q_then_ret ?_ | refine Q_then_exit ?_ | refine Q_block ?_ | refine Q_block_ret ?_ | refine Q_block_here ?_ | refine Q_block_on rfl ?_ | refine C_scope ?_ | refine C_label ?_ | refine Q_asn ?_
        refine ⟨(k + 1, .slice va' (xs.length + 1) vc', .slice ua ys.length uc), ⟨rfl, ⟨rfl, rfl, congrArg (Value.int .i64) ?_, rfl, rfl, rfl, trivial⟩, ⟨hk2, kW3.trans kd, hd', ?_, ?_⟩⟩, by dsimp only; omega⟩
        · rw [htk, prioT_none hb hg]
        · dsimp only
          rw [ht1, hb, if_neg (by simp), List.length_append, intC_append]; exact ownsRow_ext o3 kd
        · dsimp only
          rw [ht2, hb, if_neg (by simp), List.append_nil]; exact ownsRow_ext hbk kd
  · repeat'
      first
        | refine Q_then ?_ | refine C_cond_t rfl ?_ | refine C_cond_f rfl ?_ | refine C_seq ?_ | refine C_block ?_ | refine C_skip ?_ | refine C_ret ?_ | refine C_exit ?_
        | refine Q_then_ret ?_ | refine Q_then_exit ?_ | refine Q_block ?_ | refine Q_block_ret ?_ | refine Q_block_here ?_ | refine Q_block_on rfl ?_ | refine C_scope ?_ | refine C_label ?_ | refine Q_asn ?_
    have hkl : k = r.length := by omega
    rw [List.take_of_length_le (by omega)] at hxs hys ⊢
    have hsr : stepR r e = (xs ++ ys, prioT e r r.length) := by rw [stepR, hv, if_pos rfl, ← hys, ← hxs]; rfl
    (refine C_region ?_
     <;> (first | refine M_slice rfl ?_ | refine W_move ?_)
     <;> (first | refine M_slice rfl ?_ | refine W_move ?_))
    -- at operation 2: <dst=(some 67) op=(call <callee=(builtin append) args=[(tmp 65), (tmp 66)] argTypes=[22, 22]>) type=22 guard=none>
    refine W_append rfl rfl ho (Sl_of_own (ok := anyB) hu fun _ _ => trivial) (by omega) rfl (by rw [intC_length]; omega) (oneC_int _) (by omega) (by omega) (by omega) (fun v' W3 a3 => ?_)
    have k3 := hW.keepO ho (Nat.le_refl _) a3.keep
    ((first | refine M_int rfl ?_ | refine W_move ?_)
     <;> (refine M_assign ?_; (first | refine M_slice rfl ?_ | refine W_move ?_))
     <;> (refine M_assign ?_; (first | refine M_int rfl ?_ | refine W_move ?_))
     <;> refine W_nil ?_)
    repeat'
      first
        | refine Q_then ?_ | refine C_cond_t rfl ?_ | refine C_cond_f rfl ?_ | refine C_seq ?_ | refine C_block ?_ | refine C_skip ?_ | refine C_ret ?_ | refine C_exit ?_
        | refine Q_then_ret ?_ | refine Q_then_exit ?_ | refine Q_block ?_ | refine Q_block_ret ?_ | refine Q_block_here ?_ | refine Q_block_on rfl ?_ | refine C_scope ?_ | refine C_label ?_ | refine Q_asn ?_
    refine fin_ret2 rfl ⟨v', by rw [hsr]; rfl, ?_, k1.trans k3⟩
    rw [hsr]
    dsimp only
    rw [List.length_append, intC_append]
    exact ownsRow_mono a3.own hz1
end Go.Proofs.Yticliabmhgofjaa
