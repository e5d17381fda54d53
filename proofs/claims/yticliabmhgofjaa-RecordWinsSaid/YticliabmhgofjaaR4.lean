/- The record after an event: Step of both implementations. Conditions: none. -/
import Derived.Test.YticliabmhgofjaaR3
namespace Go.Proofs.Yticliabmhgofjaa
open Go.RowKit
set_option linter.unusedVariables false

def badB (e : Evt) (x : Int) : Bool := e.bad.contains x
def goodB (e : Evt) (x : Int) : Bool := e.good.contains x && !e.bad.contains x
def prioT (e : Evt) (l : List Int) (N : Nat) : Int :=
  if l.findIdx (goodB e) < l.findIdx (badB e) then ((2 * l.findIdx (goodB e) + 2 : Nat) : Int) else if l.findIdx (badB e) < l.findIdx (goodB e) then ((2 * l.findIdx (badB e) + 1 : Nat) : Int) else ((2 * N + 1 : Nat) : Int)
def stepL (r : List Int) (e : Evt) : List Int := r.filter (fun x => !badB e x) ++ r.filter (badB e)
def stepR (r : List Int) (e : Evt) : List Int × Int := if validL r r.length then (stepL r e, prioT e r r.length) else ([], 0)

theorem stepL_length (r : List Int) (e : Evt) : (stepL r e).length = r.length := by
  unfold stepL
  induction r with
  | nil => rfl
  | cons x r ih =>
    rw [List.length_append] at ih ⊢
    simp only [List.filter_cons]
    cases badB e x <;> simp <;> omega

theorem findIdx_same {p q : Int → Bool} : ∀ {l : List Int}, (∀ x ∈ l, p x = q x) → l.findIdx p = l.findIdx q
  | [], _ => rfl
  | x :: l, h => by
    rw [List.findIdx_cons, List.findIdx_cons, h x (by simp), findIdx_same fun y hy => h y (List.mem_cons_of_mem _ hy)]

theorem mark_bad {e : Evt} {n x : Int} (h : 1 ≤ x ∧ x ≤ n) : (((namesL e n).lookup x).getD 0 == 2) = badB e x := by
  rw [lookup_names]
  have hn : inN n x = true := by simp [inN]; exact h
  by_cases hb : x ∈ e.bad
  · simp [hn, hb, badB]
  · by_cases hg : x ∈ e.good <;> simp [hn, hb, hg, badB]
theorem mark_good {e : Evt} {n x : Int} (h : 1 ≤ x ∧ x ≤ n) : (((namesL e n).lookup x).getD 0 == 1) = goodB e x := by
  rw [lookup_names]
  have hn : inN n x = true := by simp [inN]; exact h
  by_cases hb : x ∈ e.bad
  · simp [hn, hb, goodB]
  · by_cases hg : x ∈ e.good <;> simp [hn, hb, hg, goodB]

theorem Step_any (v g b : Value) (r : List Int) (e : Evt) (w : World) (h : Ints w v r) (he : EvAt w g b e) :
    Fn Try.prog 12 [v, .agg #[g, b]] w fun v w' => ∃ rv, v = .tuple #[rv, .int .i64 (stepR r e).2] ∧ w'.ownsRow w.heap.size 3 1 rv (stepR r e).1.length (intC (stepR r e).1) ∧ Ext w w' := by
  obtain ⟨a, c, rfl, hlc, hc, hx⟩ := h.form
  refine fn_of_wc Try.func12 rfl Try.ntmps12 (Nat.le_of_ble_eq_true rfl) (by kernel_rfl) ?_
  repeat'
    first
      | refine Q_then ?_ | refine C_cond_t rfl ?_ | refine C_cond_f rfl ?_ | refine C_seq ?_ | refine C_block ?_ | refine C_skip ?_ | refine C_ret ?_ | refine C_exit ?_
      | refine Q_then_ret ?_ | refine Q_then_exit ?_ | refine Q_block ?_ | refine Q_block_ret ?_ | refine Q_block_here ?_ | refine Q_block_on rfl ?_ | refine C_scope ?_ | refine C_label ?_ | refine Q_asn ?_
  refine C_region ?_
  refine W_box (L := [g, b]) rfl (fun w1 n1 => ?_)
  have b1 := n1.blk
  have k1 := n1.keep
  clear n1
  ((refine M_assign ?_; (first | refine M_slice rfl ?_ | refine W_move ?_))
   <;> (refine M_assign ?_; (first | refine M_int rfl ?_ | refine W_move ?_))
   <;> refine W_nil ?_)
  repeat'
    first
      | refine Q_then ?_ | refine C_cond_t rfl ?_ | refine C_cond_f rfl ?_ | refine C_seq ?_ | refine C_block ?_ | refine C_skip ?_ | refine C_ret ?_ | refine C_exit ?_
      | refine Q_then_ret ?_ | refine Q_then_exit ?_ | refine Q_block ?_ | refine Q_block_ret ?_ | refine Q_block_here ?_ | refine Q_block_on rfl ?_ | refine C_scope ?_ | refine C_label ?_ | refine Q_asn ?_
  (refine C_region ?_
   <;> (first | refine M_slice rfl ?_ | refine W_move ?_)
   <;> refine W_len rfl ?_
   <;> (refine M_assign ?_; (first | refine M_int rfl ?_ | refine W_move ?_))
   <;> refine W_nil ?_)
  repeat'
    first
      | refine Q_then ?_ | refine C_cond_t rfl ?_ | refine C_cond_f rfl ?_ | refine C_seq ?_ | refine C_block ?_ | refine C_skip ?_ | refine C_ret ?_ | refine C_exit ?_
      | refine Q_then_ret ?_ | refine Q_then_exit ?_ | refine Q_block ?_ | refine Q_block_ret ?_ | refine Q_block_here ?_ | refine Q_block_on rfl ?_ | refine C_scope ?_ | refine C_label ?_ | refine Q_asn ?_
  (refine C_region ?_
   <;> (first | refine M_slice rfl ?_ | refine W_move ?_)
   <;> (first | refine M_int rfl ?_ | refine W_move ?_))
  -- at operation 2: <dst=(some 21) op=(call <callee=(value (func 17)) args=[(tmp 19), (tmp 20)] argTypes=[22, 3]>) type=4 guard=none>
  refine W_call (Valid_any _ r _ _ (h.keep k1)) rfl ?_
  rintro _ w2 ⟨rfl, k2⟩
  replace b1 := b1.keep k2 (by simp)
  replace k1 := k1.trans k2
  clear k2
  (refine W_not rfl ?_
   <;> refine W_nil ?_)
  cases hv : validL r r.length with
  | false =>
    repeat'
      first
        | refine Q_then ?_ | refine C_cond_t rfl ?_ | refine C_cond_f rfl ?_ | refine C_seq ?_ | refine C_block ?_ | refine C_skip ?_ | refine C_ret ?_ | refine C_exit ?_
        | refine Q_then_ret ?_ | refine Q_then_exit ?_ | refine Q_block ?_ | refine Q_block_ret ?_ | refine Q_block_here ?_ | refine Q_block_on rfl ?_ | refine C_scope ?_ | refine C_label ?_ | refine Q_asn ?_
    (refine C_region ?_
     <;> (refine M_assign ?_; (first | refine M_slice rfl ?_ | refine W_move ?_))
     <;> (refine M_assign ?_; (first | refine M_int rfl ?_ | refine W_move ?_))
     <;> refine W_nil ?_)
    repeat'
      first
        | refine Q_then ?_ | refine C_cond_t rfl ?_ | refine C_cond_f rfl ?_ | refine C_seq ?_ | refine C_block ?_ | refine C_skip ?_ | refine C_ret ?_ | refine C_exit ?_
        | refine Q_then_ret ?_ | refine Q_then_exit ?_ | refine Q_block ?_ | refine Q_block_ret ?_ | refine Q_block_here ?_ | refine Q_block_on rfl ?_ | refine C_scope ?_ | refine C_label ?_ | refine Q_asn ?_
    exact fin_ret2 rfl ⟨_, by rw [stepR, hv]; rfl, by rw [stepR, hv]; exact own_none _ _ _, k1⟩
  | true =>
  obtain ⟨_, h6, _, hin, hnd⟩ := (validL_iff _ _).1 hv
  repeat'
    first
      | refine Q_then ?_ | refine C_cond_t rfl ?_ | refine C_cond_f rfl ?_ | refine C_seq ?_ | refine C_block ?_ | refine C_skip ?_ | refine C_ret ?_ | refine C_exit ?_
      | refine Q_then_ret ?_ | refine Q_then_exit ?_ | refine Q_block ?_ | refine Q_block_ret ?_ | refine Q_block_here ?_ | refine Q_block_on rfl ?_ | refine C_scope ?_ | refine C_label ?_ | refine Q_asn ?_
  refine C_region ?_
  refine W_load_aggB rfl b1 rfl ?_
  ((first | refine M_int rfl ?_ | refine W_move ?_))
  -- at operation 2: <dst=(some 25) op=(call <callee=(value (func 26)) args=[(tmp 23), (tmp 24)] argTypes=[24, 3]>) type=44 guard=none>
  refine W_call (names_any g b e r.length _ (he.keep k1)) rfl ?_
  rintro _ w3 ⟨rm, rfl, hr1, hr2, i3, k3⟩
  replace k1 := k1.trans k3
  refine W_alloc (fun w4 n4 => ?_)
  refine W_store (v := .map (some rm)) rfl rfl rfl n4.blk (by simp) (fun w5 p5 => ?_)
  have b5 : Blk w5 w3.heap.size 44 [.map (some rm)] := p5.blk
  have k5 : Ext w3 w5 := n4.keep.keep p5.keep (by simp)
  have z5 : w5.heap.size = w3.heap.size + 1 := by have := n4.size; have := p5.size; omega
  replace i3 := i3.keep k5 (by simp)
  replace k1 := k1.trans k5
  have hz1 := k1.size
  clear n4 p5 k5 k3 b1
  generalize w3.heap.size = pm at *
  refine W_nil ?_
  repeat'
    first
      | refine Q_then ?_ | refine C_cond_t rfl ?_ | refine C_cond_f rfl ?_ | refine C_seq ?_ | refine C_block ?_ | refine C_skip ?_ | refine C_ret ?_ | refine C_exit ?_
      | refine Q_then_ret ?_ | refine Q_then_exit ?_ | refine Q_block ?_ | refine Q_block_ret ?_ | refine Q_block_here ?_ | refine Q_block_on rfl ?_ | refine C_scope ?_ | refine C_label ?_ | refine Q_asn ?_
  (refine C_region ?_
   <;> refine W_makeFunc rfl rfl ?_
   <;> (refine M_assign ?_; (first | refine M_func rfl ?_ | refine W_move ?_))
   <;> refine W_nil ?_)
  repeat'
    first
      | refine Q_then ?_ | refine C_cond_t rfl ?_ | refine C_cond_f rfl ?_ | refine C_seq ?_ | refine C_block ?_ | refine C_skip ?_ | refine C_ret ?_ | refine C_exit ?_
      | refine Q_then_ret ?_ | refine Q_then_exit ?_ | refine Q_block ?_ | refine Q_block_ret ?_ | refine Q_block_here ?_ | refine Q_block_on rfl ?_ | refine C_scope ?_ | refine C_label ?_ | refine Q_asn ?_
  (refine C_region ?_
   <;> refine W_makeFunc rfl rfl ?_
   <;> (refine M_assign ?_; (first | refine M_func rfl ?_ | refine W_move ?_))
   <;> refine W_nil ?_)
  repeat'
    first
      | refine Q_then ?_ | refine C_cond_t rfl ?_ | refine C_cond_f rfl ?_ | refine C_seq ?_ | refine C_block ?_ | refine C_skip ?_ | refine C_ret ?_ | refine C_exit ?_
      | refine Q_then_ret ?_ | refine Q_then_exit ?_ | refine Q_block ?_ | refine Q_block_ret ?_ | refine Q_block_here ?_ | refine Q_block_on rfl ?_ | refine C_scope ?_ | refine C_label ?_ | refine Q_asn ?_
  (refine C_region ?_
   <;> (first | refine M_int rfl ?_ | refine W_move ?_))
  -- at operation 1: <dst=(some 29) op=(makeSlice 22 (const (int i64 0)) (tmp 28)) type=22 guard=none>
  refine W_make0 (n := r.length) rfl rfl rfl rfl rfl (by omega) (by omega) (fun w6 n6 o6 => ?_)
  have k6 := n6.keep
  have z6 := n6.size
  clear n6
  ((refine M_assign ?_; (first | refine M_slice rfl ?_ | refine W_move ?_))
   <;> refine W_nil ?_)
  repeat'
    first
      | refine Q_then ?_ | refine C_cond_t rfl ?_ | refine C_cond_f rfl ?_ | refine C_seq ?_ | refine C_block ?_ | refine C_skip ?_ | refine C_ret ?_ | refine C_exit ?_
      | refine Q_then_ret ?_ | refine Q_then_exit ?_ | refine Q_block ?_ | refine Q_block_ret ?_ | refine Q_block_here ?_ | refine Q_block_on rfl ?_ | refine C_scope ?_ | refine C_label ?_ | refine Q_asn ?_
  (refine C_region ?_
   <;> (first | refine M_slice rfl ?_ | refine W_move ?_)
   <;> refine W_len rfl ?_
   <;> (first | refine M_int rfl ?_ | refine W_move ?_)
   <;> refine W_nil ?_)
  repeat'
    first
      | refine Q_then ?_ | refine C_cond_t rfl ?_ | refine C_cond_f rfl ?_ | refine C_seq ?_ | refine C_block ?_ | refine C_skip ?_ | refine C_ret ?_ | refine C_exit ?_
      | refine Q_then_ret ?_ | refine Q_then_exit ?_ | refine Q_block ?_ | refine Q_block_ret ?_ | refine Q_block_here ?_ | refine Q_block_on rfl ?_ | refine C_scope ?_ | refine C_label ?_ | refine Q_asn ?_
  have hbad : ∀ W, Ext w5 W → ∀ x, Fn Try.prog 27 [.int .i64 x, .pointer (some ⟨pm, 0, none⟩)] W fun v w' => v = .bool (((namesL e r.length).lookup x).getD 0 == 2) ∧ w' = W := fun W hW x => isBad_any x pm rm _ W (b5.keep hW (by simp)) (i3.keep hW (by simp))
  have hgood : ∀ W, Ext w5 W → ∀ x, Fn Try.prog 28 [.int .i64 x, .pointer (some ⟨pm, 0, none⟩)] W fun v w' => v = .bool (((namesL e r.length).lookup x).getD 0 == 1) ∧ w' = W := fun W hW x => isGood_any x pm rm _ W (b5.keep hW (by simp)) (i3.keep hW (by simp))
  refine C_loop (α := Nat × Value) (fun x => [(0, .slice a r.length c), (6, .int .i64 r.length), (8, .func (.func 27) #[] #[.pointer (some ⟨pm, 0, none⟩)]), (9, .func (.func 28) #[] #[.pointer (some ⟨pm, 0, none⟩)]), (10, x.2), (30, .slice a r.length c), (31, .int .i64 r.length), (32, .int .i64 x.1)])
    (fun x W => x.1 ≤ r.length ∧ Ext w5 W ∧ W.ownsRow w5.heap.size 3 1 x.2 ((r.take x.1).filter (fun x => !badB e x)).length (intC ((r.take x.1).filter (fun x => !badB e x)))) (fun x => r.length - x.1) (0, .slice (some ⟨w5.heap.size, 0, none⟩) 0 r.length) ⟨rfl, rfl, rfl, rfl, rfl, rfl, rfl, rfl, trivial⟩ ⟨by dsimp only; omega, k6, o6⟩ ?_
  · rintro ⟨k, v⟩ W f' ⟨hk, hW, ho⟩
    dsimp only at hk ho ⊢
    have hWz := hW.size
    generalize hxs : (r.take k).filter (fun x => !badB e x) = xs at ho
    obtain ⟨va, vc, rfl⟩ := own_form ho
    have hxl : xs.length ≤ 6000 := by rw [← hxs]; have := List.length_filter_le (fun x => !badB e x) (r.take k); have := List.length_take_le' k r; omega
    repeat'
      first
        | refine Q_then ?_ | refine C_cond_t rfl ?_ | refine C_cond_f rfl ?_ | refine C_seq ?_ | refine C_block ?_ | refine C_skip ?_ | refine C_ret ?_ | refine C_exit ?_
        | refine Q_then_ret ?_ | refine Q_then_exit ?_ | refine Q_block ?_ | refine Q_block_ret ?_ | refine Q_block_here ?_ | refine Q_block_on rfl ?_ | refine C_scope ?_ | refine C_label ?_ | refine Q_asn ?_
    (refine C_region ?_
     <;> (refine W_lss rfl rfl (fun hc => ?_) (fun hc => ?_) <;> try (exfalso; omega))
     <;> refine W_nil ?_)
    · repeat'
        first
          | refine Q_then ?_ | refine C_cond_t rfl ?_ | refine C_cond_f rfl ?_ | refine C_seq ?_ | refine C_block ?_ | refine C_skip ?_ | refine C_ret ?_ | refine C_exit ?_
          | refine Q_then_ret ?_ | refine Q_then_exit ?_ | refine Q_block ?_ | refine Q_block_ret ?_ | refine Q_block_here ?_ | refine Q_block_on rfl ?_ | refine C_scope ?_ | refine C_label ?_ | refine Q_asn ?_
      have hk2 : k < r.length := by omega
      obtain ⟨bb, o, rfl, g0⟩ := hx (by omega)
      have e1 := (k1.trans hW).cell (g0 k hk2) (by simp)
      have hts : (r.take (k + 1)).filter (fun x => !badB e x) = xs ++ if badB e r[k] then [] else [r[k]] := by
        rw [List.take_succ_eq_append_getElem hk2, List.filter_append, hxs]
        congr 1
        cases hb : badB e r[k] <;> simp [hb]
      have hmb := mark_bad (e := e) (hin _ (List.getElem_mem hk2))
      (refine C_region ?_
       <;> (first | refine W_idx1 rfl rfl rfl (by omega) ?_ | refine W_idx rfl rfl rfl (by omega) ?_ | refine W_indexAddr rfl rfl (by omega) (by omega) ?_)
       <;> (first | refine W_load rfl (Blk.cell (by assumption) (by rfl)) ?_ | refine W_load rfl (by assumption) ?_)
       <;> (refine M_assign ?_; (first | refine M_int rfl ?_ | refine W_move ?_))
       <;> refine W_nil ?_)
      repeat'
        first
          | refine Q_then ?_ | refine C_cond_t rfl ?_ | refine C_cond_f rfl ?_ | refine C_seq ?_ | refine C_block ?_ | refine C_skip ?_ | refine C_ret ?_ | refine C_exit ?_
          | refine Q_then_ret ?_ | refine Q_then_exit ?_ | refine Q_block ?_ | refine Q_block_ret ?_ | refine Q_block_here ?_ | refine Q_block_on rfl ?_ | refine C_scope ?_ | refine C_label ?_ | refine Q_asn ?_
      (refine C_region ?_
       <;> (first | refine M_func rfl ?_ | refine W_move ?_)
       <;> (first | refine M_int rfl ?_ | refine W_move ?_))
      -- at operation 2: <dst=(some 38) op=(call <callee=(value (tmp 36)) args=[(tmp 37)] argTypes=[3]>) type=4 guard=none>
      refine W_callv (v1 := []) (v2 := [.pointer (some ⟨pm, 0, none⟩)]) (vs := [.int .i64 r[k]]) rfl (hbad W hW r[k]) rfl ?_
      rintro _ W2 ⟨rfl, rfl⟩
      rw [hmb]
      (refine W_not rfl ?_
       <;> refine W_nil ?_)
      cases hb : badB e r[k] with
      | true =>
        repeat'
          first
            | refine Q_then ?_ | refine C_cond_t rfl ?_ | refine C_cond_f rfl ?_ | refine C_seq ?_ | refine C_block ?_ | refine C_skip ?_ | refine C_ret ?_ | refine C_exit ?_
            | refine Q_then_ret ?_ | refine Q_then_exit ?_ | refine Q_block ?_ | refine Q_block_ret ?_ | refine Q_block_here ?_ | refine Q_block_on rfl ?_ | refine C_scope ?_ | refine C_label ?_ | refine Q_asn ?_
        (refine C_region ?_
         <;> refine W_add rfl rfl (by first | exact inR_i64 (by omega) (by omega) | exact inR_u8 (by omega) (by omega) | exact inR_u16 (by omega) (by omega)) ?_
         <;> (first | refine M_int rfl ?_ | refine W_move ?_)
         <;> refine W_nil ?_)
        repeat'
          first
            | refine Q_then ?_ | refine C_cond_t rfl ?_ | refine C_cond_f rfl ?_ | refine C_seq ?_ | refine C_block ?_ | refine C_skip ?_ | refine C_ret ?_ | refine C_exit ?_
            | refine Q_then_ret ?_ | refine Q_then_exit ?_ | refine Q_block ?_ | refine Q_block_ret ?_ | refine Q_block_here ?_ | refine Q_block_on rfl ?_ | refine C_scope ?_ | refine C_label ?_ | refine Q_asn ?_
        refine ⟨(k + 1, .slice va xs.length vc), ⟨rfl, ⟨rfl, rfl, rfl, rfl, rfl, rfl, rfl, rfl, trivial⟩, ⟨hk2, hW, ?_⟩⟩, by dsimp only; omega⟩
        dsimp only
        rw [hts, hb, if_pos rfl, List.append_nil]
        exact ho
      | false =>
        repeat'
          first
            | refine Q_then ?_ | refine C_cond_t rfl ?_ | refine C_cond_f rfl ?_ | refine C_seq ?_ | refine C_block ?_ | refine C_skip ?_ | refine C_ret ?_ | refine C_exit ?_
            | refine Q_then_ret ?_ | refine Q_then_exit ?_ | refine Q_block ?_ | refine Q_block_ret ?_ | refine Q_block_here ?_ | refine Q_block_on rfl ?_ | refine C_scope ?_ | refine C_label ?_ | refine Q_asn ?_
        (refine C_region ?_
         <;> (first | refine M_slice rfl ?_ | refine W_move ?_)
         <;> (first | refine M_int rfl ?_ | refine W_move ?_))
        -- at operation 2: <dst=(some 42) op=(buildSlice 22 1 [[0, (tmp 41)]]) type=22 guard=none>
        refine W_push (u := .int .i64 r[k]) (xs := intC xs) rfl rfl rfl rfl ho (by omega) (by omega) hWz (fun v' W3 o3 k3 _ => ?_)
        obtain ⟨va', vc', rfl⟩ := own_form o3
        ((refine M_assign ?_; (first | refine M_slice rfl ?_ | refine W_move ?_))
         <;> refine W_nil ?_)
        repeat'
          first
            | refine Q_then ?_ | refine C_cond_t rfl ?_ | refine C_cond_f rfl ?_ | refine C_seq ?_ | refine C_block ?_ | refine C_skip ?_ | refine C_ret ?_ | refine C_exit ?_
            | refine Q_then_ret ?_ | refine Q_then_exit ?_ | refine Q_block ?_ | refine Q_block_ret ?_ | refine Q_block_here ?_ | refine Q_block_on rfl ?_ | refine C_scope ?_ | refine C_label ?_ | refine Q_asn ?_
        (refine C_region ?_
         <;> refine W_add rfl rfl (by first | exact inR_i64 (by omega) (by omega) | exact inR_u8 (by omega) (by omega) | exact inR_u16 (by omega) (by omega)) ?_
         <;> (first | refine M_int rfl ?_ | refine W_move ?_)
         <;> refine W_nil ?_)
        repeat'
          first
            | refine Q_then ?_ | refine C_cond_t rfl ?_ | refine C_cond_f rfl ?_ | refine C_seq ?_ | refine C_block ?_ | refine C_skip ?_ | refine C_ret ?_ | refine C_exit ?_
            | refine Q_then_ret ?_ | refine Q_then_exit ?_ | refine Q_block ?_ | refine Q_block_ret ?_ | refine Q_block_here ?_ | refine Q_block_on rfl ?_ | refine C_scope ?_ | refine C_label ?_ | refine Q_asn ?_
        refine ⟨(k + 1, .slice va' (xs.length + 1) vc'), ⟨rfl, ⟨rfl, rfl, rfl, rfl, rfl, rfl, rfl, rfl, trivial⟩, ⟨hk2, hW.keepO ho (Nat.le_refl _) k3, ?_⟩⟩, by dsimp only; omega⟩
        dsimp only
        rw [hts, hb, if_neg (by simp), List.length_append, intC_append]
        exact o3
    · repeat'
        first
          | refine Q_then ?_ | refine C_cond_t rfl ?_ | refine C_cond_f rfl ?_ | refine C_seq ?_ | refine C_block ?_ | refine C_skip ?_ | refine C_ret ?_ | refine C_exit ?_
          | refine Q_then_ret ?_ | refine Q_then_exit ?_ | refine Q_block ?_ | refine Q_block_ret ?_ | refine Q_block_here ?_ | refine Q_block_on rfl ?_ | refine C_scope ?_ | refine C_label ?_ | refine Q_asn ?_
      rw [List.take_of_length_le (by omega)] at hxs
      (refine C_region ?_
       <;> (first | refine M_slice rfl ?_ | refine W_move ?_)
       <;> refine W_len rfl ?_
       <;> (first | refine M_int rfl ?_ | refine W_move ?_)
       <;> refine W_nil ?_)
      repeat'
        first
          | refine Q_then ?_ | refine C_cond_t rfl ?_ | refine C_cond_f rfl ?_ | refine C_seq ?_ | refine C_block ?_ | refine C_skip ?_ | refine C_ret ?_ | refine C_exit ?_
          | refine Q_then_ret ?_ | refine Q_then_exit ?_ | refine Q_block ?_ | refine Q_block_ret ?_ | refine Q_block_here ?_ | refine Q_block_on rfl ?_ | refine C_scope ?_ | refine C_label ?_ | refine Q_asn ?_
      refine C_loop (α := Nat × Value) (fun x => [(0, .slice a r.length c), (6, .int .i64 r.length), (8, .func (.func 27) #[] #[.pointer (some ⟨pm, 0, none⟩)]), (9, .func (.func 28) #[] #[.pointer (some ⟨pm, 0, none⟩)]), (10, x.2), (45, .slice a r.length c), (46, .int .i64 r.length), (47, .int .i64 x.1)])
        (fun x W => x.1 ≤ r.length ∧ Ext w5 W ∧ W.ownsRow w5.heap.size 3 1 x.2 (xs ++ (r.take x.1).filter (badB e)).length (intC (xs ++ (r.take x.1).filter (badB e)))) (fun x => r.length - x.1) (0, .slice va xs.length vc) ⟨rfl, rfl, rfl, rfl, rfl, rfl, rfl, rfl, trivial⟩ ⟨by dsimp only; omega, hW, by simpa using ho⟩ ?_
      clear ho
      rintro ⟨k, v⟩ W f' ⟨hk, hW, ho⟩
      dsimp only at hk ho ⊢
      have hWz := hW.size
      generalize hys : xs ++ (r.take k).filter (badB e) = ys at ho
      obtain ⟨va, vc, rfl⟩ := own_form ho
      have hyl : ys.length ≤ 12000 := by rw [← hys]; have := List.length_filter_le (badB e) (r.take k); have := List.length_take_le' k r; rw [List.length_append]; omega
      repeat'
        first
          | refine Q_then ?_ | refine C_cond_t rfl ?_ | refine C_cond_f rfl ?_ | refine C_seq ?_ | refine C_block ?_ | refine C_skip ?_ | refine C_ret ?_ | refine C_exit ?_
          | refine Q_then_ret ?_ | refine Q_then_exit ?_ | refine Q_block ?_ | refine Q_block_ret ?_ | refine Q_block_here ?_ | refine Q_block_on rfl ?_ | refine C_scope ?_ | refine C_label ?_ | refine Q_asn ?_
      (refine C_region ?_
       <;> (refine W_lss rfl rfl (fun hc => ?_) (fun hc => ?_) <;> try (exfalso; omega))
       <;> refine W_nil ?_)
      · repeat'
          first
            | refine Q_then ?_ | refine C_cond_t rfl ?_ | refine C_cond_f rfl ?_ | refine C_seq ?_ | refine C_block ?_ | refine C_skip ?_ | refine C_ret ?_ | refine C_exit ?_
            | refine Q_then_ret ?_ | refine Q_then_exit ?_ | refine Q_block ?_ | refine Q_block_ret ?_ | refine Q_block_here ?_ | refine Q_block_on rfl ?_ | refine C_scope ?_ | refine C_label ?_ | refine Q_asn ?_
        have hk2 : k < r.length := by omega
        obtain ⟨bb, o, rfl, g0⟩ := hx (by omega)
        have e1 := (k1.trans hW).cell (g0 k hk2) (by simp)
        have hts : xs ++ (r.take (k + 1)).filter (badB e) = ys ++ if badB e r[k] then [r[k]] else [] := by
          rw [List.take_succ_eq_append_getElem hk2, List.filter_append, ← List.append_assoc, hys]
          congr 1
          cases hb : badB e r[k] <;> simp [hb]
        have hmb := mark_bad (e := e) (hin _ (List.getElem_mem hk2))
        (refine C_region ?_
         <;> (first | refine W_idx1 rfl rfl rfl (by omega) ?_ | refine W_idx rfl rfl rfl (by omega) ?_ | refine W_indexAddr rfl rfl (by omega) (by omega) ?_)
         <;> (first | refine W_load rfl (Blk.cell (by assumption) (by rfl)) ?_ | refine W_load rfl (by assumption) ?_)
         <;> (refine M_assign ?_; (first | refine M_int rfl ?_ | refine W_move ?_))
         <;> refine W_nil ?_)
        repeat'
          first
            | refine Q_then ?_ | refine C_cond_t rfl ?_ | refine C_cond_f rfl ?_ | refine C_seq ?_ | refine C_block ?_ | refine C_skip ?_ | refine C_ret ?_ | refine C_exit ?_
            | refine Q_then_ret ?_ | refine Q_then_exit ?_ | refine Q_block ?_ | refine Q_block_ret ?_ | refine Q_block_here ?_ | refine Q_block_on rfl ?_ | refine C_scope ?_ | refine C_label ?_ | refine Q_asn ?_
        (refine C_region ?_
         <;> (first | refine M_func rfl ?_ | refine W_move ?_)
         <;> (first | refine M_int rfl ?_ | refine W_move ?_))
        -- at operation 2: <dst=(some 53) op=(call <callee=(value (tmp 51)) args=[(tmp 52)] argTypes=[3]>) type=4 guard=none>
        refine W_callv (v1 := []) (v2 := [.pointer (some ⟨pm, 0, none⟩)]) (vs := [.int .i64 r[k]]) rfl (hbad W hW r[k]) rfl ?_
        rintro _ W2 ⟨rfl, rfl⟩
        rw [hmb]
        refine W_nil ?_
        cases hb : badB e r[k] with
        | false =>
          repeat'
            first
              | refine Q_then ?_ | refine C_cond_t rfl ?_ | refine C_cond_f rfl ?_ | refine C_seq ?_ | refine C_block ?_ | refine C_skip ?_ | refine C_ret ?_ | refine C_exit ?_
              | refine Q_then_ret ?_ | refine Q_then_exit ?_ | refine Q_block ?_ | refine Q_block_ret ?_ | refine Q_block_here ?_ | refine Q_block_on rfl ?_ | refine C_scope ?_ | refine C_label ?_ | refine Q_asn ?_
          (refine C_region ?_
           <;> refine W_add rfl rfl (by first | exact inR_i64 (by omega) (by omega) | exact inR_u8 (by omega) (by omega) | exact inR_u16 (by omega) (by omega)) ?_
           <;> (first | refine M_int rfl ?_ | refine W_move ?_)
           <;> refine W_nil ?_)
          repeat'
            first
              | refine Q_then ?_ | refine C_cond_t rfl ?_ | refine C_cond_f rfl ?_ | refine C_seq ?_ | refine C_block ?_ | refine C_skip ?_ | refine C_ret ?_ | refine C_exit ?_
              | refine Q_then_ret ?_ | refine Q_then_exit ?_ | refine Q_block ?_ | refine Q_block_ret ?_ | refine Q_block_here ?_ | refine Q_block_on rfl ?_ | refine C_scope ?_ | refine C_label ?_ | refine Q_asn ?_
          refine ⟨(k + 1, .slice va ys.length vc), ⟨rfl, ⟨rfl, rfl, rfl, rfl, rfl, rfl, rfl, rfl, trivial⟩, ⟨hk2, hW, ?_⟩⟩, by dsimp only; omega⟩
          dsimp only
          rw [hts, hb, if_neg (by simp), List.append_nil]
          exact ho
        | true =>
          repeat'
            first
              | refine Q_then ?_ | refine C_cond_t rfl ?_ | refine C_cond_f rfl ?_ | refine C_seq ?_ | refine C_block ?_ | refine C_skip ?_ | refine C_ret ?_ | refine C_exit ?_
              | refine Q_then_ret ?_ | refine Q_then_exit ?_ | refine Q_block ?_ | refine Q_block_ret ?_ | refine Q_block_here ?_ | refine Q_block_on rfl ?_ | refine C_scope ?_ | refine C_label ?_ | refine Q_asn ?_
          (refine C_region ?_
           <;> (first | refine M_slice rfl ?_ | refine W_move ?_)
           <;> (first | refine M_int rfl ?_ | refine W_move ?_))
          -- at operation 2: <dst=(some 56) op=(buildSlice 22 1 [[0, (tmp 55)]]) type=22 guard=none>
          refine W_push (u := .int .i64 r[k]) (xs := intC ys) rfl rfl rfl rfl ho (by omega) (by omega) hWz (fun v' W3 o3 k3 _ => ?_)
          obtain ⟨va', vc', rfl⟩ := own_form o3
          ((refine M_assign ?_; (first | refine M_slice rfl ?_ | refine W_move ?_))
           <;> refine W_nil ?_)
          repeat'
            first
              | refine Q_then ?_ | refine C_cond_t rfl ?_ | refine C_cond_f rfl ?_ | refine C_seq ?_ | refine C_block ?_ | refine C_skip ?_ | refine C_ret ?_ | refine C_exit ?_
              | refine Q_then_ret ?_ | refine Q_then_exit ?_ | refine Q_block ?_ | refine Q_block_ret ?_ | refine Q_block_here ?_ | refine Q_block_on rfl ?_ | refine C_scope ?_ | refine C_label ?_ | refine Q_asn ?_
          (refine C_region ?_
           <;> refine W_add rfl rfl (by first | exact inR_i64 (by omega) (by omega) | exact inR_u8 (by omega) (by omega) | exact inR_u16 (by omega) (by omega)) ?_
           <;> (first | refine M_int rfl ?_ | refine W_move ?_)
           <;> refine W_nil ?_)
          repeat'
            first
              | refine Q_then ?_ | refine C_cond_t rfl ?_ | refine C_cond_f rfl ?_ | refine C_seq ?_ | refine C_block ?_ | refine C_skip ?_ | refine C_ret ?_ | refine C_exit ?_
              | refine Q_then_ret ?_ | refine Q_then_exit ?_ | refine Q_block ?_ | refine Q_block_ret ?_ | refine Q_block_here ?_ | refine Q_block_on rfl ?_ | refine C_scope ?_ | refine C_label ?_ | refine Q_asn ?_
          refine ⟨(k + 1, .slice va' (ys.length + 1) vc'), ⟨rfl, ⟨rfl, rfl, rfl, rfl, rfl, rfl, rfl, rfl, trivial⟩, ⟨hk2, hW.keepO ho (Nat.le_refl _) k3, ?_⟩⟩, by dsimp only; omega⟩
          dsimp only
          rw [hts, hb, if_pos rfl, List.length_append, intC_append]
          exact o3
      · repeat'
          first
            | refine Q_then ?_ | refine C_cond_t rfl ?_ | refine C_cond_f rfl ?_ | refine C_seq ?_ | refine C_block ?_ | refine C_skip ?_ | refine C_ret ?_ | refine C_exit ?_
            | refine Q_then_ret ?_ | refine Q_then_exit ?_ | refine Q_block ?_ | refine Q_block_ret ?_ | refine Q_block_here ?_ | refine Q_block_on rfl ?_ | refine C_scope ?_ | refine C_label ?_ | refine Q_asn ?_
        rw [List.take_of_length_le (by omega)] at hys
        have hsr : stepR r e = (ys, prioT e r r.length) := by rw [stepR, hv, if_pos rfl, ← hys, ← hxs]; rfl
        have hre : Ints W (.slice a r.length c) r := h.keep (k1.trans hW)
        have hib : r.findIdx (fun x => ((namesL e r.length).lookup x).getD 0 == 2) = r.findIdx (badB e) := findIdx_same fun x hx => mark_bad (hin x hx)
        have hig : r.findIdx (fun x => ((namesL e r.length).lookup x).getD 0 == 1) = r.findIdx (goodB e) := findIdx_same fun x hx => mark_good (hin x hx)
        have hbl : r.findIdx (badB e) ≤ r.length := List.findIdx_le_length
        have hgl : r.findIdx (goodB e) ≤ r.length := List.findIdx_le_length
        (refine C_region ?_
         <;> (first | refine M_slice rfl ?_ | refine W_move ?_)
         <;> (first | refine M_func rfl ?_ | refine W_move ?_))
        -- at operation 2: <dst=(some 61) op=(call <callee=(value (func 29)) args=[(tmp 59), (tmp 60)] argTypes=[22, 46]>) type=3 guard=none>
        refine W_call (pos_any _ r 27 [.pointer (some ⟨pm, 0, none⟩)] _ W hre (hbad W hW) rfl) rfl ?_
        rintro _ W2 ⟨rfl, rfl⟩
        ((first | refine M_slice rfl ?_ | refine W_move ?_)
         <;> (first | refine M_func rfl ?_ | refine W_move ?_))
        -- at operation 5: <dst=(some 64) op=(call <callee=(value (func 29)) args=[(tmp 62), (tmp 63)] argTypes=[22, 46]>) type=3 guard=none>
        refine W_call (pos_any _ r 28 [.pointer (some ⟨pm, 0, none⟩)] _ W2 hre (hgood W2 hW) rfl) rfl ?_
        rintro _ W3 ⟨rfl, rfl⟩
        rw [hib, hig]
        ((refine M_assign ?_; (first | refine M_int rfl ?_ | refine W_move ?_))
         <;> (refine M_assign ?_; (first | refine M_int rfl ?_ | refine W_move ?_))
         <;> refine W_nil ?_)
        repeat'
          first
            | refine Q_then ?_ | refine C_cond_t rfl ?_ | refine C_cond_f rfl ?_ | refine C_seq ?_ | refine C_block ?_ | refine C_skip ?_ | refine C_ret ?_ | refine C_exit ?_
            | refine Q_then_ret ?_ | refine Q_then_exit ?_ | refine Q_block ?_ | refine Q_block_ret ?_ | refine Q_block_here ?_ | refine Q_block_on rfl ?_ | refine C_scope ?_ | refine C_label ?_ | refine Q_asn ?_
        (refine C_region ?_
         <;> (first | refine M_int rfl ?_ | refine W_move ?_)
         <;> (first | refine M_int rfl ?_ | refine W_move ?_)
         <;> (refine W_lss rfl rfl (fun hc => ?_) (fun hc => ?_) <;> try (exfalso; omega))
         <;> (refine M_assign ?_; (first | refine M_bool rfl ?_ | refine W_move ?_))
         <;> refine W_nil ?_)
        · repeat'
            first
              | refine Q_then ?_ | refine C_cond_t rfl ?_ | refine C_cond_f rfl ?_ | refine C_seq ?_ | refine C_block ?_ | refine C_skip ?_ | refine C_ret ?_ | refine C_exit ?_
              | refine Q_then_ret ?_ | refine Q_then_exit ?_ | refine Q_block ?_ | refine Q_block_ret ?_ | refine Q_block_here ?_ | refine Q_block_on rfl ?_ | refine C_scope ?_ | refine C_label ?_ | refine Q_asn ?_
          (refine C_region ?_
           <;> (first | refine M_slice rfl ?_ | refine W_move ?_)
           <;> (first | refine M_int rfl ?_ | refine W_move ?_)
           <;> refine W_mul rfl rfl (by first | exact inR_i64 (by omega) (by omega) | exact inR_u8 (by omega) (by omega) | exact inR_u16 (by omega) (by omega)) ?_
           <;> refine W_add rfl rfl (by first | exact inR_i64 (by omega) (by omega) | exact inR_u8 (by omega) (by omega) | exact inR_u16 (by omega) (by omega)) ?_
           <;> (refine M_assign ?_; (first | refine M_slice rfl ?_ | refine W_move ?_))
           <;> (refine M_assign ?_; (first | refine M_int rfl ?_ | refine W_move ?_))
           <;> refine W_nil ?_)
          repeat'
            first
              | refine Q_then ?_ | refine C_cond_t rfl ?_ | refine C_cond_f rfl ?_ | refine C_seq ?_ | refine C_block ?_ | refine C_skip ?_ | refine C_ret ?_ | refine C_exit ?_
              | refine Q_then_ret ?_ | refine Q_then_exit ?_ | refine Q_block ?_ | refine Q_block_ret ?_ | refine Q_block_here ?_ | refine Q_block_on rfl ?_ | refine C_scope ?_ | refine C_label ?_ | refine Q_asn ?_
          refine fin_ret2 rfl ⟨.slice va ys.length vc, ?_, by rw [hsr]; exact ownsRow_mono ho hz1, k1.trans hW⟩
          rw [hsr, prioT, if_pos (by omega)]
          exact congrArg (fun x => Value.tuple #[_, .int .i64 x]) (by omega)
        · repeat'
            first
              | refine Q_then ?_ | refine C_cond_t rfl ?_ | refine C_cond_f rfl ?_ | refine C_seq ?_ | refine C_block ?_ | refine C_skip ?_ | refine C_ret ?_ | refine C_exit ?_
              | refine Q_then_ret ?_ | refine Q_then_exit ?_ | refine Q_block ?_ | refine Q_block_ret ?_ | refine Q_block_here ?_ | refine Q_block_on rfl ?_ | refine C_scope ?_ | refine C_label ?_ | refine Q_asn ?_
          (refine C_region ?_
           <;> (first | refine M_int rfl ?_ | refine W_move ?_)
           <;> (first | refine M_int rfl ?_ | refine W_move ?_)
           <;> (refine W_lss rfl rfl (fun hc => ?_) (fun hc => ?_) <;> try (exfalso; omega))
           <;> (refine M_assign ?_; (first | refine M_bool rfl ?_ | refine W_move ?_))
           <;> refine W_nil ?_)
          · repeat'
              first
                | refine Q_then ?_ | refine C_cond_t rfl ?_ | refine C_cond_f rfl ?_ | refine C_seq ?_ | refine C_block ?_ | refine C_skip ?_ | refine C_ret ?_ | refine C_exit ?_
                | refine Q_then_ret ?_ | refine Q_then_exit ?_ | refine Q_block ?_ | refine Q_block_ret ?_ | refine Q_block_here ?_ | refine Q_block_on rfl ?_ | refine C_scope ?_ | refine C_label ?_ | refine Q_asn ?_
            (refine C_region ?_
             <;> (first | refine M_slice rfl ?_ | refine W_move ?_)
             <;> (first | refine M_int rfl ?_ | refine W_move ?_)
             <;> refine W_mul rfl rfl (by first | exact inR_i64 (by omega) (by omega) | exact inR_u8 (by omega) (by omega) | exact inR_u16 (by omega) (by omega)) ?_
             <;> refine W_add rfl rfl (by first | exact inR_i64 (by omega) (by omega) | exact inR_u8 (by omega) (by omega) | exact inR_u16 (by omega) (by omega)) ?_
             <;> (refine M_assign ?_; (first | refine M_slice rfl ?_ | refine W_move ?_))
             <;> (refine M_assign ?_; (first | refine M_int rfl ?_ | refine W_move ?_))
             <;> refine W_nil ?_)
            repeat'
              first
                | refine Q_then ?_ | refine C_cond_t rfl ?_ | refine C_cond_f rfl ?_ | refine C_seq ?_ | refine C_block ?_ | refine C_skip ?_ | refine C_ret ?_ | refine C_exit ?_
                | refine Q_then_ret ?_ | refine Q_then_exit ?_ | refine Q_block ?_ | refine Q_block_ret ?_ | refine Q_block_here ?_ | refine Q_block_on rfl ?_ | refine C_scope ?_ | refine C_label ?_ | refine Q_asn ?_
            refine fin_ret2 rfl ⟨.slice va ys.length vc, ?_, by rw [hsr]; exact ownsRow_mono ho hz1, k1.trans hW⟩
            rw [hsr, prioT, if_neg (by omega), if_pos (by omega)]
            exact congrArg (fun x => Value.tuple #[_, .int .i64 x]) (by omega)
          · repeat'
              first
                | refine Q_then ?_ | refine C_cond_t rfl ?_ | refine C_cond_f rfl ?_ | refine C_seq ?_ | refine C_block ?_ | refine C_skip ?_ | refine C_ret ?_ | refine C_exit ?_
                | refine Q_then_ret ?_ | refine Q_then_exit ?_ | refine Q_block ?_ | refine Q_block_ret ?_ | refine Q_block_here ?_ | refine Q_block_on rfl ?_ | refine C_scope ?_ | refine C_label ?_ | refine Q_asn ?_
            (refine C_region ?_
             <;> (first | refine M_slice rfl ?_ | refine W_move ?_)
             <;> (first | refine M_int rfl ?_ | refine W_move ?_)
             <;> refine W_mul rfl rfl (by first | exact inR_i64 (by omega) (by omega) | exact inR_u8 (by omega) (by omega) | exact inR_u16 (by omega) (by omega)) ?_
             <;> refine W_add rfl rfl (by first | exact inR_i64 (by omega) (by omega) | exact inR_u8 (by omega) (by omega) | exact inR_u16 (by omega) (by omega)) ?_
             <;> (refine M_assign ?_; (first | refine M_slice rfl ?_ | refine W_move ?_))
             <;> (refine M_assign ?_; (first | refine M_int rfl ?_ | refine W_move ?_))
             <;> refine W_nil ?_)
            repeat'
              first
                | refine Q_then ?_ | refine C_cond_t rfl ?_ | refine C_cond_f rfl ?_ | refine C_seq ?_ | refine C_block ?_ | refine C_skip ?_ | refine C_ret ?_ | refine C_exit ?_
                | refine Q_then_ret ?_ | refine Q_then_exit ?_ | refine Q_block ?_ | refine Q_block_ret ?_ | refine Q_block_here ?_ | refine Q_block_on rfl ?_ | refine C_scope ?_ | refine C_label ?_ | refine Q_asn ?_
            refine fin_ret2 rfl ⟨.slice va ys.length vc, ?_, by rw [hsr]; exact ownsRow_mono ho hz1, k1.trans hW⟩
            rw [hsr, prioT, if_neg (by omega), if_neg (by omega)]
            exact congrArg (fun x => Value.tuple #[_, .int .i64 x]) (by omega)
end Go.Proofs.Yticliabmhgofjaa
