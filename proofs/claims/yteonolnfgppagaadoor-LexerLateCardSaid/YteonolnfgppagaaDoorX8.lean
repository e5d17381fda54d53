/- The lexer: what Lex answers. Conditions: none. -/
import Derived.Test.YteonolnfgppagaaDoorX7
namespace Go.Proofs.YteonolnfgppagaaDoor
open Go.RowKit
set_option linter.unusedVariables false

def lexM (t : List UInt8) : Except (Int × Nat) (List Tok) :=
  if 6000 < t.length then .error (2, 6000) else match scanR t with | .ok r => .ok r.2 | .error e => .error e
/-- what Lex answers: slice, error, offset -/
def LexAns (B : Nat) (w' : World) (m : Except (Int × Nat) (List Tok)) (tv : Value) (e q : Int) : Prop :=
  match m with
  | .ok ts => e = 0 ∧ q = -1 ∧ w'.ownsRow B 28 3 tv ts.length (toksC ts)
  | .error (e', p) => e = e' ∧ q = (p : Int) ∧ tv = .slice none 0 0

theorem GV.two {w : World} (h : GV w) : 2 ≤ w.heap.size := by
  have := World.block_lt_of_cell? w _ (h.syms 0 (strV [45, 62]) rfl)
  exact this

theorem lex_ok (w : World) (t : List UInt8) (hG : GV w) : Fn Tryd.prog 9 [strV t] w fun v w' => ∃ tv e q, v = .tuple #[tv, .int .i64 e, .int .i64 q] ∧ Ext w w' ∧ LexAns w.heap.size w' (lexM t) tv e q := by
  have h2 := hG.two
  refine fn_of_wcD Tryd.func9 rfl Tryd.ntmps9 (Nat.le_of_ble_eq_true rfl) (by kernel_rfl) ?_
  repeat'
    first
      | refine Q_then ?_ | refine C_cond_t rfl ?_ | refine C_cond_f rfl ?_ | refine C_seq ?_ | refine C_block ?_ | refine C_skip ?_ | refine C_ret ?_ | refine C_exit ?_
      | refine Q_then_ret ?_ | refine Q_then_exit ?_ | refine Q_block ?_ | refine Q_block_ret ?_ | refine Q_block_here ?_ | refine Q_block_on rfl ?_ | refine C_scope ?_ | refine C_label ?_ | refine Q_asn ?_ | refine Q_then_pan ?_ | refine Q_block_pan ?_ | refine Q_scope (fun l h => by cases h) ?_
  (refine C_region ?_)
  -- at operation 0: <dst=(some 2) op=(alloc 23) type=0 guard=none>
  refine W_alloc (fun w1 n1 => ?_)
  refine W_alloc (fun w2 n2 => ?_)
  refine W_alloc (fun w3 n3 => ?_)
  have z1 := n1.size
  have z2 := n2.size
  have z3 := n3.size
  have b1 : Blk w3 w.heap.size 23 [.slice none 0 0] := (n1.blk.keep n2.keep (by simp)).keep n3.keep (by simp)
  have b2 : Blk w3 w1.heap.size 24 [.int .i64 0] := n2.blk.keep n3.keep (by simp)
  have b3 : Blk w3 w2.heap.size 3 [.int .i64 0] := n3.blk
  have k3 : Ext w w3 := (n1.keep.trans n2.keep).trans n3.keep
  refine W_nil ?_
  repeat'
    first
      | refine Q_then ?_ | refine C_cond_t rfl ?_ | refine C_cond_f rfl ?_ | refine C_seq ?_ | refine C_block ?_ | refine C_skip ?_ | refine C_ret ?_ | refine C_exit ?_
      | refine Q_then_ret ?_ | refine Q_then_exit ?_ | refine Q_block ?_ | refine Q_block_ret ?_ | refine Q_block_here ?_ | refine Q_block_on rfl ?_ | refine C_scope ?_ | refine C_label ?_ | refine Q_asn ?_ | refine Q_then_pan ?_ | refine Q_block_pan ?_ | refine Q_scope (fun l h => by cases h) ?_
  by_cases hlen : 6000 < t.length
  · (refine C_region ?_
     <;> (first | refine M_str rfl ?_ | refine W_move ?_)
     <;> refine W_slen rfl ?_
     <;> (refine W_gtr rfl rfl (fun hc => ?_) (fun hc => ?_) <;> try (exfalso; omega))
     <;> refine W_nil ?_)
    repeat'
      first
        | refine Q_then ?_ | refine C_cond_t rfl ?_ | refine C_cond_f rfl ?_ | refine C_seq ?_ | refine C_block ?_ | refine C_skip ?_ | refine C_ret ?_ | refine C_exit ?_
        | refine Q_then_ret ?_ | refine Q_then_exit ?_ | refine Q_block ?_ | refine Q_block_ret ?_ | refine Q_block_here ?_ | refine Q_block_on rfl ?_ | refine C_scope ?_ | refine C_label ?_ | refine Q_asn ?_ | refine Q_then_pan ?_ | refine Q_block_pan ?_ | refine Q_scope (fun l h => by cases h) ?_
    (refine C_region ?_; refine W_store rfl rfl rfl b1 (by simp) (fun w4 p4 => ?_))
    refine W_store rfl rfl rfl (b2.keep p4.keep (by simp; omega)) (by simp) (fun w5 p5 => ?_)
    refine W_store rfl rfl rfl ((b3.keep p4.keep (by simp; omega)).keep p5.keep (by simp; omega)) (by simp) (fun w6 p6 => ?_)
    have c1 : Blk w6 w.heap.size 23 [.slice none 0 0] := (p4.blk.keep p5.keep (by simp; omega)).keep p6.keep (by simp; omega)
    have c2 : Blk w6 w1.heap.size 24 [.int .i64 2] := p5.blk.keep p6.keep (by simp; omega)
    have c3 : Blk w6 w2.heap.size 3 [.int .i64 6000] := p6.blk
    have k6 : Ext w w6 := ((k3.keep p4.keep (by simp)).keep p5.keep (by simp; omega)).keep p6.keep (by simp; omega)
    refine W_nil ?_
    repeat'
      first
        | refine Q_then ?_ | refine C_cond_t rfl ?_ | refine C_cond_f rfl ?_ | refine C_seq ?_ | refine C_block ?_ | refine C_skip ?_ | refine C_ret ?_ | refine C_exit ?_
        | refine Q_then_ret ?_ | refine Q_then_exit ?_ | refine Q_block ?_ | refine Q_block_ret ?_ | refine Q_block_here ?_ | refine Q_block_on rfl ?_ | refine C_scope ?_ | refine C_label ?_ | refine Q_asn ?_ | refine Q_then_pan ?_ | refine Q_block_pan ?_ | refine Q_scope (fun l h => by cases h) ?_
    refine finD_ret_nil (res_cell rfl (c1.cell rfl) (res_cell rfl (c2.cell rfl) (res_cell rfl (c3.cell rfl) ?_)))
    refine ⟨_, _, _, rfl, k6, ?_⟩
    unfold lexM
    rw [if_pos hlen]
    exact ⟨rfl, rfl, rfl⟩
  · (refine C_region ?_
     <;> (first | refine M_str rfl ?_ | refine W_move ?_)
     <;> refine W_slen rfl ?_
     <;> (refine W_gtr rfl rfl (fun hc => ?_) (fun hc => ?_) <;> try (exfalso; omega))
     <;> refine W_nil ?_)
    repeat'
      first
        | refine Q_then ?_ | refine C_cond_t rfl ?_ | refine C_cond_f rfl ?_ | refine C_seq ?_ | refine C_block ?_ | refine C_skip ?_ | refine C_ret ?_ | refine C_exit ?_
        | refine Q_then_ret ?_ | refine Q_then_exit ?_ | refine Q_block ?_ | refine Q_block_ret ?_ | refine Q_block_here ?_ | refine Q_block_on rfl ?_ | refine C_scope ?_ | refine C_label ?_ | refine Q_asn ?_ | refine Q_then_pan ?_ | refine Q_block_pan ?_ | refine Q_scope (fun l h => by cases h) ?_
    (refine C_region ?_
     <;> refine W_makeFunc rfl rfl ?_)
    -- at operation 1: <dst=none op=(defer <callee=(value (tmp 9)) args=[] argTypes=[]>) type=0 guard=none>
    refine W_defer (v1 := []) (v2 := [pt w.heap.size, pt w1.heap.size, pt w2.heap.size]) (vs := []) rfl rfl ?_
    refine W_nil ?_
    repeat'
      first
        | refine Q_then ?_ | refine C_cond_t rfl ?_ | refine C_cond_f rfl ?_ | refine C_seq ?_ | refine C_block ?_ | refine C_skip ?_ | refine C_ret ?_ | refine C_exit ?_
        | refine Q_then_ret ?_ | refine Q_then_exit ?_ | refine Q_block ?_ | refine Q_block_ret ?_ | refine Q_block_here ?_ | refine Q_block_on rfl ?_ | refine C_scope ?_ | refine C_label ?_ | refine Q_asn ?_ | refine Q_then_pan ?_ | refine Q_block_pan ?_ | refine Q_scope (fun l h => by cases h) ?_
    (refine C_region ?_
     <;> (first | refine M_str rfl ?_ | refine W_move ?_)
     <;> refine W_build (by rfl) (by rfl) ?_)
    -- at operation 2: <dst=(some 12) op=(box 43 (tmp 11)) type=41 guard=none>
    refine W_box (L := [strV t, .int .i64 0, .slice none 0 0]) rfl (fun w4 n4 => ?_)
    have z4 := n4.size
    have s4 := n4.blk
    have k4 : Ext w w4 := k3.trans n4.keep
    ((refine M_assign ?_; (first | refine M_ptr rfl ?_ | refine W_move ?_))
     <;> refine W_nil ?_)
    repeat'
      first
        | refine Q_then ?_ | refine C_cond_t rfl ?_ | refine C_cond_f rfl ?_ | refine C_seq ?_ | refine C_block ?_ | refine C_skip ?_ | refine C_ret ?_ | refine C_exit ?_
        | refine Q_then_ret ?_ | refine Q_then_exit ?_ | refine Q_block ?_ | refine Q_block_ret ?_ | refine Q_block_here ?_ | refine Q_block_on rfl ?_ | refine C_scope ?_ | refine C_label ?_ | refine Q_asn ?_ | refine Q_then_pan ?_ | refine Q_block_pan ?_ | refine Q_scope (fun l h => by cases h) ?_
    (refine C_region ?_
     <;> (first | refine M_ptr rfl ?_ | refine W_move ?_))
    -- at operation 1: <dst=(some 14) op=(call <callee=(value (func 16)) args=[(tmp 13)] argTypes=[41]>) type=0 guard=none>
    have hm : lexM t = match scanR t with | .ok r => .ok r.2 | .error e => .error e := by unfold lexM; rw [if_neg hlen]
    refine W_callP (scan_ok w4 w3.heap.size t s4 (hG.ext k4) (by omega) (by omega)) rfl ?_ ?_
    · rintro v w5 ⟨rfl, a, ts, he, h5⟩
      obtain ⟨hk5, hs5, _, ha5, hn5, tv, hb5, ho5⟩ := h5
      refine W_nil ?_
      repeat'
        first
          | refine Q_then ?_ | refine C_cond_t rfl ?_ | refine C_cond_f rfl ?_ | refine C_seq ?_ | refine C_block ?_ | refine C_skip ?_ | refine C_ret ?_ | refine C_exit ?_
          | refine Q_then_ret ?_ | refine Q_then_exit ?_ | refine Q_block ?_ | refine Q_block_ret ?_ | refine Q_block_here ?_ | refine Q_block_on rfl ?_ | refine C_scope ?_ | refine C_label ?_ | refine Q_asn ?_ | refine Q_then_pan ?_ | refine Q_block_pan ?_ | refine Q_scope (fun l h => by cases h) ?_
      (refine C_region ?_
       <;> (first | refine M_ptr rfl ?_ | refine W_move ?_)
       <;> refine W_nilCheck rfl ?_
       <;> refine W_fieldAddr rfl ?_
       <;> (first | refine W_load rfl (Blk.cell (by assumption) (by rfl)) ?_ | refine W_load rfl (by assumption) ?_))
      -- at operation 4: <dst=none op=(store 23 (tmp 2) (tmp 18)) type=0 guard=none>
      have e1 : Blk w5 w.heap.size 23 [.slice none 0 0] := (b1.keep n4.keep (by simp)).keep hk5 (by simp; omega)
      have e2 : Blk w5 w1.heap.size 24 [.int .i64 0] := (b2.keep n4.keep (by simp)).keep hk5 (by simp; omega)
      have e3 : Blk w5 w2.heap.size 3 [.int .i64 0] := (b3.keep n4.keep (by simp)).keep hk5 (by simp; omega)
      obtain ⟨tp, tc, rfl⟩ : ∃ tp tc, tv = .slice tp ts.length tc := by
        rcases ho5.2 with ⟨rfl, h0⟩ | ⟨g, cap, cur, rfl, _⟩
        · exact ⟨none, 0, by rw [h0]⟩
        · exact ⟨_, _, rfl⟩
      refine W_store rfl rfl rfl e1 (by simp) (fun w6 p6 => ?_)
      refine W_store rfl rfl rfl (e2.keep p6.keep (by simp; omega)) (by simp) (fun w7 p7 => ?_)
      refine W_store rfl rfl rfl ((e3.keep p6.keep (by simp; omega)).keep p7.keep (by simp; omega)) (by simp) (fun w8 p8 => ?_)
      have c1 : Blk w8 w.heap.size 23 [.slice tp ts.length tc] := (p6.blk.keep p7.keep (by simp; omega)).keep p8.keep (by simp; omega)
      have c2 : Blk w8 w1.heap.size 24 [.int .i64 0] := p7.blk.keep p8.keep (by simp; omega)
      have c3 : Blk w8 w2.heap.size 3 [.int .i64 (-1)] := p8.blk
      have k5 : Ext w w5 := k4.keep hk5 (by simp; omega)
      have k8 : Ext w w8 := ((k5.keep p6.keep (by simp)).keep p7.keep (by simp; omega)).keep p8.keep (by simp; omega)
      have hne : ∀ g, (Value.slice tp ts.length tc).ownBlock = some g → w4.heap.size ≤ g := fun g hg => (own_in ho5 hg).1
      have o8 := ownsRow_keep (ownsRow_keep (ownsRow_keep ho5 p6.keep fun g hg => by have := hne g hg; simp; omega) p7.keep fun g hg => by have := hne g hg; simp; omega) p8.keep fun g hg => by have := hne g hg; simp; omega
      refine W_nil ?_
      repeat'
        first
          | refine Q_then ?_ | refine C_cond_t rfl ?_ | refine C_cond_f rfl ?_ | refine C_seq ?_ | refine C_block ?_ | refine C_skip ?_ | refine C_ret ?_ | refine C_exit ?_
          | refine Q_then_ret ?_ | refine Q_then_exit ?_ | refine Q_block ?_ | refine Q_block_ret ?_ | refine Q_block_here ?_ | refine Q_block_on rfl ?_ | refine C_scope ?_ | refine C_label ?_ | refine Q_asn ?_ | refine Q_then_pan ?_ | refine Q_block_pan ?_ | refine Q_scope (fun l h => by cases h) ?_
      refine finD_ret_def (rec_ret _ _ _ _) fun w9 k9 => ?_
      refine res_cell rfl ((c1.keep k9 (by simp)).cell rfl) (res_cell rfl ((c2.keep k9 (by simp)).cell rfl) (res_cell rfl ((c3.keep k9 (by simp)).cell rfl) ?_))
      refine ⟨_, _, _, rfl, k8.trans k9, ?_⟩
      rw [hm, he]
      exact ⟨rfl, rfl, ownsRow_mono (ownsRow_ext o8 k9) k4.size⟩
    · rintro ch w5 ⟨e, p, he, rfl, hk5⟩
      repeat'
        first
          | refine Q_then ?_ | refine C_cond_t rfl ?_ | refine C_cond_f rfl ?_ | refine C_seq ?_ | refine C_block ?_ | refine C_skip ?_ | refine C_ret ?_ | refine C_exit ?_
          | refine Q_then_ret ?_ | refine Q_then_exit ?_ | refine Q_block ?_ | refine Q_block_ret ?_ | refine Q_block_here ?_ | refine Q_block_on rfl ?_ | refine C_scope ?_ | refine C_label ?_ | refine Q_asn ?_ | refine Q_then_pan ?_ | refine Q_block_pan ?_ | refine Q_scope (fun l h => by cases h) ?_
      have e1 : Blk w5 w.heap.size 23 [.slice none 0 0] := (b1.keep n4.keep (by simp)).keep hk5 (by simp; omega)
      have e2 : Blk w5 w1.heap.size 24 [.int .i64 0] := (b2.keep n4.keep (by simp)).keep hk5 (by simp; omega)
      have e3 : Blk w5 w2.heap.size 3 [.int .i64 0] := (b3.keep n4.keep (by simp)).keep hk5 (by simp; omega)
      have k5 : Ext w w5 := k4.keep hk5 (by simp; omega)
      refine finD_pan_def (rec_pan _ _ _ _ _ _ _ e (p : Int) e1 e2 e3 (by omega) (by omega) (by omega)) fun w9 h9 => ?_
      obtain ⟨k9, c1, c2, c3⟩ := h9
      refine res_cell rfl (c1.cell rfl) (res_cell rfl (c2.cell rfl) (res_cell rfl (c3.cell rfl) ?_))
      refine ⟨_, _, _, rfl, k5.keep k9 (by simp; omega), ?_⟩
      rw [hm, he]
      exact ⟨rfl, rfl, rfl⟩
end Go.Proofs.YteonolnfgppagaaDoor
