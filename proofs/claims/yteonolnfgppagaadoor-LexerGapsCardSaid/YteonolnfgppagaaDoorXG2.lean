/- The lexer's laws: gaps. Conditions: none. -/
import Derived.Test.YteonolnfgppagaaDoorXG
namespace Go.Proofs.YteonolnfgppagaaDoor
open Go.RowKit
set_option linter.unusedVariables false


theorem gap_ok (t : List UInt8) (w : World) (hl : t.length ≤ 1000000) : Fn Tryd.prog 17 [strV t] w fun v w' => v = .int .i64 (gapW t 0 : Int) ∧ w' = w := by
  refine fn_of_wc Tryd.func17 rfl Tryd.ntmps17 (Nat.le_of_ble_eq_true rfl) (by kernel_rfl) ?_
  repeat'
    first
      | refine Q_then ?_ | refine C_cond_t rfl ?_ | refine C_cond_f rfl ?_ | refine C_seq ?_ | refine C_block ?_ | refine C_skip ?_ | refine C_ret ?_ | refine C_exit ?_
      | refine Q_then_ret ?_ | refine Q_then_exit ?_ | refine Q_block ?_ | refine Q_block_ret ?_ | refine Q_block_here ?_ | refine Q_block_on rfl ?_ | refine C_scope ?_ | refine C_label ?_ | refine Q_asn ?_ | refine Q_then_pan ?_ | refine Q_block_pan ?_ | refine Q_scope (fun l h => by cases h) ?_
  (refine C_region ?_
   <;> (refine M_assign ?_; (first | refine M_int rfl ?_ | refine W_move ?_))
   <;> refine W_nil ?_)
  repeat'
    first
      | refine Q_then ?_ | refine C_cond_t rfl ?_ | refine C_cond_f rfl ?_ | refine C_seq ?_ | refine C_block ?_ | refine C_skip ?_ | refine C_ret ?_ | refine C_exit ?_
      | refine Q_then_ret ?_ | refine Q_then_exit ?_ | refine Q_block ?_ | refine Q_block_ret ?_ | refine Q_block_here ?_ | refine Q_block_on rfl ?_ | refine C_scope ?_ | refine C_label ?_ | refine Q_asn ?_ | refine Q_then_pan ?_ | refine Q_block_pan ?_ | refine Q_scope (fun l h => by cases h) ?_
  (refine C_region ?_
   <;> (refine M_assign ?_; (first | refine M_int rfl ?_ | refine W_move ?_))
   <;> refine W_nil ?_)
  repeat'
    first
      | refine Q_then ?_ | refine C_cond_t rfl ?_ | refine C_cond_f rfl ?_ | refine C_seq ?_ | refine C_block ?_ | refine C_skip ?_ | refine C_ret ?_ | refine C_exit ?_
      | refine Q_then_ret ?_ | refine Q_then_exit ?_ | refine Q_block ?_ | refine Q_block_ret ?_ | refine Q_block_here ?_ | refine Q_block_on rfl ?_ | refine C_scope ?_ | refine C_label ?_ | refine Q_asn ?_ | refine Q_then_pan ?_ | refine Q_block_pan ?_ | refine Q_scope (fun l h => by cases h) ?_
  refine C_loop (α := Nat) (fun a => [(0, strV t), (3, .int .i64 (a : Int))]) (fun a w1 => a ≤ t.length ∧ gapW t a = gapW t 0 ∧ w1 = w) (fun a => t.length - a) 0 ⟨rfl, rfl, trivial⟩ ⟨by omega, rfl, rfl⟩ ?_
  rintro a w1 f1 ⟨ha, hg, rfl⟩
  repeat'
    first
      | refine Q_then ?_ | refine C_cond_t rfl ?_ | refine C_cond_f rfl ?_ | refine C_seq ?_ | refine C_block ?_ | refine C_skip ?_ | refine C_ret ?_ | refine C_exit ?_
      | refine Q_then_ret ?_ | refine Q_then_exit ?_ | refine Q_block ?_ | refine Q_block_ret ?_ | refine Q_block_here ?_ | refine Q_block_on rfl ?_ | refine C_scope ?_ | refine C_label ?_ | refine Q_asn ?_ | refine Q_then_pan ?_ | refine Q_block_pan ?_ | refine Q_scope (fun l h => by cases h) ?_
  by_cases hlt : a < t.length
  · have hc0 : t[a]? = some t[a] := List.getElem?_eq_getElem hlt
    generalize t[a] = c at hc0
    rw [gapW_step hc0] at hg
    (refine C_region ?_
     <;> (first | refine M_int rfl ?_ | refine W_move ?_)
     <;> (first | refine M_str rfl ?_ | refine W_move ?_)
     <;> refine W_slen rfl ?_
     <;> (refine W_lss rfl rfl (fun hc => ?_) (fun hc => ?_) <;> try (exfalso; omega))
     <;> refine W_nil ?_)
    repeat'
      first
        | refine Q_then ?_ | refine C_cond_t rfl ?_ | refine C_cond_f rfl ?_ | refine C_seq ?_ | refine C_block ?_ | refine C_skip ?_ | refine C_ret ?_ | refine C_exit ?_
        | refine Q_then_ret ?_ | refine Q_then_exit ?_ | refine Q_block ?_ | refine Q_block_ret ?_ | refine Q_block_here ?_ | refine Q_block_on rfl ?_ | refine C_scope ?_ | refine C_label ?_ | refine Q_asn ?_ | refine Q_then_pan ?_ | refine Q_block_pan ?_ | refine Q_scope (fun l h => by cases h) ?_
    by_cases h37 : c.toNat = 37
    · rw [if_pos h37] at hg
      (refine C_region ?_
       <;> (first | refine M_str rfl ?_ | refine W_move ?_)
       <;> (first | refine M_int rfl ?_ | refine W_move ?_)
       <;> refine W_sidx rfl rfl (by assumption) ?_
       <;> (refine W_eql rfl rfl (fun hc => ?_) (fun hc => ?_) <;> try (exfalso; omega))
       <;> refine W_nil ?_)
      repeat'
        first
          | refine Q_then ?_ | refine C_cond_t rfl ?_ | refine C_cond_f rfl ?_ | refine C_seq ?_ | refine C_block ?_ | refine C_skip ?_ | refine C_ret ?_ | refine C_exit ?_
          | refine Q_then_ret ?_ | refine Q_then_exit ?_ | refine Q_block ?_ | refine Q_block_ret ?_ | refine Q_block_here ?_ | refine Q_block_on rfl ?_ | refine C_scope ?_ | refine C_label ?_ | refine Q_asn ?_ | refine Q_then_pan ?_ | refine Q_block_pan ?_ | refine Q_scope (fun l h => by cases h) ?_
      have hle := whileB_le (p := inComm) (t := t) (a := a) (by omega)
      have hst := whileB_step (p := inComm) hc0 (by simp [inComm, h37])
      have hge := whileB_ge inComm t (a + 1)
      refine C_loop (α := Nat) (fun j => [(0, strV t), (3, .int .i64 (j : Int))]) (fun j w2 => j ≤ t.length ∧ whileB inComm t j = whileB inComm t a ∧ w2 = w1) (fun j => t.length - j) a ⟨rfl, rfl, trivial⟩ ⟨by omega, rfl, rfl⟩ ?_
      rintro j w2 f2 ⟨hj, hw, rfl⟩
      repeat'
        first
          | refine Q_then ?_ | refine C_cond_t rfl ?_ | refine C_cond_f rfl ?_ | refine C_seq ?_ | refine C_block ?_ | refine C_skip ?_ | refine C_ret ?_ | refine C_exit ?_
          | refine Q_then_ret ?_ | refine Q_then_exit ?_ | refine Q_block ?_ | refine Q_block_ret ?_ | refine Q_block_here ?_ | refine Q_block_on rfl ?_ | refine C_scope ?_ | refine C_label ?_ | refine Q_asn ?_ | refine Q_then_pan ?_ | refine Q_block_pan ?_ | refine Q_scope (fun l h => by cases h) ?_
      by_cases hjl : j < t.length
      · have hcj : t[j]? = some t[j] := List.getElem?_eq_getElem hjl
        generalize t[j] = d at hcj
        by_cases h10 : d.toNat = 10
        · (refine C_region ?_
           <;> (first | refine M_int rfl ?_ | refine W_move ?_)
           <;> (first | refine M_str rfl ?_ | refine W_move ?_)
           <;> refine W_slen rfl ?_
           <;> (refine W_lss rfl rfl (fun hc => ?_) (fun hc => ?_) <;> try (exfalso; omega))
           <;> (first | refine M_bool rfl ?_ | refine W_move ?_)
           <;> (first | refine W_no rfl ?_ | (refine W_yes rfl ?_; (first | refine M_str rfl ?_ | refine W_move ?_)))
           <;> (first | refine W_no rfl ?_ | (refine W_yes rfl ?_; (first | refine M_int rfl ?_ | refine W_move ?_)))
           <;> (first | refine W_no rfl ?_ | (refine W_yes rfl ?_; refine W_sidx rfl rfl (by assumption) ?_))
           <;> (first | refine W_no rfl ?_ | (refine W_yes rfl ?_; (refine W_neq rfl rfl (fun hc => ?_) (fun hc => ?_) <;> try (exfalso; omega))))
           <;> ((first | refine M_pick_t rfl ?_ | refine M_pick_f rfl ?_); (first | refine M_bool rfl ?_ | refine W_move ?_))
           <;> refine W_nil ?_)
          repeat'
            first
              | refine Q_then ?_ | refine C_cond_t rfl ?_ | refine C_cond_f rfl ?_ | refine C_seq ?_ | refine C_block ?_ | refine C_skip ?_ | refine C_ret ?_ | refine C_exit ?_
              | refine Q_then_ret ?_ | refine Q_then_exit ?_ | refine Q_block ?_ | refine Q_block_ret ?_ | refine Q_block_here ?_ | refine Q_block_on rfl ?_ | refine C_scope ?_ | refine C_label ?_ | refine Q_asn ?_ | refine Q_then_pan ?_ | refine Q_block_pan ?_ | refine Q_scope (fun l h => by cases h) ?_
          have hjw := whileB_stop (p := inComm) hcj (by simp [inComm, h10])
          exact ⟨j, ⟨rfl, ⟨rfl, rfl, trivial⟩, ⟨hj, by rw [← hg, ← hw, hjw], rfl⟩⟩, by omega⟩
        · (refine C_region ?_
           <;> (first | refine M_int rfl ?_ | refine W_move ?_)
           <;> (first | refine M_str rfl ?_ | refine W_move ?_)
           <;> refine W_slen rfl ?_
           <;> (refine W_lss rfl rfl (fun hc => ?_) (fun hc => ?_) <;> try (exfalso; omega))
           <;> (first | refine M_bool rfl ?_ | refine W_move ?_)
           <;> (first | refine W_no rfl ?_ | (refine W_yes rfl ?_; (first | refine M_str rfl ?_ | refine W_move ?_)))
           <;> (first | refine W_no rfl ?_ | (refine W_yes rfl ?_; (first | refine M_int rfl ?_ | refine W_move ?_)))
           <;> (first | refine W_no rfl ?_ | (refine W_yes rfl ?_; refine W_sidx rfl rfl (by assumption) ?_))
           <;> (first | refine W_no rfl ?_ | (refine W_yes rfl ?_; (refine W_neq rfl rfl (fun hc => ?_) (fun hc => ?_) <;> try (exfalso; omega))))
           <;> ((first | refine M_pick_t rfl ?_ | refine M_pick_f rfl ?_); (first | refine M_bool rfl ?_ | refine W_move ?_))
           <;> refine W_nil ?_)
          repeat'
            first
              | refine Q_then ?_ | refine C_cond_t rfl ?_ | refine C_cond_f rfl ?_ | refine C_seq ?_ | refine C_block ?_ | refine C_skip ?_ | refine C_ret ?_ | refine C_exit ?_
              | refine Q_then_ret ?_ | refine Q_then_exit ?_ | refine Q_block ?_ | refine Q_block_ret ?_ | refine Q_block_here ?_ | refine Q_block_on rfl ?_ | refine C_scope ?_ | refine C_label ?_ | refine Q_asn ?_ | refine Q_then_pan ?_ | refine Q_block_pan ?_ | refine Q_scope (fun l h => by cases h) ?_
          (refine C_region ?_
           <;> (first | refine M_int rfl ?_ | refine W_move ?_)
           <;> refine W_add rfl rfl (by first | exact inR_i64 (by omega) (by omega) | exact inR_u8 (by omega) (by omega) | exact inR_u16 (by omega) (by omega)) ?_
           <;> (refine M_assign ?_; (first | refine M_int rfl ?_ | refine W_move ?_))
           <;> refine W_nil ?_)
          repeat'
            first
              | refine Q_then ?_ | refine C_cond_t rfl ?_ | refine C_cond_f rfl ?_ | refine C_seq ?_ | refine C_block ?_ | refine C_skip ?_ | refine C_ret ?_ | refine C_exit ?_
              | refine Q_then_ret ?_ | refine Q_then_exit ?_ | refine Q_block ?_ | refine Q_block_ret ?_ | refine Q_block_here ?_ | refine Q_block_on rfl ?_ | refine C_scope ?_ | refine C_label ?_ | refine Q_asn ?_ | refine Q_then_pan ?_ | refine Q_block_pan ?_ | refine Q_scope (fun l h => by cases h) ?_
          have hjw := whileB_step (p := inComm) hcj (by simp [inComm, h10])
          refine ⟨j + 1, ⟨rfl, ⟨rfl, ?_, trivial⟩, ⟨by omega, by rw [← hw, hjw], rfl⟩⟩, by omega⟩
          show Value.int .i64 ((j : Int) + 1) = _
          rw [Int.natCast_add]; rfl
      · (refine C_region ?_
         <;> (first | refine M_int rfl ?_ | refine W_move ?_)
         <;> (first | refine M_str rfl ?_ | refine W_move ?_)
         <;> refine W_slen rfl ?_
         <;> (refine W_lss rfl rfl (fun hc => ?_) (fun hc => ?_) <;> try (exfalso; omega))
         <;> (first | refine M_bool rfl ?_ | refine W_move ?_)
         <;> (first | refine W_no rfl ?_ | (refine W_yes rfl ?_; (first | refine M_str rfl ?_ | refine W_move ?_)))
         <;> (first | refine W_no rfl ?_ | (refine W_yes rfl ?_; (first | refine M_int rfl ?_ | refine W_move ?_)))
         <;> (first | refine W_no rfl ?_ | (refine W_yes rfl ?_; refine W_sidx rfl rfl (by assumption) ?_))
         <;> (first | refine W_no rfl ?_ | (refine W_yes rfl ?_; (refine W_neq rfl rfl (fun hc => ?_) (fun hc => ?_) <;> try (exfalso; omega))))
         <;> ((first | refine M_pick_t rfl ?_ | refine M_pick_f rfl ?_); (first | refine M_bool rfl ?_ | refine W_move ?_))
         <;> refine W_nil ?_)
        repeat'
          first
            | refine Q_then ?_ | refine C_cond_t rfl ?_ | refine C_cond_f rfl ?_ | refine C_seq ?_ | refine C_block ?_ | refine C_skip ?_ | refine C_ret ?_ | refine C_exit ?_
            | refine Q_then_ret ?_ | refine Q_then_exit ?_ | refine Q_block ?_ | refine Q_block_ret ?_ | refine Q_block_here ?_ | refine Q_block_on rfl ?_ | refine C_scope ?_ | refine C_label ?_ | refine Q_asn ?_ | refine Q_then_pan ?_ | refine Q_block_pan ?_ | refine Q_scope (fun l h => by cases h) ?_
        have hjw := whileB_end (p := inComm) (t := t) (a := j) (by omega)
        exact ⟨j, ⟨rfl, ⟨rfl, rfl, trivial⟩, ⟨hj, by rw [← hg, ← hw, hjw], rfl⟩⟩, by omega⟩
    · rw [if_neg h37] at hg
      (refine C_region ?_
       <;> (first | refine M_str rfl ?_ | refine W_move ?_)
       <;> (first | refine M_int rfl ?_ | refine W_move ?_)
       <;> refine W_sidx rfl rfl (by assumption) ?_
       <;> (refine W_eql rfl rfl (fun hc => ?_) (fun hc => ?_) <;> try (exfalso; omega))
       <;> refine W_nil ?_)
      repeat'
        first
          | refine Q_then ?_ | refine C_cond_t rfl ?_ | refine C_cond_f rfl ?_ | refine C_seq ?_ | refine C_block ?_ | refine C_skip ?_ | refine C_ret ?_ | refine C_exit ?_
          | refine Q_then_ret ?_ | refine Q_then_exit ?_ | refine Q_block ?_ | refine Q_block_ret ?_ | refine Q_block_here ?_ | refine Q_block_on rfl ?_ | refine C_scope ?_ | refine C_label ?_ | refine Q_asn ?_ | refine Q_then_pan ?_ | refine Q_block_pan ?_ | refine Q_scope (fun l h => by cases h) ?_
      (refine C_region ?_
       <;> (first | refine M_str rfl ?_ | refine W_move ?_)
       <;> (first | refine M_int rfl ?_ | refine W_move ?_)
       <;> refine W_sidx rfl rfl (by assumption) ?_)
      -- at operation 3: <dst=(some 27) op=(call <callee=(value (func 23)) args=[(tmp 26)] argTypes=[5]>) type=4 guard=none>
      refine W_call (blankB_ok c _) rfl ?_
      rintro v w2 ⟨rfl, rfl⟩
      refine W_nil ?_
      cases hb : isBlank c with
      | true =>
        rw [if_pos hb] at hg
        repeat'
          first
            | refine Q_then ?_ | refine C_cond_t rfl ?_ | refine C_cond_f rfl ?_ | refine C_seq ?_ | refine C_block ?_ | refine C_skip ?_ | refine C_ret ?_ | refine C_exit ?_
            | refine Q_then_ret ?_ | refine Q_then_exit ?_ | refine Q_block ?_ | refine Q_block_ret ?_ | refine Q_block_here ?_ | refine Q_block_on rfl ?_ | refine C_scope ?_ | refine C_label ?_ | refine Q_asn ?_ | refine Q_then_pan ?_ | refine Q_block_pan ?_ | refine Q_scope (fun l h => by cases h) ?_
        (refine C_region ?_
         <;> (first | refine M_int rfl ?_ | refine W_move ?_)
         <;> refine W_add rfl rfl (by first | exact inR_i64 (by omega) (by omega) | exact inR_u8 (by omega) (by omega) | exact inR_u16 (by omega) (by omega)) ?_
         <;> (refine M_assign ?_; (first | refine M_int rfl ?_ | refine W_move ?_))
         <;> refine W_nil ?_)
        repeat'
          first
            | refine Q_then ?_ | refine C_cond_t rfl ?_ | refine C_cond_f rfl ?_ | refine C_seq ?_ | refine C_block ?_ | refine C_skip ?_ | refine C_ret ?_ | refine C_exit ?_
            | refine Q_then_ret ?_ | refine Q_then_exit ?_ | refine Q_block ?_ | refine Q_block_ret ?_ | refine Q_block_here ?_ | refine Q_block_on rfl ?_ | refine C_scope ?_ | refine C_label ?_ | refine Q_asn ?_ | refine Q_then_pan ?_ | refine Q_block_pan ?_ | refine Q_scope (fun l h => by cases h) ?_
        refine ⟨a + 1, ⟨rfl, ⟨rfl, ?_, trivial⟩, ⟨by omega, hg, rfl⟩⟩, by omega⟩
        show Value.int .i64 ((a : Int) + 1) = _
        rw [Int.natCast_add]; rfl
      | false =>
        rw [hb, if_neg (by simp)] at hg
        repeat'
          first
            | refine Q_then ?_ | refine C_cond_t rfl ?_ | refine C_cond_f rfl ?_ | refine C_seq ?_ | refine C_block ?_ | refine C_skip ?_ | refine C_ret ?_ | refine C_exit ?_
            | refine Q_then_ret ?_ | refine Q_then_exit ?_ | refine Q_block ?_ | refine Q_block_ret ?_ | refine Q_block_here ?_ | refine Q_block_on rfl ?_ | refine C_scope ?_ | refine C_label ?_ | refine Q_asn ?_ | refine Q_then_pan ?_ | refine Q_block_pan ?_ | refine Q_scope (fun l h => by cases h) ?_
        (refine C_region ?_
         <;> (first | refine M_int rfl ?_ | refine W_move ?_)
         <;> (refine M_assign ?_; (first | refine M_int rfl ?_ | refine W_move ?_))
         <;> refine W_nil ?_)
        repeat'
          first
            | refine Q_then ?_ | refine C_cond_t rfl ?_ | refine C_cond_f rfl ?_ | refine C_seq ?_ | refine C_block ?_ | refine C_skip ?_ | refine C_ret ?_ | refine C_exit ?_
            | refine Q_then_ret ?_ | refine Q_then_exit ?_ | refine Q_block ?_ | refine Q_block_ret ?_ | refine Q_block_here ?_ | refine Q_block_on rfl ?_ | refine C_scope ?_ | refine C_label ?_ | refine Q_asn ?_ | refine Q_then_pan ?_ | refine Q_block_pan ?_ | refine Q_scope (fun l h => by cases h) ?_
        exact fin_ret1 rfl ⟨by rw [← hg]; rfl, rfl⟩
  · obtain rfl : a = t.length := by omega
    (refine C_region ?_
     <;> (first | refine M_int rfl ?_ | refine W_move ?_)
     <;> (first | refine M_str rfl ?_ | refine W_move ?_)
     <;> refine W_slen rfl ?_
     <;> (refine W_lss rfl rfl (fun hc => ?_) (fun hc => ?_) <;> try (exfalso; omega))
     <;> refine W_nil ?_)
    repeat'
      first
        | refine Q_then ?_ | refine C_cond_t rfl ?_ | refine C_cond_f rfl ?_ | refine C_seq ?_ | refine C_block ?_ | refine C_skip ?_ | refine C_ret ?_ | refine C_exit ?_
        | refine Q_then_ret ?_ | refine Q_then_exit ?_ | refine Q_block ?_ | refine Q_block_ret ?_ | refine Q_block_here ?_ | refine Q_block_on rfl ?_ | refine C_scope ?_ | refine C_label ?_ | refine Q_asn ?_ | refine Q_then_pan ?_ | refine Q_block_pan ?_ | refine Q_scope (fun l h => by cases h) ?_
    (refine C_region ?_
     <;> (first | refine M_int rfl ?_ | refine W_move ?_)
     <;> (refine M_assign ?_; (first | refine M_int rfl ?_ | refine W_move ?_))
     <;> refine W_nil ?_)
    repeat'
      first
        | refine Q_then ?_ | refine C_cond_t rfl ?_ | refine C_cond_f rfl ?_ | refine C_seq ?_ | refine C_block ?_ | refine C_skip ?_ | refine C_ret ?_ | refine C_exit ?_
        | refine Q_then_ret ?_ | refine Q_then_exit ?_ | refine Q_block ?_ | refine Q_block_ret ?_ | refine Q_block_here ?_ | refine Q_block_on rfl ?_ | refine C_scope ?_ | refine C_label ?_ | refine Q_asn ?_ | refine Q_then_pan ?_ | refine Q_block_pan ?_ | refine Q_scope (fun l h => by cases h) ?_
    exact fin_ret1 rfl ⟨by rw [← hg, gapW_end]; rfl, rfl⟩
end Go.Proofs.YteonolnfgppagaaDoor
