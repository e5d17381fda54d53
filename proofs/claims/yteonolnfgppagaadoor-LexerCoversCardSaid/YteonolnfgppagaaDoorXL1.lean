/- The walk through LexerCovers. Conditions: none. -/
import Derived.Test.YteonolnfgppagaaDoorXG3
import Derived.Test.YteonolnfgppagaaDoorXQ5
namespace Go.Proofs.YteonolnfgppagaaDoor
open Go.RowKit
set_option linter.unusedVariables false

theorem covers_ok (w : World) (t : List UInt8) (hG : GV w) : Fn Tryd.prog 3 [strV t] w fun v w' => v = .bool true ∧ Ext w w' := by
  refine fn_of_wc Tryd.func3 rfl Tryd.ntmps3 (Nat.le_of_ble_eq_true rfl) (by kernel_rfl) ?_
  repeat'
    first
      | refine Q_then ?_ | refine C_cond_t rfl ?_ | refine C_cond_f rfl ?_ | refine C_seq ?_ | refine C_block ?_ | refine C_skip ?_ | refine C_ret ?_ | refine C_exit ?_
      | refine Q_then_ret ?_ | refine Q_then_exit ?_ | refine Q_block ?_ | refine Q_block_ret ?_ | refine Q_block_here ?_ | refine Q_block_on rfl ?_ | refine C_scope ?_ | refine C_label ?_ | refine Q_asn ?_ | refine Q_then_pan ?_ | refine Q_block_pan ?_ | refine Q_scope (fun l h => by cases h) ?_
  (refine C_region ?_
   <;> (refine M_assign ?_; (first | refine M_bool rfl ?_ | refine W_move ?_))
   <;> refine W_nil ?_)
  repeat'
    first
      | refine Q_then ?_ | refine C_cond_t rfl ?_ | refine C_cond_f rfl ?_ | refine C_seq ?_ | refine C_block ?_ | refine C_skip ?_ | refine C_ret ?_ | refine C_exit ?_
      | refine Q_then_ret ?_ | refine Q_then_exit ?_ | refine Q_block ?_ | refine Q_block_ret ?_ | refine Q_block_here ?_ | refine Q_block_on rfl ?_ | refine C_scope ?_ | refine C_label ?_ | refine Q_asn ?_ | refine Q_then_pan ?_ | refine Q_block_pan ?_ | refine Q_scope (fun l h => by cases h) ?_
  (refine C_region ?_)
  -- at operation 0: <dst=(some 10) op=(call <callee=(value (func 8)) args=[] argTypes=[]>) type=4 guard=none>
  refine W_call (head_ok w hG) rfl ?_
  rintro v w1 ⟨rfl, k1⟩
  ((refine M_assign ?_; (first | refine M_bool rfl ?_ | refine W_move ?_))
   <;> refine W_nil ?_)
  repeat'
    first
      | refine Q_then ?_ | refine C_cond_t rfl ?_ | refine C_cond_f rfl ?_ | refine C_seq ?_ | refine C_block ?_ | refine C_skip ?_ | refine C_ret ?_ | refine C_exit ?_
      | refine Q_then_ret ?_ | refine Q_then_exit ?_ | refine Q_block ?_ | refine Q_block_ret ?_ | refine Q_block_here ?_ | refine Q_block_on rfl ?_ | refine C_scope ?_ | refine C_label ?_ | refine Q_asn ?_ | refine Q_then_pan ?_ | refine Q_block_pan ?_ | refine Q_scope (fun l h => by cases h) ?_
  by_cases ht : 3000 < t.length
  · (refine C_region ?_
     <;> (first | refine M_str rfl ?_ | refine W_move ?_)
     <;> refine W_slen rfl ?_
     <;> (refine W_gtr rfl rfl (fun hc => ?_) (fun hc => ?_) <;> try (exfalso; omega))
     <;> refine W_nil ?_)
    repeat'
      first
        | refine Q_then ?_ | refine C_cond_t rfl ?_ | refine C_cond_f rfl ?_ | refine C_seq ?_ | refine C_block ?_ | refine C_skip ?_ | refine C_ret ?_ | refine C_exit ?_
        | refine Q_then_ret ?_ | refine Q_then_exit ?_ | refine Q_block ?_ | refine Q_block_ret ?_ | refine Q_block_here ?_ | refine Q_block_on rfl ?_ | refine C_scope ?_ | refine C_label ?_ | refine Q_asn ?_ | refine Q_then_pan ?_ | refine Q_block_pan ?_ | refine Q_scope (fun l h => by cases h) ?_
    (refine C_region ?_
     <;> (first | refine M_bool rfl ?_ | refine W_move ?_)
     <;> (refine M_assign ?_; (first | refine M_bool rfl ?_ | refine W_move ?_))
     <;> refine W_nil ?_)
    repeat'
      first
        | refine Q_then ?_ | refine C_cond_t rfl ?_ | refine C_cond_f rfl ?_ | refine C_seq ?_ | refine C_block ?_ | refine C_skip ?_ | refine C_ret ?_ | refine C_exit ?_
        | refine Q_then_ret ?_ | refine Q_then_exit ?_ | refine Q_block ?_ | refine Q_block_ret ?_ | refine Q_block_here ?_ | refine Q_block_on rfl ?_ | refine C_scope ?_ | refine C_label ?_ | refine Q_asn ?_ | refine Q_then_pan ?_ | refine Q_block_pan ?_ | refine Q_scope (fun l h => by cases h) ?_
    exact fin_ret1 rfl ⟨rfl, k1⟩
  (refine C_region ?_
   <;> (first | refine M_str rfl ?_ | refine W_move ?_)
   <;> refine W_slen rfl ?_
   <;> (refine W_gtr rfl rfl (fun hc => ?_) (fun hc => ?_) <;> try (exfalso; omega))
   <;> refine W_nil ?_)
  repeat'
    first
      | refine Q_then ?_ | refine C_cond_t rfl ?_ | refine C_cond_f rfl ?_ | refine C_seq ?_ | refine C_block ?_ | refine C_skip ?_ | refine C_ret ?_ | refine C_exit ?_
      | refine Q_then_ret ?_ | refine Q_then_exit ?_ | refine Q_block ?_ | refine Q_block_ret ?_ | refine Q_block_here ?_ | refine Q_block_on rfl ?_ | refine C_scope ?_ | refine C_label ?_ | refine Q_asn ?_ | refine Q_then_pan ?_ | refine Q_block_pan ?_ | refine Q_scope (fun l h => by cases h) ?_
  (refine C_region ?_
   <;> (first | refine M_str rfl ?_ | refine W_move ?_))
  -- at operation 1: <dst=(some 17) op=(call <callee=(value (func 9)) args=[(tmp 16)] argTypes=[9]>) type=25 guard=none>
  refine W_call (lexC w1 t (hG.ext k1)) rfl ?_
  rintro v w2 ⟨a, c, e, q, ts, rfl, k2, hT, h⟩
  have k12 := k1.trans k2
  ((first | refine M_tuple rfl ?_ | refine W_move ?_)
   <;> refine W_extract rfl rfl ?_
   <;> refine W_extract rfl rfl ?_
   <;> refine W_extract rfl rfl ?_
   <;> (refine M_assign ?_; (first | refine M_slice rfl ?_ | refine W_move ?_))
   <;> (refine M_assign ?_; (first | refine M_int rfl ?_ | refine W_move ?_))
   <;> (refine M_assign ?_; (first | refine M_int rfl ?_ | refine W_move ?_))
   <;> refine W_nil ?_)
  repeat'
    first
      | refine Q_then ?_ | refine C_cond_t rfl ?_ | refine C_cond_f rfl ?_ | refine C_seq ?_ | refine C_block ?_ | refine C_skip ?_ | refine C_ret ?_ | refine C_exit ?_
      | refine Q_then_ret ?_ | refine Q_then_exit ?_ | refine Q_block ?_ | refine Q_block_ret ?_ | refine Q_block_here ?_ | refine Q_block_on rfl ?_ | refine C_scope ?_ | refine C_label ?_ | refine Q_asn ?_ | refine Q_then_pan ?_ | refine Q_block_pan ?_ | refine Q_scope (fun l h => by cases h) ?_
  rcases h with ⟨hm, rfl, rfl⟩ | ⟨p, hm, he, rfl, rfl⟩
  case inr =>
    (refine C_region ?_
     <;> (first | refine M_int rfl ?_ | refine W_move ?_)
     <;> (refine W_neq rfl rfl (fun hc => ?_) (fun hc => ?_) <;> try (exfalso; omega))
     <;> refine W_nil ?_)
    repeat'
      first
        | refine Q_then ?_ | refine C_cond_t rfl ?_ | refine C_cond_f rfl ?_ | refine C_seq ?_ | refine C_block ?_ | refine C_skip ?_ | refine C_ret ?_ | refine C_exit ?_
        | refine Q_then_ret ?_ | refine Q_then_exit ?_ | refine Q_block ?_ | refine Q_block_ret ?_ | refine Q_block_here ?_ | refine Q_block_on rfl ?_ | refine C_scope ?_ | refine C_label ?_ | refine Q_asn ?_ | refine Q_then_pan ?_ | refine Q_block_pan ?_ | refine Q_scope (fun l h => by cases h) ?_
    (refine C_region ?_
     <;> (first | refine M_bool rfl ?_ | refine W_move ?_)
     <;> (first | refine M_bool rfl ?_ | refine W_move ?_)
     <;> (first | refine W_no rfl ?_ | (refine W_yes rfl ?_; (first | refine M_slice rfl ?_ | refine W_move ?_)))
     <;> (first | refine W_no rfl ?_ | (refine W_yes rfl ?_; refine W_len rfl ?_))
     <;> (first | refine W_no rfl ?_ | (refine W_yes rfl ?_; (refine W_eql rfl rfl (fun hc => ?_) (fun hc => ?_) <;> try (exfalso; omega))))
     <;> ((first | refine M_pick_t rfl ?_ | refine M_pick_f rfl ?_); (first | refine M_bool rfl ?_ | refine W_move ?_))
     <;> (refine M_assign ?_; (first | refine M_bool rfl ?_ | refine W_move ?_))
     <;> refine W_nil ?_)
    case refine_1.refine_2 => exact absurd rfl hc
    repeat'
      first
        | refine Q_then ?_ | refine C_cond_t rfl ?_ | refine C_cond_f rfl ?_ | refine C_seq ?_ | refine C_block ?_ | refine C_skip ?_ | refine C_ret ?_ | refine C_exit ?_
        | refine Q_then_ret ?_ | refine Q_then_exit ?_ | refine Q_block ?_ | refine Q_block_ret ?_ | refine Q_block_here ?_ | refine Q_block_on rfl ?_ | refine C_scope ?_ | refine C_label ?_ | refine Q_asn ?_ | refine Q_then_pan ?_ | refine Q_block_pan ?_ | refine Q_scope (fun l h => by cases h) ?_
    exact fin_ret1 rfl ⟨rfl, k12⟩
  (refine C_region ?_
   <;> (first | refine M_int rfl ?_ | refine W_move ?_)
   <;> (refine W_neq rfl rfl (fun hc => ?_) (fun hc => ?_) <;> try (exfalso; omega))
   <;> refine W_nil ?_)
  repeat'
    first
      | refine Q_then ?_ | refine C_cond_t rfl ?_ | refine C_cond_f rfl ?_ | refine C_seq ?_ | refine C_block ?_ | refine C_skip ?_ | refine C_ret ?_ | refine C_exit ?_
      | refine Q_then_ret ?_ | refine Q_then_exit ?_ | refine Q_block ?_ | refine Q_block_ret ?_ | refine Q_block_here ?_ | refine Q_block_on rfl ?_ | refine C_scope ?_ | refine C_label ?_ | refine Q_asn ?_ | refine Q_then_pan ?_ | refine Q_block_pan ?_ | refine Q_scope (fun l h => by cases h) ?_
  (refine C_region ?_
   <;> (refine M_assign ?_; (first | refine M_int rfl ?_ | refine W_move ?_))
   <;> refine W_nil ?_)
  repeat'
    first
      | refine Q_then ?_ | refine C_cond_t rfl ?_ | refine C_cond_f rfl ?_ | refine C_seq ?_ | refine C_block ?_ | refine C_skip ?_ | refine C_ret ?_ | refine C_exit ?_
      | refine Q_then_ret ?_ | refine Q_then_exit ?_ | refine Q_block ?_ | refine Q_block_ret ?_ | refine Q_block_here ?_ | refine Q_block_on rfl ?_ | refine C_scope ?_ | refine C_label ?_ | refine Q_asn ?_ | refine Q_then_pan ?_ | refine Q_block_pan ?_ | refine Q_scope (fun l h => by cases h) ?_
  (refine C_region ?_
   <;> (refine M_assign ?_; (first | refine M_int rfl ?_ | refine W_move ?_))
   <;> refine W_nil ?_)
  repeat'
    first
      | refine Q_then ?_ | refine C_cond_t rfl ?_ | refine C_cond_f rfl ?_ | refine C_seq ?_ | refine C_block ?_ | refine C_skip ?_ | refine C_ret ?_ | refine C_exit ?_
      | refine Q_then_ret ?_ | refine Q_then_exit ?_ | refine Q_block ?_ | refine Q_block_ret ?_ | refine Q_block_here ?_ | refine Q_block_on rfl ?_ | refine C_scope ?_ | refine C_label ?_ | refine Q_asn ?_ | refine Q_then_pan ?_ | refine Q_block_pan ?_ | refine Q_scope (fun l h => by cases h) ?_
  obtain ⟨hl6, hR⟩ := lexM_ok hm
  have bT : ts.length ≤ 9223372036854775807 := by obtain ⟨_, _, hv, h1, h2, _⟩ := id hT; cases hv; omega
  refine C_loop (α := Nat × Nat) (fun x => [(0, strV t), (3, .bool true), (4, .slice a ts.length c), (7, .int .i64 (x.2 : Int)), (8, .int .i64 (x.1 : Int))])
    (fun x w3 => x.1 ≤ ts.length ∧ Ext w2 w3 ∧ Reach1 t x.2 (ts.take x.1) t.length ts) (fun x => ts.length - x.1) (0, 0) ⟨rfl, rfl, rfl, rfl, rfl, trivial⟩ ⟨by simp, Ext.refl _, hR⟩ ?_
  rintro ⟨k, n⟩ w3 f3 ⟨hk, k3, hr⟩
  simp only at hk k3 hr ⊢
  repeat'
    first
      | refine Q_then ?_ | refine C_cond_t rfl ?_ | refine C_cond_f rfl ?_ | refine C_seq ?_ | refine C_block ?_ | refine C_skip ?_ | refine C_ret ?_ | refine C_exit ?_
      | refine Q_then_ret ?_ | refine Q_then_exit ?_ | refine Q_block ?_ | refine Q_block_ret ?_ | refine Q_block_here ?_ | refine Q_block_on rfl ?_ | refine C_scope ?_ | refine C_label ?_ | refine Q_asn ?_ | refine Q_then_pan ?_ | refine Q_block_pan ?_ | refine Q_scope (fun l h => by cases h) ?_
  by_cases hlt : k < ts.length
  · have htk : (ts.take k).length = k := by simp; omega
    obtain ⟨x, hx, r1, ht1, hl1, hb1, r2⟩ := hr.first (Nat.le_refl _) (by rw [htk]; exact hlt)
    rw [htk] at hx
    (refine C_region ?_
     <;> (first | refine M_int rfl ?_ | refine W_move ?_)
     <;> (first | refine M_slice rfl ?_ | refine W_move ?_)
     <;> refine W_len rfl ?_
     <;> (refine W_lss rfl rfl (fun hc => ?_) (fun hc => ?_) <;> try (exfalso; omega))
     <;> refine W_nil ?_)
    repeat'
      first
        | refine Q_then ?_ | refine C_cond_t rfl ?_ | refine C_cond_f rfl ?_ | refine C_seq ?_ | refine C_block ?_ | refine C_skip ?_ | refine C_ret ?_ | refine C_exit ?_
        | refine Q_then_ret ?_ | refine Q_then_exit ?_ | refine Q_block ?_ | refine Q_block_ret ?_ | refine Q_block_here ?_ | refine Q_block_on rfl ?_ | refine C_scope ?_ | refine C_label ?_ | refine Q_asn ?_ | refine Q_then_pan ?_ | refine Q_block_pan ?_ | refine Q_scope (fun l h => by cases h) ?_
    refine C_drawN (.read 0 (.read 1 (.read 2 (.read 3 (.read 4 (.read 5 (.read 6 (.read 7 (.read 8 (.read 9 (.read 10 (.read 11 (.read 12 .done))))))))))))) mixed (by kernel_rfl) (fun wd kd ed => ⟨fun W => W = wd, ?_, ?_⟩)
    · rfl
    obtain ⟨b, o, rfl, hc⟩ := ((hT.ext k3).ext kd).at hx
    have hc2 := hc 2 _ rfl
    have hc1 := hc 1 _ rfl
    ((apply D_R rfl rfl; (intro W hW; subst hW; (first | refine M_slice rfl ?_ | refine W_move ?_); exact W_nil ⟨rfl, rfl, rfl⟩))
     <;> (apply D_R rfl rfl; (intro W hW; subst hW; (first | refine M_int rfl ?_ | refine W_move ?_); exact W_nil ⟨rfl, rfl, rfl⟩))
     <;> (apply D_R rfl rfl; (intro W hW; subst hW; (first | refine W_idx1 rfl rfl rfl (by omega) ?_ | refine W_idx rfl rfl rfl (by omega) ?_ | refine W_indexAddr rfl rfl (by omega) (by omega) ?_); exact W_nil ⟨rfl, rfl, rfl⟩))
     <;> (apply D_R rfl rfl; (intro W hW; subst hW; refine W_fieldAddr rfl ?_; exact W_nil ⟨rfl, rfl, rfl⟩))
     <;> (apply D_R rfl rfl; (intro W hW; subst hW; (first | refine W_load rfl (Blk.cell (by assumption) (by rfl)) ?_ | refine W_load rfl (by assumption) ?_); exact W_nil ⟨rfl, rfl, rfl⟩))
     <;> (apply D_R rfl rfl; (intro W hW; subst hW; (first | refine M_slice rfl ?_ | refine W_move ?_); exact W_nil ⟨rfl, rfl, rfl⟩))
     <;> (apply D_R rfl rfl; (intro W hW; subst hW; (first | refine M_int rfl ?_ | refine W_move ?_); exact W_nil ⟨rfl, rfl, rfl⟩))
     <;> (apply D_R rfl rfl; (intro W hW; subst hW; (first | refine W_idx1 rfl rfl rfl (by omega) ?_ | refine W_idx rfl rfl rfl (by omega) ?_ | refine W_indexAddr rfl rfl (by omega) (by omega) ?_); exact W_nil ⟨rfl, rfl, rfl⟩))
     <;> (apply D_R rfl rfl; (intro W hW; subst hW; refine W_fieldAddr rfl ?_; exact W_nil ⟨rfl, rfl, rfl⟩))
     <;> (apply D_R rfl rfl; (intro W hW; subst hW; (first | refine W_load rfl (Blk.cell (by assumption) (by rfl)) ?_ | refine W_load rfl (by assumption) ?_); exact W_nil ⟨rfl, rfl, rfl⟩))
     <;> (apply D_R rfl rfl; (intro W hW; subst hW; refine W_slen rfl ?_; exact W_nil ⟨rfl, rfl, rfl⟩))
     <;> (apply D_R rfl rfl; (intro W hW; subst hW; refine W_add rfl rfl (by first | exact inR_i64 (by omega) (by omega) | exact inR_u8 (by omega) (by omega) | exact inR_u16 (by omega) (by omega)) ?_; exact W_nil ⟨rfl, rfl, rfl⟩))
     <;> (apply D_R rfl rfl; (intro W hW; subst hW; (refine M_assign ?_; (first | refine M_int rfl ?_ | refine W_move ?_)); exact W_nil ⟨rfl, rfl, rfl⟩))
     <;> refine D_nil ?_)
    have en : (x.loc : Int) + (x.text.length : Int) = ((x.loc + x.text.length : Nat) : Int) := by omega
    rw [en]
    have k4 := k3.trans kd
    have hlr := r1.le
    clear hc hc1 hc2
    repeat'
      first
        | refine Q_then ?_ | refine C_cond_t rfl ?_ | refine C_cond_f rfl ?_ | refine C_seq ?_ | refine C_block ?_ | refine C_skip ?_ | refine C_ret ?_ | refine C_exit ?_
        | refine Q_then_ret ?_ | refine Q_then_exit ?_ | refine Q_block ?_ | refine Q_block_ret ?_ | refine Q_block_here ?_ | refine Q_block_on rfl ?_ | refine C_scope ?_ | refine C_label ?_ | refine Q_asn ?_ | refine Q_then_pan ?_ | refine Q_block_pan ?_ | refine Q_scope (fun l h => by cases h) ?_
    refine C_drawN (.read 0 (.read 1 (.read 2 (.read 3 (.read 4 (.read 5 (.read 6 (.read 7 (.read 8 (.read 9 (.read 10 (.read 11 (.read 12 (.read 13 (.read 14 (.read 15 (.read 16 (.read 17 (.read 18 (.read 19 (.read 20 (.read 21 (.read 22 (.read 23 (.read 24 (.read 25 (.read 26 (.read 27 (.read 28 (.read 29 (.read 30 (.read 31 (.read 32 (.read 33 (.read 34 (.read 35 (.read 36 (.read 37 (.read 38 (.read 39 (.read 40 (.read 41 (.read 42 (.read 43 (.read 44 (.read 45 (.read 46 (.alt 47 (.read 48 (.read 49 .done)) .stop)))))))))))))))))))))))))))))))))))))))))))))))) mixed (by kernel_rfl) (fun wd kd ed => ⟨fun W => W = wd, ?_, ?_⟩)
    · rfl
    obtain ⟨b', o', hbo, hc⟩ := ((hT.ext k4).ext kd).at hx
    cases hbo
    have hc2 := hc 2 _ rfl
    have hc1 := hc 1 _ rfl
    ((apply D_R rfl rfl; (intro W hW; subst hW; (first | refine M_slice rfl ?_ | refine W_move ?_); exact W_nil ⟨rfl, rfl, rfl⟩))
     <;> (apply D_R rfl rfl; (intro W hW; subst hW; (first | refine M_int rfl ?_ | refine W_move ?_); exact W_nil ⟨rfl, rfl, rfl⟩))
     <;> (apply D_R rfl rfl; (intro W hW; subst hW; (first | refine W_idx1 rfl rfl rfl (by omega) ?_ | refine W_idx rfl rfl rfl (by omega) ?_ | refine W_indexAddr rfl rfl (by omega) (by omega) ?_); exact W_nil ⟨rfl, rfl, rfl⟩))
     <;> (apply D_R rfl rfl; (intro W hW; subst hW; refine W_fieldAddr rfl ?_; exact W_nil ⟨rfl, rfl, rfl⟩))
     <;> (apply D_R rfl rfl; (intro W hW; subst hW; (first | refine W_load rfl (Blk.cell (by assumption) (by rfl)) ?_ | refine W_load rfl (by assumption) ?_); exact W_nil ⟨rfl, rfl, rfl⟩))
     <;> (apply D_R rfl rfl; (intro W hW; subst hW; (first | refine M_int rfl ?_ | refine W_move ?_); exact W_nil ⟨rfl, rfl, rfl⟩))
     <;> (refine D_lss rfl rfl rfl rfl (fun hc => ?_) (fun hc => ?_) <;> try (exfalso; omega))
     <;> (apply D_R rfl rfl; (intro W hW; subst hW; (first | refine M_bool rfl ?_ | refine W_move ?_); exact W_nil ⟨rfl, rfl, rfl⟩))
     <;> (first | refine D_skip rfl rfl rfl rfl ?_ | (apply D_R rfl rfl; (intro W hW; refine W_no rfl ?_; exact W_nil ⟨rfl, rfl, rfl⟩)) | (apply D_R rfl rfl; (intro W hW; subst hW; (refine W_yes rfl ?_; (first | refine M_int rfl ?_ | refine W_move ?_)); exact W_nil ⟨rfl, rfl, rfl⟩)))
     <;> (first | refine D_skip rfl rfl rfl rfl ?_ | (apply D_R rfl rfl; (intro W hW; refine W_no rfl ?_; exact W_nil ⟨rfl, rfl, rfl⟩)) | (apply D_R rfl rfl; (intro W hW; subst hW; (refine W_yes rfl ?_; (first | refine M_str rfl ?_ | refine W_move ?_)); exact W_nil ⟨rfl, rfl, rfl⟩)))
     <;> (first | refine D_skip rfl rfl rfl rfl ?_ | (apply D_R rfl rfl; (intro W hW; refine W_no rfl ?_; exact W_nil ⟨rfl, rfl, rfl⟩)) | (apply D_R rfl rfl; (intro W hW; subst hW; (refine W_yes rfl ?_; refine W_slen rfl ?_); exact W_nil ⟨rfl, rfl, rfl⟩)))
     <;> (first | refine D_skip rfl rfl rfl rfl ?_ | (apply D_R rfl rfl; (intro W hW; refine W_no rfl ?_; exact W_nil ⟨rfl, rfl, rfl⟩)) | (refine D_gtr rfl rfl rfl rfl (fun hc => ?_) (fun hc => ?_) <;> try (exfalso; omega)))
     <;> (apply D_R rfl rfl; (intro W hW; subst hW; ((first | refine M_pick_t rfl ?_ | refine M_pick_f rfl ?_); (first | refine M_bool rfl ?_ | refine W_move ?_)); exact W_nil ⟨rfl, rfl, rfl⟩))
     <;> (apply D_R rfl rfl; (intro W hW; subst hW; (first | refine M_bool rfl ?_ | refine W_move ?_); exact W_nil ⟨rfl, rfl, rfl⟩))
     <;> (first | refine D_skip rfl rfl rfl rfl ?_ | (apply D_R rfl rfl; (intro W hW; refine W_no rfl ?_; exact W_nil ⟨rfl, rfl, rfl⟩)) | (apply D_R rfl rfl; (intro W hW; subst hW; (refine W_yes rfl ?_; (first | refine M_int rfl ?_ | refine W_move ?_)); exact W_nil ⟨rfl, rfl, rfl⟩)))
     <;> (first | refine D_skip rfl rfl rfl rfl ?_ | (apply D_R rfl rfl; (intro W hW; refine W_no rfl ?_; exact W_nil ⟨rfl, rfl, rfl⟩)) | (apply D_R rfl rfl; (intro W hW; subst hW; (refine W_yes rfl ?_; (first | refine M_slice rfl ?_ | refine W_move ?_)); exact W_nil ⟨rfl, rfl, rfl⟩)))
     <;> (first | refine D_skip rfl rfl rfl rfl ?_ | (apply D_R rfl rfl; (intro W hW; refine W_no rfl ?_; exact W_nil ⟨rfl, rfl, rfl⟩)) | (apply D_R rfl rfl; (intro W hW; subst hW; (refine W_yes rfl ?_; (first | refine M_int rfl ?_ | refine W_move ?_)); exact W_nil ⟨rfl, rfl, rfl⟩)))
     <;> (first | refine D_skip rfl rfl rfl rfl ?_ | (apply D_R rfl rfl; (intro W hW; refine W_no rfl ?_; exact W_nil ⟨rfl, rfl, rfl⟩)) | (apply D_R rfl rfl; (intro W hW; subst hW; (refine W_yes rfl ?_; (first | refine W_idx1 rfl rfl rfl (by omega) ?_ | refine W_idx rfl rfl rfl (by omega) ?_ | refine W_indexAddr rfl rfl (by omega) (by omega) ?_)); exact W_nil ⟨rfl, rfl, rfl⟩)))
     <;> (first | refine D_skip rfl rfl rfl rfl ?_ | (apply D_R rfl rfl; (intro W hW; refine W_no rfl ?_; exact W_nil ⟨rfl, rfl, rfl⟩)) | (apply D_R rfl rfl; (intro W hW; subst hW; (refine W_yes rfl ?_; refine W_fieldAddr rfl ?_); exact W_nil ⟨rfl, rfl, rfl⟩)))
     <;> (first | refine D_skip rfl rfl rfl rfl ?_ | (apply D_R rfl rfl; (intro W hW; refine W_no rfl ?_; exact W_nil ⟨rfl, rfl, rfl⟩)) | (apply D_R rfl rfl; (intro W hW; subst hW; (refine W_yes rfl ?_; (first | refine W_load rfl (Blk.cell (by assumption) (by rfl)) ?_ | refine W_load rfl (by assumption) ?_)); exact W_nil ⟨rfl, rfl, rfl⟩)))
     <;> (first | refine D_skip rfl rfl rfl rfl ?_ | (apply D_R rfl rfl; (intro W hW; refine W_no rfl ?_; exact W_nil ⟨rfl, rfl, rfl⟩)) | (refine D_leq rfl rfl rfl rfl (fun hc => ?_) (fun hc => ?_) <;> try (exfalso; omega)))
     <;> (apply D_R rfl rfl; (intro W hW; subst hW; ((first | refine M_pick_t rfl ?_ | refine M_pick_f rfl ?_); (first | refine M_bool rfl ?_ | refine W_move ?_)); exact W_nil ⟨rfl, rfl, rfl⟩))
     <;> (apply D_R rfl rfl; (intro W hW; subst hW; (first | refine M_bool rfl ?_ | refine W_move ?_); exact W_nil ⟨rfl, rfl, rfl⟩))
     <;> (first | refine D_skip rfl rfl rfl rfl ?_ | (apply D_R rfl rfl; (intro W hW; refine W_no rfl ?_; exact W_nil ⟨rfl, rfl, rfl⟩)) | (apply D_R rfl rfl; (intro W hW; subst hW; (refine W_yes rfl ?_; (first | refine M_str rfl ?_ | refine W_move ?_)); exact W_nil ⟨rfl, rfl, rfl⟩)))
     <;> (first | refine D_skip rfl rfl rfl rfl ?_ | (apply D_R rfl rfl; (intro W hW; refine W_no rfl ?_; exact W_nil ⟨rfl, rfl, rfl⟩)) | (apply D_R rfl rfl; (intro W hW; subst hW; (refine W_yes rfl ?_; (first | refine M_slice rfl ?_ | refine W_move ?_)); exact W_nil ⟨rfl, rfl, rfl⟩)))
     <;> (first | refine D_skip rfl rfl rfl rfl ?_ | (apply D_R rfl rfl; (intro W hW; refine W_no rfl ?_; exact W_nil ⟨rfl, rfl, rfl⟩)) | (apply D_R rfl rfl; (intro W hW; subst hW; (refine W_yes rfl ?_; (first | refine M_int rfl ?_ | refine W_move ?_)); exact W_nil ⟨rfl, rfl, rfl⟩)))
     <;> (first | refine D_skip rfl rfl rfl rfl ?_ | (apply D_R rfl rfl; (intro W hW; refine W_no rfl ?_; exact W_nil ⟨rfl, rfl, rfl⟩)) | (apply D_R rfl rfl; (intro W hW; subst hW; (refine W_yes rfl ?_; (first | refine W_idx1 rfl rfl rfl (by omega) ?_ | refine W_idx rfl rfl rfl (by omega) ?_ | refine W_indexAddr rfl rfl (by omega) (by omega) ?_)); exact W_nil ⟨rfl, rfl, rfl⟩)))
     <;> (first | refine D_skip rfl rfl rfl rfl ?_ | (apply D_R rfl rfl; (intro W hW; refine W_no rfl ?_; exact W_nil ⟨rfl, rfl, rfl⟩)) | (apply D_R rfl rfl; (intro W hW; subst hW; (refine W_yes rfl ?_; refine W_fieldAddr rfl ?_); exact W_nil ⟨rfl, rfl, rfl⟩)))
     <;> (first | refine D_skip rfl rfl rfl rfl ?_ | (apply D_R rfl rfl; (intro W hW; refine W_no rfl ?_; exact W_nil ⟨rfl, rfl, rfl⟩)) | (apply D_R rfl rfl; (intro W hW; subst hW; (refine W_yes rfl ?_; (first | refine W_load rfl (Blk.cell (by assumption) (by rfl)) ?_ | refine W_load rfl (by assumption) ?_)); exact W_nil ⟨rfl, rfl, rfl⟩)))
     <;> (first | refine D_skip rfl rfl rfl rfl ?_ | (apply D_R rfl rfl; (intro W hW; refine W_no rfl ?_; exact W_nil ⟨rfl, rfl, rfl⟩)) | (apply D_R rfl rfl; (intro W hW; subst hW; (refine W_yes rfl ?_; (first | refine M_int rfl ?_ | refine W_move ?_)); exact W_nil ⟨rfl, rfl, rfl⟩)))
     <;> (first | refine D_skip rfl rfl rfl rfl ?_ | (apply D_R rfl rfl; (intro W hW; refine W_no rfl ?_; exact W_nil ⟨rfl, rfl, rfl⟩)) | (apply D_R rfl rfl; (intro W hW; subst hW; (refine W_yes rfl ?_; refine W_sslice_lh rfl rfl rfl (by omega) (by omega) ?_); exact W_nil ⟨rfl, rfl, rfl⟩)))
     <;> (first | refine D_skip rfl rfl rfl rfl ?_ | (apply D_R rfl rfl; (intro W hW; refine W_no rfl ?_; exact W_nil ⟨rfl, rfl, rfl⟩)) | (apply D_R rfl rfl; (intro W hW; subst hW; (refine W_yes rfl ?_; (first | refine M_slice rfl ?_ | refine W_move ?_)); exact W_nil ⟨rfl, rfl, rfl⟩)))
     <;> (first | refine D_skip rfl rfl rfl rfl ?_ | (apply D_R rfl rfl; (intro W hW; refine W_no rfl ?_; exact W_nil ⟨rfl, rfl, rfl⟩)) | (apply D_R rfl rfl; (intro W hW; subst hW; (refine W_yes rfl ?_; (first | refine M_int rfl ?_ | refine W_move ?_)); exact W_nil ⟨rfl, rfl, rfl⟩)))
     <;> (first | refine D_skip rfl rfl rfl rfl ?_ | (apply D_R rfl rfl; (intro W hW; refine W_no rfl ?_; exact W_nil ⟨rfl, rfl, rfl⟩)) | (apply D_R rfl rfl; (intro W hW; subst hW; (refine W_yes rfl ?_; (first | refine W_idx1 rfl rfl rfl (by omega) ?_ | refine W_idx rfl rfl rfl (by omega) ?_ | refine W_indexAddr rfl rfl (by omega) (by omega) ?_)); exact W_nil ⟨rfl, rfl, rfl⟩)))
     <;> (first | refine D_skip rfl rfl rfl rfl ?_ | (apply D_R rfl rfl; (intro W hW; refine W_no rfl ?_; exact W_nil ⟨rfl, rfl, rfl⟩)) | (apply D_R rfl rfl; (intro W hW; subst hW; (refine W_yes rfl ?_; refine W_fieldAddr rfl ?_); exact W_nil ⟨rfl, rfl, rfl⟩)))
     <;> (first | refine D_skip rfl rfl rfl rfl ?_ | (apply D_R rfl rfl; (intro W hW; refine W_no rfl ?_; exact W_nil ⟨rfl, rfl, rfl⟩)) | (apply D_R rfl rfl; (intro W hW; subst hW; (refine W_yes rfl ?_; (first | refine W_load rfl (Blk.cell (by assumption) (by rfl)) ?_ | refine W_load rfl (by assumption) ?_)); exact W_nil ⟨rfl, rfl, rfl⟩)))
     <;> (first | refine D_skip rfl rfl rfl rfl ?_ | (apply D_R rfl rfl; (intro W hW; refine W_no rfl ?_; exact W_nil ⟨rfl, rfl, rfl⟩)) | (refine D_sneq rfl rfl rfl rfl (fun hc => ?_) (fun hc => ?_)))
     <;> (apply D_R rfl rfl; (intro W hW; subst hW; ((first | refine M_pick_t rfl ?_ | refine M_pick_f rfl ?_); (first | refine M_bool rfl ?_ | refine W_move ?_)); exact W_nil ⟨rfl, rfl, rfl⟩))
     <;> (apply D_R rfl rfl; (intro W hW; subst hW; (first | refine M_bool rfl ?_ | refine W_move ?_); exact W_nil ⟨rfl, rfl, rfl⟩))
     <;> (first | refine D_skip rfl rfl rfl rfl ?_ | (apply D_R rfl rfl; (intro W hW; refine W_no rfl ?_; exact W_nil ⟨rfl, rfl, rfl⟩)) | (apply D_R rfl rfl; (intro W hW; subst hW; (refine W_yes rfl ?_; (first | refine M_str rfl ?_ | refine W_move ?_)); exact W_nil ⟨rfl, rfl, rfl⟩)))
     <;> (first | refine D_skip rfl rfl rfl rfl ?_ | (apply D_R rfl rfl; (intro W hW; refine W_no rfl ?_; exact W_nil ⟨rfl, rfl, rfl⟩)) | (apply D_R rfl rfl; (intro W hW; subst hW; (refine W_yes rfl ?_; (first | refine M_int rfl ?_ | refine W_move ?_)); exact W_nil ⟨rfl, rfl, rfl⟩)))
     <;> (first | refine D_skip rfl rfl rfl rfl ?_ | (apply D_R rfl rfl; (intro W hW; refine W_no rfl ?_; exact W_nil ⟨rfl, rfl, rfl⟩)) | (apply D_R rfl rfl; (intro W hW; subst hW; (refine W_yes rfl ?_; (first | refine M_slice rfl ?_ | refine W_move ?_)); exact W_nil ⟨rfl, rfl, rfl⟩)))
     <;> (first | refine D_skip rfl rfl rfl rfl ?_ | (apply D_R rfl rfl; (intro W hW; refine W_no rfl ?_; exact W_nil ⟨rfl, rfl, rfl⟩)) | (apply D_R rfl rfl; (intro W hW; subst hW; (refine W_yes rfl ?_; (first | refine M_int rfl ?_ | refine W_move ?_)); exact W_nil ⟨rfl, rfl, rfl⟩)))
     <;> (first | refine D_skip rfl rfl rfl rfl ?_ | (apply D_R rfl rfl; (intro W hW; refine W_no rfl ?_; exact W_nil ⟨rfl, rfl, rfl⟩)) | (apply D_R rfl rfl; (intro W hW; subst hW; (refine W_yes rfl ?_; (first | refine W_idx1 rfl rfl rfl (by omega) ?_ | refine W_idx rfl rfl rfl (by omega) ?_ | refine W_indexAddr rfl rfl (by omega) (by omega) ?_)); exact W_nil ⟨rfl, rfl, rfl⟩)))
     <;> (first | refine D_skip rfl rfl rfl rfl ?_ | (apply D_R rfl rfl; (intro W hW; refine W_no rfl ?_; exact W_nil ⟨rfl, rfl, rfl⟩)) | (apply D_R rfl rfl; (intro W hW; subst hW; (refine W_yes rfl ?_; refine W_fieldAddr rfl ?_); exact W_nil ⟨rfl, rfl, rfl⟩)))
     <;> (first | refine D_skip rfl rfl rfl rfl ?_ | (apply D_R rfl rfl; (intro W hW; refine W_no rfl ?_; exact W_nil ⟨rfl, rfl, rfl⟩)) | (apply D_R rfl rfl; (intro W hW; subst hW; (refine W_yes rfl ?_; (first | refine W_load rfl (Blk.cell (by assumption) (by rfl)) ?_ | refine W_load rfl (by assumption) ?_)); exact W_nil ⟨rfl, rfl, rfl⟩)))
     <;> (first | refine D_skip rfl rfl rfl rfl ?_ | (apply D_R rfl rfl; (intro W hW; refine W_no rfl ?_; exact W_nil ⟨rfl, rfl, rfl⟩)) | (apply D_R rfl rfl; (intro W hW; subst hW; (refine W_yes rfl ?_; refine W_sslice_lh rfl rfl rfl (by omega) (by omega) ?_); exact W_nil ⟨rfl, rfl, rfl⟩))))
    -- at place 47, operation 47: <dst=(some 94) op=(call <callee=(value (func 10)) args=[(tmp 93)] argTypes=[9]>) type=4 guard=(some [38, false])>
    · exact absurd ht1.symm (by assumption)
    have hgap := gap_between r1 rfl (by omega)
    refine D_E rfl ?_
    refine W_yes rfl ?_
    refine W_call (gaps_ok ((t.take x.loc).drop n) wd (by simp; omega)) rfl ?_
    rintro v w5 ⟨rfl, rfl⟩
    rw [decide_eq_true hgap]
    refine W_nil ⟨fun W => W = _, fun _ h => h, rfl, ?_⟩
    ((first | refine D_skip rfl rfl rfl rfl ?_ | (apply D_R rfl rfl; (intro W hW; refine W_no rfl ?_; exact W_nil ⟨rfl, rfl, rfl⟩)) | (apply D_R rfl rfl; (intro W hW; subst hW; (refine W_yes rfl ?_; refine W_not rfl ?_); exact W_nil ⟨rfl, rfl, rfl⟩)))
     <;> (apply D_R rfl rfl; (intro W hW; subst hW; ((first | refine M_pick_t rfl ?_ | refine M_pick_f rfl ?_); (first | refine M_bool rfl ?_ | refine W_move ?_)); exact W_nil ⟨rfl, rfl, rfl⟩))
     <;> refine D_nil ?_)
    repeat'
      first
        | refine Q_then ?_ | refine C_cond_t rfl ?_ | refine C_cond_f rfl ?_ | refine C_seq ?_ | refine C_block ?_ | refine C_skip ?_ | refine C_ret ?_ | refine C_exit ?_
        | refine Q_then_ret ?_ | refine Q_then_exit ?_ | refine Q_block ?_ | refine Q_block_ret ?_ | refine Q_block_here ?_ | refine Q_block_on rfl ?_ | refine C_scope ?_ | refine C_label ?_ | refine Q_asn ?_ | refine Q_then_pan ?_ | refine Q_block_pan ?_ | refine Q_scope (fun l h => by cases h) ?_
    (refine C_region ?_
     <;> (first | refine M_int rfl ?_ | refine W_move ?_)
     <;> (refine M_assign ?_; (first | refine M_int rfl ?_ | refine W_move ?_))
     <;> refine W_nil ?_)
    repeat'
      first
        | refine Q_then ?_ | refine C_cond_t rfl ?_ | refine C_cond_f rfl ?_ | refine C_seq ?_ | refine C_block ?_ | refine C_skip ?_ | refine C_ret ?_ | refine C_exit ?_
        | refine Q_then_ret ?_ | refine Q_then_exit ?_ | refine Q_block ?_ | refine Q_block_ret ?_ | refine Q_block_here ?_ | refine Q_block_on rfl ?_ | refine C_scope ?_ | refine C_label ?_ | refine Q_asn ?_ | refine Q_then_pan ?_ | refine Q_block_pan ?_ | refine Q_scope (fun l h => by cases h) ?_
    (refine C_region ?_
     <;> (first | refine M_int rfl ?_ | refine W_move ?_)
     <;> refine W_add rfl rfl (by first | exact inR_i64 (by omega) (by omega) | exact inR_u8 (by omega) (by omega) | exact inR_u16 (by omega) (by omega)) ?_
     <;> (refine M_assign ?_; (first | refine M_int rfl ?_ | refine W_move ?_))
     <;> refine W_nil ?_)
    repeat'
      first
        | refine Q_then ?_ | refine C_cond_t rfl ?_ | refine C_cond_f rfl ?_ | refine C_seq ?_ | refine C_block ?_ | refine C_skip ?_ | refine C_ret ?_ | refine C_exit ?_
        | refine Q_then_ret ?_ | refine Q_then_exit ?_ | refine Q_block ?_ | refine Q_block_ret ?_ | refine Q_block_here ?_ | refine Q_block_on rfl ?_ | refine C_scope ?_ | refine C_label ?_ | refine Q_asn ?_ | refine Q_then_pan ?_ | refine Q_block_pan ?_ | refine Q_scope (fun l h => by cases h) ?_
    have etk : ts.take k ++ [x] = ts.take (k + 1) := by rw [List.take_add_one, hx]; rfl
    rw [etk] at r2
    refine ⟨(k + 1, x.loc + x.text.length), ⟨rfl, ⟨rfl, rfl, rfl, rfl, ?_, trivial⟩, ⟨by simp only; omega, k4.trans kd, r2⟩⟩, by simp only; omega⟩
    show Value.int .i64 ((k : Int) + 1) = _
    rw [Int.natCast_add]; rfl
  · obtain rfl : k = ts.length := by omega
    have hgap := gap_between hr (by simp) (Nat.le_refl _)
    rw [List.take_length] at hgap
    have hle := hr.le
    (refine C_region ?_
     <;> (first | refine M_int rfl ?_ | refine W_move ?_)
     <;> (first | refine M_slice rfl ?_ | refine W_move ?_)
     <;> refine W_len rfl ?_
     <;> (refine W_lss rfl rfl (fun hc => ?_) (fun hc => ?_) <;> try (exfalso; omega))
     <;> refine W_nil ?_)
    repeat'
      first
        | refine Q_then ?_ | refine C_cond_t rfl ?_ | refine C_cond_f rfl ?_ | refine C_seq ?_ | refine C_block ?_ | refine C_skip ?_ | refine C_ret ?_ | refine C_exit ?_
        | refine Q_then_ret ?_ | refine Q_then_exit ?_ | refine Q_block ?_ | refine Q_block_ret ?_ | refine Q_block_here ?_ | refine Q_block_on rfl ?_ | refine C_scope ?_ | refine C_label ?_ | refine Q_asn ?_ | refine Q_then_pan ?_ | refine Q_block_pan ?_ | refine Q_scope (fun l h => by cases h) ?_
    (refine C_region ?_
     <;> (first | refine M_bool rfl ?_ | refine W_move ?_)
     <;> (first | refine M_bool rfl ?_ | refine W_move ?_)
     <;> (first | refine W_no rfl ?_ | (refine W_yes rfl ?_; (first | refine M_str rfl ?_ | refine W_move ?_)))
     <;> (first | refine W_no rfl ?_ | (refine W_yes rfl ?_; (first | refine M_int rfl ?_ | refine W_move ?_)))
     <;> (first | refine W_no rfl ?_ | (refine W_yes rfl ?_; refine W_sslice_l rfl rfl (by omega) ?_)))
    -- at operation 5: <dst=(some 103) op=(call <callee=(value (func 10)) args=[(tmp 102)] argTypes=[9]>) type=4 guard=(some [1, true])>
    refine W_yes rfl ?_
    refine W_call (gaps_ok (t.drop n) w3 (by simp; omega)) rfl ?_
    rintro v w5 ⟨rfl, rfl⟩
    rw [decide_eq_true hgap]
    (((first | refine M_pick_t rfl ?_ | refine M_pick_f rfl ?_); (first | refine M_bool rfl ?_ | refine W_move ?_))
     <;> (refine M_assign ?_; (first | refine M_bool rfl ?_ | refine W_move ?_))
     <;> refine W_nil ?_)
    repeat'
      first
        | refine Q_then ?_ | refine C_cond_t rfl ?_ | refine C_cond_f rfl ?_ | refine C_seq ?_ | refine C_block ?_ | refine C_skip ?_ | refine C_ret ?_ | refine C_exit ?_
        | refine Q_then_ret ?_ | refine Q_then_exit ?_ | refine Q_block ?_ | refine Q_block_ret ?_ | refine Q_block_here ?_ | refine Q_block_on rfl ?_ | refine C_scope ?_ | refine C_label ?_ | refine Q_asn ?_ | refine Q_then_pan ?_ | refine Q_block_pan ?_ | refine Q_scope (fun l h => by cases h) ?_
    exact fin_ret1 rfl ⟨rfl, k12.trans k3⟩
end Go.Proofs.YteonolnfgppagaaDoor
